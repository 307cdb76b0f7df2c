/- Sym20 Sym22 Sym23 Sym24 Sym25 Sym26 Sym27 Sym28 Sym29 Sym31. No condition. -/
import Derived.Test.YtgmpdplpodemaaaGreatDoorSymG15
import Derived.Lib.AppendZeros
import Derived.LaidMore
set_option linter.all false
namespace Go.Sy
section
variable {P:Program} {Q:Exit→Nat→St→Prop} {nid:Nat} {st:St} {dst:Option Nat} {ty:TypeId} {pos:String} {af:Array Edge} {g:Option (Nat×Bool)} {K:Nat→Eff→Prop}
theorem zi{w:World} {J:Nat→Prop} {ρ:Rho} {z:Array Value} {zs:List Value}(hz:z=zs.toArray)(h1:zs.all Value.oneCell'=true)(n:Nat):
 ∀j (hj:j<(dU zs n).length),Rep w J ρ ((Builtin.zeroCells z n).getD j undef) (dU zs n)[j]:=by
 intro j hj
 have hcr:=oG (w:=w) (J:=J) (ρ:=ρ) hz h1 n
 have:=(hcr.2.1 j hj).2
 have hjm:j<n*zs.length:=by rw[gu] at hj;exact hj
 simpa[madeCells,Builtin.zeroCells,hz,Array.getD_eq_getD_getElem?,hjm] using this
theorem fA{e:TypeId} {es by':Nat} {zs:List Value} {kn:IntKind}(t tn:TypeId)(x y:Operand) [he:dK P t e] [hsz:fF P e es] [hb:tq P e by'] [hz:jB P e zs] [htn:lM P tn kn]
 (h:aH (uP (st.op x)) fun p=>aH (jg (st.op y)) fun k=>p=(true,[],0)∧zs.length=es∧zs.all Value.oneCell'=true∧0<es∧0<k∧k≤9223372036854775807∧k.toNat*by'≤281474976710656∧K 1 ⟨.sl nid 0 k.toNat es,[(nid,some (.cells (dU zs k.toNat) e))]⟩):
 AO P ⟨dst,.call ⟨.builtin .append,#[x,y],#[t,tn]⟩,ty,pos,af,g⟩ nid st K:=by
 obtain⟨p,h1,k,h2,rfl,h3,h4,h5,h6,h7,h8,h9⟩:=h
 refine⟨1,_,.alloc fun c ρ D J a w hs=>?_,h9⟩
 obtain⟨i,z,hi,his,hzi,hzc⟩:=jN hsz.out hz.out
 have hb':i.bytes=by':=by have:=hb.out;unfold byt at this;simpa[hi] using this
 have e1:=hs.op x;rw[adO h1] at e1
 obtain⟨kk,hk⟩:=gK h2
 have e2:=hs.op y;rw[hk] at e2
 have e2:=aG e2
 have hv0:a.eval x= .slice none 0 0:=by
  generalize hxx:AV.isl true [] 0=xx at e1
  generalize a.eval x=v at e1
  cases e1<;>simp at hxx
  rfl
 obtain⟨n,rfl⟩:∃n:Nat,k=n:=⟨k.toNat,by omega⟩
 simp only[Int.toNat_natCast] at h8⊢
 have hr:=Lib.run_append_nil_zeros (P:=P) w t tn ty e i z kk kn (aV he.out) (fq htn.out) hi hzi n (by omega) (by omega) h7 (by rw[hb'];exact h8)
 have hge:=grownCap_ge w n 0 e
 obtain⟨A,hA⟩:∃A,A=Builtin.zeroCells z.cells n++Builtin.zeroCells z.cells (grownCap w n 0 e-n):=⟨_,rfl⟩
 rw[←hA] at hr
 refine⟨.slice (some ⟨w.heap.size,0,none⟩) n (grownCap w n 0 e),w.drew.alloc (.cells A e),.cells A e,grownCap w n 0 e*es,?_,gP.drew w _,fun ρ' h1' h2'=>⟨.sl _ _ nid 0 n es _ h1' hge (by omega),A,(gP.drew w _).new,?_,?_,?_⟩⟩
 ·simp[execOp,resolve,invoke,builtin,hv0,e2,hr]
 ·rw[hA]
  simp only[Array.size_append,size_zeroCells,hzc,List.size_toArray,h3,←Nat.add_mul]
  congr 1;omega
 ·rw[gu,h3];exact Nat.mul_le_mul_right _ hge
 ·have:=(kG (w:=w.drew.alloc (.cells A e)) (J:=J) (ρ:=ρ') (vs:=(Builtin.zeroCells z.cells n).toList) (avs:=dU zs n) (Builtin.zeroCells z.cells (grownCap w n 0 e-n)) (jF h4 hzc _)
   (by simp[size_zeroCells,hzc,gu]) (fun u hu=>by
     have:=jF h4 hzc n
     rw[Array.all_eq_true_iff_forall_mem] at this
     exact this u (by simpa using hu)) (fun j hj=>by
     have:=zi (w:=w.drew.alloc (.cells A e)) (J:=J) (ρ:=ρ') hzc h4 n j hj
     simpa[List.getD_eq_getElem?_getD,Array.getD_eq_getD_getElem?] using this)).2
  simp only[Array.toArray_toList] at this
  rw[hA] at*
  exact this
def uf:Option aC→Option (List AV×TypeId)
 |some (.full cs e)=>some (cs,e)
 |_=>none
theorem Nk{cs:List AV} {e:TypeId}:uf (some (.full cs e))=some (cs,e):=rfl
theorem ug{o:Option aC} {p:List AV×TypeId}(h:uf o=some p):o=some (.full p.1 p.2):=by
 unfold uf at h
 split at h
 ·cases h;rfl
 ·cases h
theorem gF{e:TypeId} {es by':Nat} {zs:List Value} {kn:IntKind}(t tn:TypeId)(x y:Operand) [he:dK P t e] [hsz:fF P e es] [hb:tq P e by'] [hz:jB P e zs] [htn:lM P tn kn]
 (h:aH (yM (st.op x)) fun p=>aH (uf (st.ob p.1)) fun o=>aH (jg (st.op y)) fun k=>p.2.2.2=es∧o.2=e∧zs.length=es∧zs.all Value.oneCell'=true∧0<es∧0<k∧p.2.1+p.2.2.1*es≤o.1.length∧o.1.length<p.2.1+(p.2.2.1+k.toNat)*es∧
   (p.2.2.1+k.toNat)*by'≤140737488355328∧p.2.2.1+k.toNat≤9223372036854775807∧K 1 ⟨.sl nid 0 (p.2.2.1+k.toNat) es,[(nid,some (.cells ((o.1.drop p.2.1).take (p.2.2.1*es)++dU zs k.toNat) e))]⟩):
 AO P ⟨dst,.call ⟨.builtin .append,#[x,y],#[t,tn]⟩,ty,pos,af,g⟩ nid st K:=by
 obtain⟨⟨id,off,len,es'⟩,h1,⟨cs,e'⟩,h2,k,hk0,h3,h4,h5,h6,h7,h8,h9,h10,h11,h12,h13⟩:=h
 dsimp only at h2 h3 h4 h9 h10 h11 h12 h13
 subst h3;subst h4
 have hx:=mH h1;dsimp only at hx
 have ho:=ug h2;dsimp only at ho
 refine⟨1,_,.alloc fun c ρ D J a w hs=>?_,h13⟩
 obtain⟨i,z,hi,his,hzi,hzc⟩:=jN hsz.out hz.out
 have hb':i.bytes=by':=by have:=hb.out;unfold byt at this;simpa[hi] using this
 have e1:=hs.op x;rw[hx] at e1
 obtain⟨kk,hk⟩:=gK hk0
 have e2:=hs.op y;rw[hk] at e2
 have e2:=aG e2
 obtain⟨n,rfl⟩:∃n:Nat,k=n:=⟨k.toNat,by omega⟩
 simp only[Int.toNat_natCast] at h10 h11 h12⊢
 obtain⟨b,s,k1,k2,_⟩:=hs.obj _ _ ho
 have k2':=k2.unfull
 obtain⟨arr,g1,g2,g3,_⟩:=k2
 obtain⟨f,hf⟩:=gJ k2'
 generalize hv:a.eval x=v at e1
 cases e1 with
 |sl b' s' _ _ _ _ cap hρ hc hs'=>
  rw[k1] at hρ;cases hρ
  have hcap:¬(len+n≤cap):=by
   intro hle
   have:(len+n)*es'≤cap*es':=Nat.mul_le_mul_right _ hle
   omega
  have hnw:IntKind.i64.wrap (n:Int)=n:=M8 (by omega)
  have hge:=grownCap_ge w (len+n) cap e'
  have hne:n≠0:=by omega
  have h63':¬(9223372036854775807<((len:Int)+(n:Int))):=by omega
  have hfits:¬(281474976710656<Builtin.nextslicecap (len+n) cap*i.bytes):=by
   have:=growslice_fits (need:=len+n) (old:=cap) (bytes:=i.bytes) (by omega) (by rw[hb'];exact h11)
   omega
  have h48i:¬(281474976710656<(n:Int)*(i.bytes:Int)):=by
   have h:n*i.bytes≤(len+n)*i.bytes:=Nat.mul_le_mul_right _ (by omega)
   rw[hb'] at h⊢
   rw[←Int.natCast_mul]
   omega
  have hneg:¬((n:Int)<0):=by omega
  have hns:¬(n*i.size=0):=Nat.mul_ne_zero hne (by omega)
  have hol:((List.range (len*es')).map fun j=>f (off+j)).length=len*i.size:=by simp[his]
  have hfo:=run_firstCells_some (P:=P) w.drew i.size len ⟨b,off,none⟩ len cap ((List.range (len*es')).map fun j=>f (off+j)) hol (fun j v hj=>by
   obtain⟨hlt,rfl⟩:=List.getElem?_eq_some_iff.1 hj
   have hj':j<len*es':=by simpa using hlt
   rw[Addr.add_lit]
   have:=(hf (off+j) (by omega)).1
   simpa using this)
  have hcn:¬(len+n≤cap):=hcap
  have hr:(Builtin.append_ #[t,tn] ty #[.slice (some ⟨b,off,none⟩) len cap,.int kk n]).run P w= .ok (.slice (some ⟨w.heap.size,0,none⟩) (len+n) (grownCap w (len+n) cap e'))
   (w.drew.alloc (.cells (((List.range (len*es')).map fun j=>f (off+j)).toArray++Builtin.zeroCells z.cells n++Builtin.zeroCells z.cells (grownCap w (len+n) cap e'-(len+n))) e')):=by
   simp[Builtin.append_,run_underlying (aV he.out),run_underlying (fq htn.out),sizeOf,typeInfo,zeroValue,hi,hzi,asInt,asIntOf,hnw,hne,hneg,hns,hcn,h63',hfits,h48i,Question.forced,hfo,newRow,grownCap]
  obtain⟨A,hA⟩:∃A,A=((List.range (len*es')).map fun j=>f (off+j)).toArray++Builtin.zeroCells z.cells n++Builtin.zeroCells z.cells (grownCap w (len+n) cap e'-(len+n)):=⟨_,rfl⟩
  rw[←hA] at hr
  refine⟨.slice (some ⟨w.heap.size,0,none⟩) (len+n) (grownCap w (len+n) cap e'),w.drew.alloc (.cells A e'),.cells A e',grownCap w (len+n) cap e'*es',?_,gP.drew w _,fun ρ' h1' h2'=>⟨.sl _ _ nid 0 (len+n) es' _ h1' hge (by omega),A,(gP.drew w _).new,?_,?_,?_⟩⟩
  ·simp[execOp,resolve,invoke,builtin,hv,e2,hr]
  ·rw[hA]
   simp only[Array.size_append,List.size_toArray,List.length_map,List.length_range,size_zeroCells,hzc,h5,←Nat.add_mul]
   congr 1;omega
  ·rw[List.length_append,gu,h5,List.length_take,List.length_drop,Nat.min_eq_left (by omega),←Nat.add_mul];exact Nat.mul_le_mul_right _ hge
  ·have hz1:=jF h6 hzc n
   rw[Array.all_eq_true_iff_forall_mem] at hz1
   have:=(kG (w:=w.drew.alloc (.cells A e')) (J:=J) (ρ:=ρ') (vs:=(List.range (len*es')).map (fun j=>f (off+j))++(Builtin.zeroCells z.cells n).toList) (avs:=(cs.drop off).take (len*es')++dU zs n) (Builtin.zeroCells z.cells (grownCap w (len+n) cap e'-(len+n))) (jF h6 hzc _)
    (by rw[List.length_append,List.length_append,List.length_map,List.length_range,List.length_take,List.length_drop,Nat.min_eq_left (by omega)];simp[size_zeroCells,hzc,gu]) (fun u hu=>by
      rcases List.mem_append.1 hu with hu|hu
      ·obtain⟨j,hj,rfl⟩:=List.mem_map.1 hu
       have hj':j<len*es':=by simpa using hj
       exact(hf (off+j) (by omega)).2.1
      ·exact hz1 u (by simpa using hu)) (fun j hj=>by
      have htl:((cs.drop off).take (len*es')).length=len*es':=by rw[List.length_take,List.length_drop];omega
      by_cases hjl:j<len*es'
      ·rw[List.getElem_append_left (by omega)]
       have e3:((List.range (len*es')).map (fun j=>f (off+j))++(Builtin.zeroCells z.cells n).toList).getD j undef=f (off+j):=by
        rw[List.getD_eq_getElem?_getD,List.getElem?_append_left (by simpa using hjl)];simp[hjl]
       rw[e3]
       have:=(hf (off+j) (by omega)).2.2
       have:=this.grew (gP.drew w (.cells A e')) h2'
       simpa using this
      ·rw[List.getElem_append_right (by omega)]
       have e3:((List.range (len*es')).map (fun j=>f (off+j))++(Builtin.zeroCells z.cells n).toList).getD j undef=(Builtin.zeroCells z.cells n).getD (j-len*es') undef:=by
        rw[List.getD_eq_getElem?_getD,List.getElem?_append_right (by simp;omega)];simp[Array.getD_eq_getD_getElem?]
       rw[e3]
       have hjz:j-len*es'<(dU zs n).length:=by rw[List.length_append,htl] at hj;omega
       have:=zi (w:=w.drew.alloc (.cells A e')) (J:=J) (ρ:=ρ') hzc h6 n (j-len*es') hjz
       simpa[htl] using this)).2
   have e4:((List.range (len*es')).map (fun j=>f (off+j))++(Builtin.zeroCells z.cells n).toList).toArray=((List.range (len*es')).map fun j=>f (off+j)).toArray++Builtin.zeroCells z.cells n:=by
    apply Array.ext';simp
   rw[e4] at this
   rw[hA] at*
   exact this
theorem jP{e:TypeId} {es:Nat}(t:TypeId)(x:Operand)(lo hi:Option Operand) [ht:dK P t e] [hsz:fF P e es](h:aH (yM (st.op x)) fun p=>aH (xB (st.ob p.1)) fun o=>aH (bq st 0 lo) fun l=>aH (bq st p.2.2.1 hi) fun u=>p.2.2.2=es∧0<es∧(0≤l∧l≤u)∧p.2.1+u.toNat*es≤o.1.length∧
 (l<u∨l=0)∧K 0 ⟨.sl p.1 (p.2.1+l.toNat*es) (u.toNat-l.toNat) es,[]⟩):AO P ⟨dst,.slice t x lo hi none,ty,pos,af,g⟩ nid st K:=by
 obtain⟨⟨id,off,len,es'⟩,h1,⟨cs,e'⟩,h2,l,hl,u,hu,h3,h4,⟨h5,h6⟩,h7,h8,h9⟩:=h
 dsimp only at h2 h3 h4 h7 hu h9
 subst h3
 have hx:=mH h1;dsimp only at hx
 have ho:=lu h2;dsimp only at ho
 refine⟨0,_,.pure fun c ρ D J a w hs=>?_,h9⟩
 have hr:=hs.op x;rw[hx] at hr
 have hty:=aV ht.out
 obtain⟨b,s,k1,⟨arr,k2,k3,k4,k5,k6⟩,k7,k8⟩:=hs.obj _ _ ho
 generalize hv:a.eval x=v at hr
 cases hr with
 |sl b' s' _ _ _ _ cap hρ hc hs'=>
  rw[k1] at hρ;cases hρ
  have hcap:u.toNat≤cap:=by
   have:u.toNat*es'≤cap*es':=by omega
   exact Nat.le_of_mul_le_mul_right this h4
  have hb:=ic (P:=P) hs true len cap lo hi l u hl hu h5 h6 (by omega)
  refine⟨.slice (some ⟨b,off+l.toNat*es',none⟩) (u.toNat-l.toNat) (cap-l.toNat),?_,.sl b s id _ _ es' (cap-l.toNat) k1 (by omega) ?_⟩
  ·simp only[execOp,hv,Instr.sliceAt,Sem.run_bind,run_underlying hty,Result.andThen_ok,Instr.slice,Option.map_none,hb,Sem.run_pure,cK hsz.out]
   by_cases hcl:cap=l.toNat
   ·have:l.toNat=0:=by omega
    rw[if_pos hcl,this];simp
   ·rw[if_neg hcl];simp[Addr.add_lit]
  ·rw[Nat.add_assoc,←Nat.add_mul,show l.toNat+(cap-l.toNat)=cap by omega];exact hs'
theorem df{e:TypeId} {es:Nat}(t:TypeId)(x y:Operand) [he:dK P t e] [hsz:fF P e es]
 (h:aH (uP (st.op x)) fun p=>aH (gy st (st.op y)) fun q=>p=(true,[],0)∧q.1=[]∧q.2=0∧K 0 ⟨.isl true [] 0,[]⟩):AO P ⟨dst,.call ⟨.builtin .append,#[x,y],#[t,t]⟩,ty,pos,af,g⟩ nid st K:=by
 obtain⟨p,h1,⟨cells,m⟩,h2,rfl,h3,h4,h5⟩:=h
 dsimp only at h3 h4
 subst h3;subst h4
 refine⟨0,_,.pure fun c ρ D J a w hs=>?_,h5⟩
 have e1:=hs.op x;rw[adO h1] at e1
 obtain⟨i,hi,his⟩:∃i,P.info? e=some i∧i.size=es:=by
  have:=hsz.out
  unfold siz at this
  cases hi:P.info? e with
  |none=>simp[hi] at this
  |some i=>exact⟨i,rfl,by simpa[hi] using this⟩
 have hv0:a.eval x= .slice none 0 0:=by
  generalize hxx:AV.isl true [] 0=xx at e1
  generalize a.eval x=v at e1
  cases e1<;>simp at hxx
  rfl
 refine⟨.slice none 0 0,?_,.inil⟩
 rcases qU hs (hs.op y) h2 (show([]:List AV).length=0*es by simp) with⟨hy0,_,_⟩|⟨ad,cp,news,hyv,hmc,hnl,hnews,hone,hrep⟩
 ·simp[execOp,resolve,invoke,builtin,hv0,hy0,Builtin.append_,run_underlying (aV he.out),sizeOf,typeInfo,hi,Builtin.lenOf,Builtin.firstCells,storeCells]
 ·simp[execOp,resolve,invoke,builtin,hv0,hyv,Builtin.append_,run_underlying (aV he.out),sizeOf,typeInfo,hi,Builtin.lenOf,Builtin.firstCells,storeCells,loadCells,loadCellsFrom]
end
attribute [push_cast] Nk Kh Nh Ni Nj YN YO Bool.and_eq_true Bool.and_eq_false_iff Bool.or_eq_true Bool.or_eq_false_iff e_fn
end Go.Sy
namespace Go.Sy
def AV.plain:AV→Bool
 | .val _| .isl _ _ _| .ipt _ _=>true
 |_=>false
class aa(α:Type)(w:outParam Nat) where
 cells:α→List AV
 len:∀a,(cells a).length=w
 sc:∀a,(cells a).all AV.scalar=true
 pl:∀a,(cells a).all AV.plain=true
def cR{α:Type} {w:Nat} [aa α w](l:List α):List AV:=l.flatMap aa.cells
theorem jH(τ:Nat→Nat):∀(x:AV),bnd 0 x→ren τ x=x
 | .val v,_=>by simp[ren]
 | .isl z cs n,_=>by simp[ren]
 | .ipt cs n,_=>by simp[ren]
 | .any,_=>by simp[ren]
 | .sl id _ _ _,h=>by simp[bnd] at h
 | .pt id _,h=>by simp[bnd] at h
 | .mp id,h=>by simp[bnd] at h
 | .yl id,h=>by simp[bnd] at h
 | .agg cs,h=>by
   simp only[bnd] at h
   simp only[ren,AV.agg.injEq]
   exact(List.map_congr_left (fun x hx=>jH τ x (h x hx))).trans (List.map_id' cs)
 | .tup cs,h=>by
   simp only[bnd] at h
   simp only[ren,AV.tup.injEq]
   exact(List.map_congr_left (fun x hx=>jH τ x (h x hx))).trans (List.map_id' cs)
 | .fn f cs,h=>by
   simp only[bnd] at h
   simp only[ren,AV.fn.injEq,true_and]
   exact(List.map_congr_left (fun x hx=>jH τ x (h x hx))).trans (List.map_id' cs)
theorem jI(id:Nat)(cs:List AV):∀(x:AV),bnd 0 x→bQ id cs x=x
 | .val v,_=>by simp[bQ]
 | .isl z cs n,_=>by simp[bQ]
 | .ipt cs n,_=>by simp[bQ]
 | .any,_=>by simp[bQ]
 | .sl id _ _ _,h=>by simp[bnd] at h
 | .pt id _,h=>by simp[bnd] at h
 | .mp id,h=>by simp[bnd] at h
 | .yl id,h=>by simp[bnd] at h
 | .agg l,h=>by
   simp only[bnd] at h
   simp only[bQ,AV.agg.injEq]
   exact(List.map_congr_left (fun x hx=>jI id cs x (h x hx))).trans (List.map_id' l)
 | .tup l,h=>by
   simp only[bnd] at h
   simp only[bQ,AV.tup.injEq]
   exact(List.map_congr_left (fun x hx=>jI id cs x (h x hx))).trans (List.map_id' l)
 | .fn f l,h=>by
   simp only[bnd] at h
   simp only[bQ,AV.fn.injEq,true_and]
   exact(List.map_congr_left (fun x hx=>jI id cs x (h x hx))).trans (List.map_id' l)
theorem jJ(n:Nat):∀(x:AV),bnd 0 x→bnd n x
 | .val v,_=>by simp[bnd]
 | .isl z cs n,_=>by simp[bnd]
 | .ipt cs n,_=>by simp[bnd]
 | .any,_=>by simp[bnd]
 | .sl id _ _ _,h=>by simp[bnd] at h
 | .pt id _,h=>by simp[bnd] at h
 | .mp id,h=>by simp[bnd] at h
 | .yl id,h=>by simp[bnd] at h
 | .agg l,h=>by simp only[bnd] at h⊢;exact fun x hx=>jJ n x (h x hx)
 | .tup l,h=>by simp only[bnd] at h⊢;exact fun x hx=>jJ n x (h x hx)
 | .fn f l,h=>by simp only[bnd] at h⊢;exact fun x hx=>jJ n x (h x hx)
theorem ui{st:St} {σ:List Nat} {fz:Bool} {n:Nat}(h:0<n):∀(x:AV),x.plain=true→toA st σ fz n x=x
 | .val v,_=>ry h
 | .isl z cs n,_=>Hq h
 | .ipt cs n,_=>Hr h
 | .any,h| .sl _ _ _ _,h| .pt _ _,h| .mp _,h| .yl _,h| .agg _,h| .tup _,h| .fn _ _,h=>by simp[AV.plain] at h
theorem uj{st:St} {σ:List Nat} {n:Nat}(h:0<n):∀(x:AV),x.plain=true→dfz st σ n x=x
 | .val v,_=>ru h
 | .isl z cs n,_=>Hm h
 | .ipt cs n,_=>Ho h
 | .any,h| .sl _ _ _ _,h| .pt _ _,h| .mp _,h| .yl _,h| .agg _,h| .tup _,h| .fn _ _,h=>by simp[AV.plain] at h
theorem oN:∀(x:AV),x.plain=true→bnd 0 x
 | .val v,_=>by simp[bnd]
 | .isl z cs n,_=>by simp[bnd]
 | .ipt cs n,_=>by simp[bnd]
 | .any,h| .sl _ _ _ _,h| .pt _ _,h| .mp _,h| .yl _,h| .agg _,h| .tup _,h| .fn _ _,h=>by simp[AV.plain] at h
theorem aa.cl{α:Type} {w:Nat} [C:aa α w](a:α)(x:AV)(hx:x∈aa.cells a):bnd 0 x:=oN x (List.all_eq_true.1 (C.pl a) x hx)
section
variable {α:Type} {w:Nat} [C:aa α w] [Inhabited α]{l m:List α} {j k i:Nat}
theorem oO{a:α}:cR (a::l)=aa.cells a++cR l:=by simp[cR]
theorem YP:cR ([]:List α)=[]:=rfl
theorem fT:(cR l).length=l.length*w:=by
 induction l with
 |nil=>simp[cR]
 |cons a l ih=>rw[oO,List.length_append,ih,C.len,List.length_cons,Nat.add_mul];omega
theorem uk:cR l++cR m=cR (l++m):=by simp[cR]
theorem Nl{a:α}:cR l++aa.cells a=cR (l++[a]):=by simp[cR]
theorem wo:(cR l).drop (k*w)=cR (l.drop k):=by
 induction l generalizing k with
 |nil=>simp[cR]
 |cons a l ih=>
  cases k with
  |zero=>simp
  |succ k=>rw[oO,List.drop_append,C.len,List.drop_eq_nil_of_le (by rw[C.len,Nat.add_mul];omega),List.nil_append,show(k+1)*w-w=k*w by rw[Nat.add_mul];omega,ih,List.drop_succ_cons]
theorem Ai:(cR l).take (k*w)=cR (l.take k):=by
 induction l generalizing k with
 |nil=>simp[cR]
 |cons a l ih=>
  cases k with
  |zero=>simp[cR]
  |succ k=>rw[oO,List.take_append,C.len,List.take_of_length_le (by rw[C.len,Nat.add_mul];omega),show(k+1)*w-w=k*w by rw[Nat.add_mul];omega,ih,List.take_succ_cons,oO]
theorem Nn:(cR l).drop w=cR (l.drop 1):=by have:=wo (l:=l) (k:=1);rwa [Nat.one_mul] at this
theorem CL(h:0<l.length):(cR l).take w=aa.cells (l.getD 0 default):=by
 cases l with
 |nil=>simp at h
 |cons a l=>rw[oO,List.take_append,C.len,List.take_of_length_le (by rw[C.len];exact Nat.le_refl _)];simp
theorem Ht(h:j<l.length):((cR l).drop (j*w)).take w=aa.cells (l.getD j default):=by
 rw[wo,CL (by simp;omega)]
 simp[List.getD_eq_getElem?_getD]
theorem Ff(h:j<l.length)(hi:i<w):(cR l)[j*w+i]? =(aa.cells (l.getD j default))[i]? :=by
 rw[←Ht h,List.getElem?_take,if_pos hi,List.getElem?_drop]
theorem TG(h:j<l.length)(hi:0<w):(cR l)[j*w]? =(aa.cells (l.getD j default))[0]? :=Ff h hi
theorem dI(hi:i<w)(h:0<l.length):(cR l)[i]? =(aa.cells (l.getD 0 default))[i]? :=by
 have:=Ff h hi;rwa [Nat.zero_mul,Nat.zero_add] at this
theorem ach(hi:0<w)(h:0<l.length):(cR l)[0]? =(aa.cells (l.getD 0 default))[0]? :=dI hi h
theorem aci(hi:1<w)(h:0<l.length):(cR l)[1]? =(aa.cells (l.getD 0 default))[1]? :=dI hi h
theorem acj(hi:2<w)(h:0<l.length):(cR l)[2]? =(aa.cells (l.getD 0 default))[2]? :=dI hi h
theorem ack(hi:3<w)(h:0<l.length):(cR l)[3]? =(aa.cells (l.getD 0 default))[3]? :=dI hi h
theorem acl(hi:4<w)(h:0<l.length):(cR l)[4]? =(aa.cells (l.getD 0 default))[4]? :=dI hi h
theorem acm(hi:5<w)(h:0<l.length):(cR l)[5]? =(aa.cells (l.getD 0 default))[5]? :=dI hi h
theorem acn(hi:6<w)(h:0<l.length):(cR l)[6]? =(aa.cells (l.getD 0 default))[6]? :=dI hi h
theorem aco(hi:7<w)(h:0<l.length):(cR l)[7]? =(aa.cells (l.getD 0 default))[7]? :=dI hi h
theorem acp(hi:8<w)(h:0<l.length):(cR l)[8]? =(aa.cells (l.getD 0 default))[8]? :=dI hi h
theorem acr(hi:9<w)(h:0<l.length):(cR l)[9]? =(aa.cells (l.getD 0 default))[9]? :=dI hi h
theorem YQ(hi:10<w)(h:0<l.length):(cR l)[10]? =(aa.cells (l.getD 0 default))[10]? :=dI hi h
theorem YR(hi:11<w)(h:0<l.length):(cR l)[11]? =(aa.cells (l.getD 0 default))[11]? :=dI hi h
theorem YS(hi:12<w)(h:0<l.length):(cR l)[12]? =(aa.cells (l.getD 0 default))[12]? :=dI hi h
theorem YT(hi:13<w)(h:0<l.length):(cR l)[13]? =(aa.cells (l.getD 0 default))[13]? :=dI hi h
theorem YU(hi:14<w)(h:0<l.length):(cR l)[14]? =(aa.cells (l.getD 0 default))[14]? :=dI hi h
theorem YV(hi:15<w)(h:0<l.length):(cR l)[15]? =(aa.cells (l.getD 0 default))[15]? :=dI hi h
theorem YW(hi:16<w)(h:0<l.length):(cR l)[16]? =(aa.cells (l.getD 0 default))[16]? :=dI hi h
theorem YX(hi:17<w)(h:0<l.length):(cR l)[17]? =(aa.cells (l.getD 0 default))[17]? :=dI hi h
theorem YY(hi:18<w)(h:0<l.length):(cR l)[18]? =(aa.cells (l.getD 0 default))[18]? :=dI hi h
theorem YZ(hi:19<w)(h:0<l.length):(cR l)[19]? =(aa.cells (l.getD 0 default))[19]? :=dI hi h
theorem Y0(hi:20<w)(h:0<l.length):(cR l)[20]? =(aa.cells (l.getD 0 default))[20]? :=dI hi h
theorem Y2(hi:21<w)(h:0<l.length):(cR l)[21]? =(aa.cells (l.getD 0 default))[21]? :=dI hi h
theorem Y3(hi:22<w)(h:0<l.length):(cR l)[22]? =(aa.cells (l.getD 0 default))[22]? :=dI hi h
theorem Y4(hi:23<w)(h:0<l.length):(cR l)[23]? =(aa.cells (l.getD 0 default))[23]? :=dI hi h
theorem Y5(τ:Nat→Nat):(cR l).map (ren τ)=cR l:=by
 refine(List.map_congr_left (fun x hx=>jH τ x ?_)).trans (List.map_id' _)
 obtain⟨a,_,ha⟩:=List.mem_flatMap.1 hx
 exact aa.cl a x ha
theorem Y6(id:Nat)(cs:List AV):(cR l).map (bQ id cs)=cR l:=by
 refine(List.map_congr_left (fun x hx=>jI id cs x ?_)).trans (List.map_id' _)
 obtain⟨a,_,ha⟩:=List.mem_flatMap.1 hx
 exact aa.cl a x ha
theorem Y7{st:St} {σ:List Nat} {fz:Bool} {n:Nat}(h:0<n):(cR l).map (toA st σ fz n)=cR l:=by
 refine(List.map_congr_left (fun x hx=>?_)).trans (List.map_id' _)
 obtain⟨a,_,ha⟩:=List.mem_flatMap.1 hx
 exact ui h x (List.all_eq_true.1 (C.pl a) x ha)
theorem Y8{st:St} {σ:List Nat} {n:Nat}(h:0<n):(cR l).map (dfz st σ n)=cR l:=by
 refine(List.map_congr_left (fun x hx=>?_)).trans (List.map_id' _)
 obtain⟨a,_,ha⟩:=List.mem_flatMap.1 hx
 exact uj h x (List.all_eq_true.1 (C.pl a) x ha)
theorem Y9(n:Nat):(∀x∈cR l,bnd n x)=True:=by
 refine eq_true (fun x hx=>jJ n x ?_)
 obtain⟨a,_,ha⟩:=List.mem_flatMap.1 hx
 exact aa.cl a x ha
theorem Za:(cR l).all AV.scalar=true:=by
 rw[List.all_eq_true]
 intro x hx
 obtain⟨a,_,ha⟩:=List.mem_flatMap.1 hx
 exact List.all_eq_true.1 (C.sc a) x ha
theorem Fg{a:α}:cR [a]=aa.cells a:=by simp[cR]
def rA(l:List α)(k:Nat)(m:List α):List α:=l.take k++(m++l.drop (k+m.length))
theorem Hu:spl (cR l) (k*w) (cR m)=cR (rA l k m):=by
 unfold spl rA
 rw[fT,←Nat.add_mul,Ai,wo,uk,uk]
theorem Np{a:α}:spl (cR l) (k*w) (aa.cells a)=cR (rA l k [a]):=by
 have:=Hu (l:=l) (k:=k) (m:=[a])
 rwa [show cR [a]=aa.cells a by simp[cR]] at this
theorem Nq{a:α}(h:k<l.length):rA l k [a]=l.set k a:=by
 unfold rA;rw[List.set_eq_take_append_cons_drop,if_pos h];rfl
theorem Zb{a:α} {n:Nat} {zs:List Value}(h:zs.map ofV=aa.cells a):dU zs n=cR (List.replicate n a):=by
 unfold dU cR
 rw[h]
 induction n with
 |zero=>rfl
 |succ n ih=>simp[List.replicate_succ,ih]
theorem Km{d:α}:(l.drop k).getD i d=l.getD (k+i) d:=by simp[List.getD_eq_getElem?_getD]
end
theorem Nr{α:Type} {l m:List α} {k:Nat}(h:k+m.length≤l.length):(rA l k m).length=l.length:=by
 unfold rA;simp;omega
theorem CO{α:Type} {l m:List α} {k:Nat}:(rA l k m).length=min k l.length+(m.length+(l.length-(k+m.length))):=by
 unfold rA;simp
theorem Kn{α:Type} {l m:List α} {k j:Nat}(h:j≤k)(hk:k≤l.length):(rA l k m).take j=l.take j:=by
 unfold rA
 rw[List.take_append,List.take_take,Nat.min_eq_left h,List.length_take,show j-min k l.length=0 by omega,List.take_zero,List.append_nil]
theorem Fh{α:Type} {l m:List α} {k j:Nat}(hk:k≤l.length)(h:j=k+m.length):(rA l k m).take j=l.take k++m:=by
 subst h
 unfold rA
 rw[List.take_append,List.take_take,List.length_take,Nat.min_eq_right (by omega),Nat.min_eq_left hk,show k+m.length-k=m.length by omega,List.take_append,List.take_length,Nat.sub_self,List.take_zero,List.append_nil]
theorem tn_1{a b c:Nat}(h:c≤b):((a:Int)+((b:Int)-(c:Int))).toNat=a+(b-c):=by omega
theorem tn_2{b c:Nat}:((b:Int)-(c:Int)).toNat=b-c:=by omega
theorem tn_3{a b:Nat}:((a:Int)+(b:Int)).toNat=a+b:=by omega
theorem tn_4{a:Nat}:((a:Int)+1).toNat=a+1:=by omega
theorem tn_5{a:Nat}:((a:Int)-1).toNat=a-1:=by omega
theorem tn_6{a b:Nat}:((a:Int)+(b:Int)+1).toNat=a+b+1:=by omega
theorem tn_7{a b c:Nat}(h:c≤a+b):((a:Int)+(b:Int)-(c:Int)).toNat=a+b-c:=by omega
theorem tn_8{a c:Nat}(h:c≤a+1):((a:Int)+1-(c:Int)).toNat=a+1-c:=by omega
theorem ax_1{a b:Int}:a+(b-a)=b:=by omega
theorem ax_2{a b:Nat}(h:a≤b):a+(b-a)=b:=by omega
theorem ax_3{a:Nat} {α:Type} {x:α}:List.replicate (a-a) x=[]:=by simp
theorem ax_4{a b:Nat}(h:a≤b):min a b=a:=Nat.min_eq_left h
theorem ax_5{a b:Nat}(h:b≤a):min a b=b:=Nat.min_eq_right h
theorem Zc{zs:List Value}:dU zs 1=zs.map ofV++dU zs 0:=rfl
theorem Zd{zs:List Value}:dU zs 2=zs.map ofV++dU zs 1:=rfl
theorem Ze{zs:List Value}:dU zs 3=zs.map ofV++dU zs 2:=rfl
theorem Zf{zs:List Value}:dU zs 4=zs.map ofV++dU zs 3:=rfl
theorem Zg{zs:List Value}:dU zs 5=zs.map ofV++dU zs 4:=rfl
theorem Zh{zs:List Value}:dU zs 6=zs.map ofV++dU zs 5:=rfl
theorem Zi{zs:List Value}:dU zs 7=zs.map ofV++dU zs 6:=rfl
theorem Zj{zs:List Value}:dU zs 8=zs.map ofV++dU zs 7:=rfl
theorem Zk{zs:List Value}:dU zs 9=zs.map ofV++dU zs 8:=rfl
theorem TH{zs:List Value}:dU zs 10=zs.map ofV++dU zs 9:=rfl
theorem TI{zs:List Value}:dU zs 11=zs.map ofV++dU zs 10:=rfl
theorem TJ{zs:List Value}:dU zs 12=zs.map ofV++dU zs 11:=rfl
theorem Ko{zs:List Value}:dU zs 0=[]:=rfl
def AV.isVal:AV→Bool
 | .val _=>true
 |_=>false
class CellsV(α:Type){w:Nat} [aa α w]:Prop where nv:∀a:α,(aa.cells a).all AV.isVal=true
theorem Ns{α:Type} {w:Nat} [aa α w] [C:CellsV α](l:List α):(∀x∈cR l,noImm x)=True:=by
 refine eq_true (fun x hx=>?_)
 obtain⟨a,_,ha⟩:=List.mem_flatMap.1 hx
 have:=List.all_eq_true.1 (C.nv a) x ha
 cases x<;>simp[AV.isVal] at this
 simp[noImm]
theorem TK{α:Type} {cs:List α} {off:Nat}:spl cs off []=cs:=by unfold spl;simp
attribute [push_cast] Ns Fg fT uk wo Ai Nn CL Ff TG ach aci acj ack acl acm acn aco acp acr YQ YR YS YT YU YV YW YX YY YZ Y0 Y2 Y3 Y4 Y5 Y6 Y7 Y8 Y9 Za YP Hu Km TK
attribute [push_cast] Zc Zd Ze Zf Zg Zh Zi Zj Zk TH TI TJ
attribute [push_cast] ax_1 ax_2 ax_3 ax_4 ax_5 tn_1 tn_2 tn_3 tn_4 tn_5 tn_6 tn_7 tn_8 Ko Nr Kn Fh
attribute [push_cast] Ht
attribute [push_cast] List.length_drop List.length_take Nat.sub_zero Int.sub_zero
end Go.Sy
namespace Go.Sy
attribute [push_cast] Int.toNat_natCast
def vB(n:Nat):List Value:=List.replicate n (.bool false)
def fB(n:Nat):List Bool:=List.replicate n false
theorem Zl{n:Nat}:(vB n).map ofV=cB (fB n):=by simp[vB,fB,cB,ofV]
theorem Zm{n:Nat}:(vB n).length=n:=by simp[vB]
theorem Zn{n:Nat}:(fB n).length=n:=by simp[fB]
theorem Zo{n:Nat}:(vB n).all Value.oneCell'=true:=by simp[vB,Value.oneCell']
attribute [push_cast] Zl Zm Zn Zo
def oP(P:Program):Nat→List Field→Option (List (Option IntKind))
 |_,[]=>some []
 |i,f::fs=>match oP P (i+1) fs with
  |some ks=>if f.offset=i∧f.name≠ "_" then(match lT P f.type with
   |some k=>some (some k::ks)
   |none=>if qo P f.type then some (none::ks) else none) else none
  |none=>none
def WK(P:Program)(t:TypeId):Option (List (Option IntKind)):=match P.underlying t with
 |some (.struct fs)=>if P.stoodInHeld t then none else oP P 0 fs.toList
 |_=>none
class TMix(P:Program)(t:TypeId)(ks:outParam (List (Option IntKind))):Prop where
 out:WK P t=some ks
 gd:P.eqGuardType P.depth t=false
def okM:List (Option IntKind)→List AV→Bool
 |[],[]=>true
 |some k::ks,.val (.int k' _)::l=>k==k'&&okM ks l
 |none::ks,.val (.string _)::l=>okM ks l
 |_,_=>false
theorem acs:okM [] []=true:=rfl
theorem Nt{k k':IntKind} {n:Int} {ks:List (Option IntKind)} {l:List AV}:okM (some k::ks) (.val (.int k' n)::l)=(k==k'&&okM ks l):=rfl
theorem Nu{s:ByteArray} {ks:List (Option IntKind)} {l:List AV}:okM (none::ks) (.val (.string s)::l)=okM ks l:=rfl
theorem Nv{P:Program} {w:World} {t:TypeId}(h:qo P t=true){cs:Array Value} {i:Nat} {v:Value}(hv:cs[i]? =some v):(part t cs i).run P w= .ok v w:=by
 have ha:iX P t=some false:=by unfold iX;rw[gZ h];rfl
 obtain⟨hlt,rfl⟩:=Array.getElem?_eq_some_iff.1 hv
 simp[part,d9 ha,hlt]
theorem yP{P:Program} {d:Nat} {xs:Array Value}:∀(fs:List Field) (i:Nat) (ks:List (Option IntKind)) (cs:List AV) (w:World),oP P i fs=some ks→okM ks cs=true→
 (∀j v,cs[j]? =some (.val v)→xs[i+j]? =some v)→(Op.eqFields (d+1) xs xs fs).run P w= .ok true w:=by
 intro fs
 induction fs with
 |nil=>intro i ks cs w _ _ _;simp[Op.eqFields]
 |cons f fs ih=>
  intro i ks cs w h hc hx
  unfold oP at h
  split at h
  ·rename_i ks' hks
   split at h
   ·rename_i hcn
    split at h
    ·rename_i k hk
     cases h
     match cs,hc,hx with
     | .val (.int k' n)::cs,hc,hx=>
       rw[Nt,Bool.and_eq_true] at hc
       have hkk:k=k':=by have:=hc.1;cases k<;>cases k'<;>first|rfl|cases this
       subst hkk
       have e1:=nS (w:=w) hk (hx 0 _ rfl)
       simp only[Nat.add_zero] at e1
       have e3:=ih (i+1) ks' cs w hks hc.2 (fun j v h2=>by have:=hx (j+1) v (by simpa using h2);rwa [show i+(j+1)=i+1+j by omega] at this)
       have e4:(Op.equalIn (d+1) f.type (.int k n) (.int k n)).run P w= .ok (n==n) w:=run_equalIn_int w d f.type k k n n (fq hk)
       simp only[Op.eqFields,if_pos hcn.2,Sem.run_bind,hcn.1,e1,Result.andThen_ok,e4]
       simp[e3]
    ·split at h
     ·rename_i hs
      cases h
      match cs,hc,hx with
      | .val (.string s)::cs,hc,hx=>
        rw[Nu] at hc
        have e1:=Nv (w:=w) hs (hx 0 _ rfl)
        simp only[Nat.add_zero] at e1
        have e3:=ih (i+1) ks' cs w hks hc (fun j v h2=>by have:=hx (j+1) v (by simpa using h2);rwa [show i+(j+1)=i+1+j by omega] at this)
        have e4:(Op.equalIn (d+1) f.type (.string s) (.string s)).run P w= .ok (s.toList==s.toList) w:=run_equalIn_string w d f.type s s (gZ hs)
        simp only[Op.eqFields,if_pos hcn.2,Sem.run_bind,hcn.1,e1,Result.andThen_ok,e4]
        simp[e3]
     ·cases h
   ·cases h
  ·cases h
section
variable {P:Program} {Q:Exit→Nat→St→Prop} {nid:Nat} {st:St} {dst:Option Nat} {ty:TypeId} {pos:String} {af:Array Edge} {g:Option (Nat×Bool)} {K:Nat→Eff→Prop}
theorem aU{ks:List (Option IntKind)}(t:TypeId)(x y:Operand)(t':TypeId) [ht:TMix P t ks](h:aH (xA (st.op x)) fun cs=>aH (xA (st.op y)) fun ds=>okM ks cs=true∧cs=ds∧K 0 ⟨.val (.bool false),[]⟩):
 AO P ⟨dst,.binOp .neq t x y t',ty,pos,af,g⟩ nid st K:=by
 obtain⟨cs,h1,ds,h2,h3,rfl,h5⟩:=h
 refine⟨0,_,.pure fun c ρ D J a w hs=>?_,h5⟩
 have e1:=hs.op x;have e2:=hs.op y
 rw[rf h1] at e1;rw[rf h2] at e2
 have key:∀(ks:List (Option IntKind)) (cs:List AV),okM ks cs=true→∀j (h:j<cs.length),∃v,cs[j]= .val v:=by
  intro ks
  induction ks with
  |nil=>intro cs h j hj;cases cs with|nil=>simp at hj|cons a l=>cases h
  |cons k ks ih=>
   intro cs h j hj
   match k,cs,h with
   |some k,.val (.int k' n)::cs,h=>
    rw[Nt,Bool.and_eq_true] at h
    cases j with
    |zero=>exact⟨_,rfl⟩
    |succ j=>exact ih cs h.2 j (by simpa using hj)
   |none,.val (.string s)::cs,h=>
    rw[Nu] at h
    cases j with
    |zero=>exact⟨_,rfl⟩
    |succ j=>exact ih cs h j (by simpa using hj)
 have same:∀{u v:Value},Rep w J ρ u (.agg cs)→Rep w J ρ v (.agg cs)→∃vs:Array Value,u= .agg vs∧v= .agg vs∧∀(j:Nat) (x:Value),cs[j]? =some (AV.val x)→vs[j]? =some x:=by
  intro u v hu hv
  cases hu with
  |agg vs _ hs1 g1=>
   cases hv with
   |agg us _ hs2 g2=>
    have val:∀(vs:Array Value),vs.size=cs.length→(∀j (h:j<cs.length),Rep w J ρ (vs.getD j undef) cs[j])→∀(j:Nat) (x:Value),cs[j]? =some (AV.val x)→vs[j]? =some x:=by
     intro vs hs g j x hj
     obtain⟨hlt,he⟩:=List.getElem?_eq_some_iff.1 hj
     have:=g j hlt
     rw[he] at this
     have e:=aG this
     have hj':j<vs.size:=by rw[hs];exact hlt
     rw[Array.getElem?_eq_getElem hj',←e]
     simp[Array.getD,hj']
    have h1:=val vs hs1 g1
    have h2:=val us hs2 g2
    refine⟨vs,rfl,?_,h1⟩
    congr 1
    apply Array.ext_getElem?
    intro j
    by_cases hj:j<cs.length
    ·obtain⟨x,hx⟩:=key ks cs h3 j hj
     have hx':cs[j]? =some (.val x):=by rw[List.getElem?_eq_getElem hj,hx]
     rw[h1 j x hx',h2 j x hx']
    ·rw[Array.getElem?_eq_none (by omega),Array.getElem?_eq_none (by omega)]
 obtain⟨vs,k1,k2,k3⟩:=same e1 e2
 refine⟨_,?_,.val _⟩
 have heq:(Op.equalIn (9998+1+1) t (.agg vs) (.agg vs)).run P w= .ok true w:=by
  have ho:=ht.out
  unfold WK at ho
  split at ho
  ·rename_i fs hu
   split at ho
   ·cases ho
   ·rename_i hst
    have hst':P.stoodInHeld t=false:=by simpa using hst
    have hf:P.fieldsOf t=fs:=by unfold Program.fieldsOf;rw[hu]
    rw[run_equalIn_struct w (9998+1) t _ _ (by rw[hf];exact hu) hst',hf]
    exact yP fs.toList 0 ks cs w ho h3 (fun j v hj=>by rw[Nat.zero_add];exact k3 j v hj)
  ·cases ho
 have heq':(Op.equalIn Op.maxDepth t (.agg vs) (.agg vs)).run P w= .ok true w:=heq
 simp only[execOp,k1,k2,Sem.run_bind,run_eqGuard_agg w _ t x y _ _ ht.gd,Result.andThen_ok,binOp,Op.equal]
 simp[heq']
end
attribute [push_cast] acs Nt Nu
section
variable {P:Program} {Q:Exit→Nat→St→Prop} {nid:Nat} {st:St} {dst:Option Nat} {ty:TypeId} {pos:String} {af:Array Edge} {g:Option (Nat×Bool)} {K:Nat→Eff→Prop}
theorem Aj(t:TypeId)(ps:Array (Nat×Operand))(zs:List Value)(n:Nat)(e:TypeId)(es:Nat)(out:List AV)(hz:iM P t=some zs)(ha:wV P t=some (n,e))(hs:siz P e=some es)
 (hf:jE (fun i=>some (i*es,es)) (zs.map ofV) (ps.toList.map fun p=>(p.1,st.op p.2))=some out):OpT P ⟨dst,.build t ps,ty,pos,af,g⟩ nid 0 st ⟨.agg out,[]⟩:= .pure fun c ρ D J a w h=>by
 obtain⟨z,hr,hc⟩:=mr (w:=w) hz
 have hu:=kw ha
 have h0:VRep w J ρ z.cells (zs.map ofV):=by
  rw[hc]
  refine⟨by simp,fun j hj=>?_⟩
  have hj':j<zs.length:=by simpa using hj
  simpa[Array.getD,hj'] using mq zs[j]
 obtain⟨c',hfill,hv⟩:=wW (w:=w) (J:=J) (ρ:=ρ) (fun i=>some (i*es,es)) (ps.toList.map fun p=>(p.1,st.op p.2)) (ps.toList.map fun p=>(p.1,a.eval p.2)) z.cells _ out h0 hf (by simp) (fun j hj=>by
  have hj':j<ps.toList.length:=by simpa using hj
  have:=h.op ps.toList[j].2
  simpa[List.getD_eq_getElem?_getD,List.getElem?_map,List.getElem?_eq_getElem hj'] using this)
 refine⟨.agg c',?_,.agg _ _ hv.1 hv.2⟩
 simp only[execOp,Instr.build,Sem.run_bind,hr,Result.andThen_ok,run_underlying hu,cK hs]
 have e1:(Array.map (fun x=>(x.1,a.eval x.2)) ps).toList=List.map (fun p=>(p.1,a.eval p.2)) ps.toList:=by simp
 simp[e1,hfill]
theorem iw{zs:List Value} {n es:Nat} {e:TypeId}(t:TypeId)(ps:Array (Nat×Operand)) [hz:jB P t zs] [ha:yG P t n e] [hs:fF P e es]
 (h:aH (jE (fun i=>some (i*es,es)) (zs.map ofV) (ps.toList.map fun p=>(p.1,st.op p.2))) fun out=>K 0 ⟨.agg out,[]⟩):AO P ⟨dst,.build t ps,ty,pos,af,g⟩ nid st K:=by
 obtain⟨out,h1,h2⟩:=h
 exact⟨_,_,Aj t ps zs n e es out hz.out ha.out hs.out h1,h2⟩
end
theorem Nw{ag:Bool} {n:Nat} {l:List (List Int×AV)} {τ:Nat→Nat}:pM τ (.map ag n l)= .map ag n (l.map fun x=>(x.1,ren τ x.2)):=rfl
theorem Ny{ag:Bool} {n id:Nat} {cs:List AV} {l:List (List Int×AV)}:vU id cs (.map ag n l)= .map ag n (l.map fun x=>(x.1,bQ id cs x.2)):=rfl
attribute [push_cast] Nw Ny
theorem lnz:(∀{α:Type} {a:α} {l:List α},(a::l).length=l.length+1)∧(∀{α:Type},([]:List α).length=0)∧(∀l,(cS l).length=l.length)∧(∀l,(cB l).length=l.length)∧(∀k l,(cI k l).length=l.length)∧
 (∀{α:Type} {n:Nat} {a:α},(List.replicate n a).length=n)∧(∀{α β:Type} {f:α→β} {l:List α},(l.map f).length=l.length)∧(∀{α:Type} {l m:List α},(l++m).length=l.length+m.length)∧
 (∀{α:Type} {l:List α} {i:Nat} {a:α},(l.set i a).length=l.length)∧(∀{α:Type} {l:List α} {i:Nat},(l.take i).length=min i l.length)∧(∀{α:Type} {l:List α} {i:Nat},(l.drop i).length=l.length-i)∧
 (∀{α:Type} {l m:List α} {k:Nat},(rA l k m).length=min k l.length+(m.length+(l.length-(k+m.length)))):=
 ⟨rfl,rfl,M0,M4,fun _=>EW,List.length_replicate,List.length_map _,List.length_append,List.length_set,List.length_take,List.length_drop,CO⟩
theorem vI{a:Prop}(h:a:=by(first|omega|assumption|((try clear hK);first|(simp;done)|(simp;omega)|(simp_all;done)|((try simp);split<;>first|omega|(simp_all;done)|(simp_all;omega))))):a:=h
theorem aI{a b:Prop}(k:b)(h:a:=by(first|omega|assumption|((try clear hK);first|(simp;done)|(simp;omega)|(simp_all;done)|((try simp);split<;>first|omega|(simp_all;done)|(simp_all;omega))))):a∧b:=⟨h,k⟩
theorem vD{a:Prop}(h:a:=by first|omega|assumption|(simp only[lnz];done)|(simp only[lnz];omega)):a:=h
end Go.Sy
namespace Go.Sy
variable {x y j:Nat}
theorem Zp(h:x<65536):IntKind.u16.wrap (x:Int)=x:=WI (by omega)
theorem u_of(h:x<65536):BitVec.ofInt 16 (x:Int)=BitVec.ofNat 16 x:=by
 simp[BitVec.ofInt_natCast]
theorem acu(hx:x<65536)(hy:y<65536):IntKind.wrap .u16 ((BitVec.ofInt (IntKind.bits .u16) (x:Int)&&&BitVec.ofInt (IntKind.bits .u16) (y:Int)).toNat:Int)=((x&&&y:Nat):Int):=by
 show IntKind.wrap .u16 ((BitVec.ofInt 16 (x:Int)&&&BitVec.ofInt 16 (y:Int)).toNat:Int)=_
 rw[u_of hx,u_of hy,BitVec.toNat_and,BitVec.toNat_ofNat,BitVec.toNat_ofNat,Nat.mod_eq_of_lt (by simpa using hx),Nat.mod_eq_of_lt (by simpa using hy)]
 exact Zp (Nat.lt_of_le_of_lt Nat.and_le_left hx)
def TL(x y:Nat):Nat:=x&&&(65535-y%65536)
theorem acv(h:j≤16):Int.fdiv (x:Int) (2^min j (IntKind.bits .u16))=((x>>>j:Nat):Int):=by
 rw[show IntKind.bits .u16=16 from rfl,Nat.min_eq_left h,Nat.shiftRight_eq_div_pow]
 rw[Int.fdiv_eq_ediv_of_nonneg _ (Int.le_of_lt (Int.pow_pos (by decide)))]
 rw[show(2:Int)^j=((2^j:Nat):Int) by simp]
 rfl
theorem Hw:((x>>>j&&&1:Nat):Int)=1↔x.testBit j=true:=by
 rw[Nat.testBit,Nat.and_comm 1]
 have:x>>>j&&&1<2:=Nat.lt_of_le_of_lt Nat.and_le_right (by decide)
 simp only[bne_iff_ne,ne_eq]
 omega
theorem Nz(hx:x<65536):(TL x y).testBit j=(x.testBit j&& !y.testBit j):=by
 unfold TL
 rw[Nat.testBit_and]
 by_cases hj:j<16
 ·have e:65535-y%65536=2^16-(y%65536+1):=by omega
  rw[e,Nat.testBit_two_pow_sub_succ (by have:=Nat.mod_lt y (show 65536>0 by decide);simpa using this)]
  have:(y%65536).testBit j=y.testBit j:=by
   rw[show(65536:Nat)=2^16 by rfl,Nat.testBit_mod_two_pow];simp[hj]
  rw[this];simp[hj]
 ·have:x.testBit j=false:=Nat.testBit_lt_two_pow (Nat.lt_of_lt_of_le hx (by
   rw[show(65536:Nat)=2^16 by rfl];exact Nat.pow_le_pow_right (by decide) (by omega)))
  simp[this]
end Go.Sy
namespace Go.Sy
section
variable {P:Program} {Q:Exit→Nat→St→Prop} {nid:Nat}
theorem dO{r:Nat} {ops:Array Oper} {d:Bool} {n m:Nat} {env:List (Nat×AV)} {objs:List (Nat×Option aC)}(id:Nat)
 (h:∃cs e,(aS objs id).join=some (.cells cs e)∧(∀x∈cs,bnd 0 x)∧∀K:List (Nat×AV)→List (Nat×Option aC)→Prop,(∀env' objs',AC P (.region r ops d) Q nid ⟨n,m,env',objs'⟩→K env' objs')→
   K (env.map fun p=>(p.1,bQ id cs p.2)) ((id,none)::objs.map fun p=>(p.1,p.2.map (vU id cs)))):AC P (.region r ops d) Q nid ⟨n,m,env,objs⟩:=ME id h
theorem dP{r:Nat} {ops:Array Oper} {d:Bool} {y:Code} {n m:Nat} {env:List (Nat×AV)} {objs:List (Nat×Option aC)}(id:Nat)
 (h:∃cs e,(aS objs id).join=some (.cells cs e)∧(∀x∈cs,bnd 0 x)∧∀K:List (Nat×AV)→List (Nat×Option aC)→Prop,(∀env' objs',AC P (.seq (.region r ops d) y) Q nid ⟨n,m,env',objs'⟩→K env' objs')→
   K (env.map fun p=>(p.1,bQ id cs p.2)) ((id,none)::objs.map fun p=>(p.1,p.2.map (vU id cs)))):AC P (.seq (.region r ops d) y) Q nid ⟨n,m,env,objs⟩:=ME id h
end
attribute [push_cast] Option.map_none
theorem TM{α:Type} {p:Prop} [Decidable p]{x y:α}(h:¬p):sel (!decide p) x y=x:=by rw[decide_eq_false h];rfl
theorem TN{α:Type} {p:Prop} [Decidable p]{x y:α}(h:p):sel (!decide p) x y=y:=by rw[decide_eq_true h];rfl
theorem acw{st:St} {f:Nat}:st.op (.func f)= .fn f []:=rfl
attribute [push_cast] TM TN acw
theorem NA{vs:List AV}:∀{cs:List AV} {off:Nat},off+vs.length≤cs.length→jZ cs off vs=spl cs off vs:=by
 induction vs with
 |nil=>intro cs off _;simp[jZ,spl]
 |cons v vs ih=>
  intro cs off h
  rw[List.length_cons] at h
  rw[jZ,ih (by rw[List.length_set];omega)]
  have e:cs.set off v=cs.take off++v::cs.drop (off+1):=by rw[List.set_eq_take_append_cons_drop,if_pos (by omega)]
  unfold spl
  have hl:(cs.take off).length=off:=by rw[List.length_take];omega
  have h1:(cs.take off).take (off+1)=cs.take off:=List.take_of_length_le (by omega)
  have h2:(cs.take off).drop (off+1+vs.length)=[]:=List.drop_eq_nil_of_le (by omega)
  rw[e,List.take_append,List.drop_append,hl,h1,h2,show off+1-off=1 by omega,show off+1+vs.length-off=vs.length+1 by omega,List.nil_append,List.drop_succ_cons,List.drop_drop,List.length_cons,show off+1+vs.length=off+(vs.length+1) by omega]
  simp
section
variable {α:Type} {w:Nat} [C:aa α w]{a:α} {l:List α}
theorem Zq:(aa.cells a).length=w:=C.len a
theorem Zr:(aa.cells a).all AV.scalar=true:=C.sc a
theorem Zt(τ:Nat→Nat):(aa.cells a).map (ren τ)=aa.cells a:=(List.map_congr_left (fun x hx=>jH τ x (aa.cl a x hx))).trans (List.map_id' _)
theorem Zu(id:Nat)(cs:List AV):(aa.cells a).map (bQ id cs)=aa.cells a:=(List.map_congr_left (fun x hx=>jI id cs x (aa.cl a x hx))).trans (List.map_id' _)
theorem Zv{st:St} {σ:List Nat} {fz:Bool} {n:Nat}(h:0<n):(aa.cells a).map (toA st σ fz n)=aa.cells a:=(List.map_congr_left (fun x hx=>ui h x (List.all_eq_true.1 (C.pl a) x hx))).trans (List.map_id' _)
theorem Zw{st:St} {σ:List Nat} {n:Nat}(h:0<n):(aa.cells a).map (dfz st σ n)=aa.cells a:=(List.map_congr_left (fun x hx=>uj h x (List.all_eq_true.1 (C.pl a) x hx))).trans (List.map_id' _)
theorem Zx(n:Nat):(∀x∈aa.cells a,bnd n x)=True:=eq_true (fun x hx=>jJ n x (aa.cl a x hx))
theorem TP:(aa.cells a).take w=aa.cells a:=List.take_of_length_le (by rw[C.len];exact Nat.le_refl _)
theorem Zy{cs:List AV}(h:cs.length=w):spl cs 0 (aa.cells a)=aa.cells a:=lZ (by rw[C.len,h])
theorem Zz{cs:List AV} {off:Nat}(h:w≠1):uM cs off (aa.cells a)=spl cs off (aa.cells a):=by
 have hl:=C.len a
 generalize aa.cells a=vs at hl
 match vs,hl with
 |[],_=>rfl
 |[v],hl=>exact absurd hl.symm h
 |_::_::_,_=>rfl
theorem TQ{cs:List AV}(h:cs.length=w):jZ cs 0 (aa.cells a)=aa.cells a:=by
 rw[NA (by rw[C.len];omega),lZ (by rw[C.len,h])]
theorem TR [Inhabited α]:cR l++aa.cells a=cR (l++[a]):=Nl
end
attribute [push_cast] Zq Zr Zt Zu Zv Zw Zx TP Zy Zz TQ TR
end Go.Sy
namespace Go.Sy
theorem ACall.own{P:Program} {f:FuncId} {args args':List AV} {cs:List AV} {e:TypeId} {r:AV} {objs':List aC}(hc:∀x∈cs,bnd 0 x)(he:args'=args.map (bQ 0 cs))(hb:∀x∈args',bnd 0 x)
 (h:ACall P f args' [] 0 r objs') (ht:trs objs'=[]:=by rfl):ACall P f args [.cells cs e] 0 r objs':=by
 subst he
 intro w A I ρ vs hsz hrep hA hI hobj hdom hinj _ hlaid
 obtain⟨b,s,k1,k2,k3⟩:=hobj 0 (by simp)
 simp only[List.getElem_cons_zero] at k3
 obtain⟨u,hu⟩:=gJ k3
 let A':Nat→Prop:=fun b'=>A b'∨b'=b
 have hJ:∀b,A b→A' b:=fun _ h=> .inl h
 have mono:∀{ρ:Rho} {v:Value} {x:AV},Rep w A ρ v x→Rep w A' ρ v x:=fun h=>h.mono (fun b hb _=>⟨hJ b hb,rfl⟩) (Nat.le_refl _) (fun _ _ h=>h)
 have rep:∀{v:Value} {x:AV},Rep w A ρ v x→Rep w A' ρ v (bQ 0 cs x):=fun h=>
  Rep.frz (u:=u) hJ (.inr rfl) k1 k3.lt (fun j hj=>(hu j hj).2.1) (fun j hj=>(hu j hj).1) (fun j hj=>mono ((hu j hj).2.2.closed (hc _ (List.getElem_mem hj)))) h
 refine(h w A' (fun b'=>I b'∧b'≠b) (fun _=>none) vs (by simpa using hsz) (fun j hj=>?_) (fun b' hb'=>?_) (fun b' hb'=>hI b' hb'.1) (fun j hj=>by simp at hj) (fun j p hp=>by cases hp) (fun i j b s s' h1 _=>by cases h1) (Hid.none (fun _ _ _=>by simp)) (hlaid.mono (fun b h _=>⟨.inl h,rfl⟩) (Nat.le_refl _))).mono ?_
 ·have hj':j<args.length:=by simpa using hj
  have:=(rep (hrep j hj')).closed (ρ':=fun _=>none) (hb _ (by simpa using List.mem_map.2 ⟨_,List.getElem_mem hj',rfl⟩))
  simpa using this
 ·rcases hb' with hb'|hb'
  ·exact⟨(hA b' hb').1,fun hn=>(hA b' hb').2 hn.1⟩
  ·subst hb';exact⟨hI _ k2,fun hn=>hn.2 rfl⟩
 ·rintro ex w' ⟨v,ρ',J',h1,h2,h3,h4,h5,h6,h7,h8,_⟩
  refine⟨v,ρ',J',h1,h2,fun b' hb'=>?_,?_,fun j hj=>by omega,h6,fun j hj=>?_,h8,Hid.none fun id H j k=>?_⟩
  ·obtain⟨g1,g2⟩:=h3 b' hb'
   refine⟨g1,?_⟩
   rcases g2 with(g2|g2)|g2|g2
   ·exact .inl g2
   ·subst g2;exact .inr (.inl k2)
   ·exact .inr (.inl g2.1)
   ·exact .inr (.inr g2)
  ·exact⟨h4.size,h4.os,h4.tape,h4.output,fun b' hb' hn=>h4.block b' hb' (fun hh=>hn hh.1)⟩
  ·obtain⟨b',s',g1,g2,g3,g4⟩:=h7 j hj
   exact⟨b',s',g1,g2,g3.imp (fun h=>h.1) id,g4⟩
  ·obtain⟨hlt,e⟩:=List.getElem?_eq_some_iff.1 k
   have:H∈trs objs':=adJ.2 ⟨j,e▸List.getElem_mem hlt⟩
   rw[ht] at this;cases this
end Go.Sy
namespace Go.Sy
class sZ(α:Type) where
 c:α→AV
 sc:∀a,(c a).scalar=true
 pl:∀a,(c a).plain=true
def cX{α:Type} [sZ α](l:List α):List AV:=l.map sZ.c
section
variable {α:Type} [C:sZ α]{l m:List α} {a:α} {i n:Nat}
theorem xH:(cX l).length=l.length:=by simp[cX]
theorem ZA:(cX l)[i]? =l[i]?.map sZ.c:=by simp[cX]
theorem Ak:cX l++cX m=cX (l++m):=by simp[cX]
theorem TS:(cX l).take n=cX (l.take n):=by simp[cX,List.map_take]
theorem TU:(cX l).drop n=cX (l.drop n):=by simp[cX,List.map_drop]
theorem NB(τ:Nat→Nat):(cX l).map (ren τ)=cX l:=(List.map_congr_left (fun x hx=>by
 obtain⟨a,_,rfl⟩:=List.mem_map.1 hx;exact jH τ _ (oN _ (C.pl a)))).trans (List.map_id' _)
theorem ZB(id:Nat)(cs:List AV):(cX l).map (bQ id cs)=cX l:=(List.map_congr_left (fun x hx=>by
 obtain⟨a,_,rfl⟩:=List.mem_map.1 hx;exact jI id cs _ (oN _ (C.pl a)))).trans (List.map_id' _)
theorem ZC{st:St} {σ:List Nat} {fz:Bool} {n:Nat}(h:0<n):(cX l).map (toA st σ fz n)=cX l:=(List.map_congr_left (fun x hx=>by
 obtain⟨a,_,rfl⟩:=List.mem_map.1 hx;exact ui h _ (C.pl a))).trans (List.map_id' _)
theorem ZE{st:St} {σ:List Nat} {n:Nat}(h:0<n):(cX l).map (dfz st σ n)=cX l:=(List.map_congr_left (fun x hx=>by
 obtain⟨a,_,rfl⟩:=List.mem_map.1 hx;exact uj h _ (C.pl a))).trans (List.map_id' _)
theorem xI(n:Nat):(∀x∈cX l,bnd n x)=True:=eq_true (fun x hx=>by
 obtain⟨a,_,rfl⟩:=List.mem_map.1 hx;exact jJ n _ (oN _ (C.pl a)))
theorem ZF:(cX l).all AV.scalar=true:=by
 rw[List.all_eq_true]
 intro x hx
 obtain⟨a,_,rfl⟩:=List.mem_map.1 hx
 exact C.sc a
theorem ZG:cX ([]:List α)=[]:=rfl
theorem TV:cX l++[sZ.c a]=cX (l++[a]):=by simp[cX]
end
attribute [push_cast] xH ZA Ak TS TU NB ZB ZC ZE xI ZF ZG TV
end Go.Sy
namespace Go.Sy
variable {s i:Nat}
def sN(s i:Nat):Int:=((s>>>i:Nat):Int)
def bN(s i:Nat):Int:=((s>>>i&&&1:Nat):Int)
theorem acx(h:i≤16):Int.fdiv (s:Int) (2^min i (IntKind.bits .u16))=sN s i:=acv h
theorem ZH(hs:s<65536):s>>>i<65536:=Nat.lt_of_le_of_lt (by rw[Nat.shiftRight_eq_div_pow];exact Nat.div_le_self _ _) hs
theorem NC(hs:s<65536):IntKind.wrap .u16 ((BitVec.ofInt (IntKind.bits .u16) (sN s i)&&&BitVec.ofInt (IntKind.bits .u16) (1:Int)).toNat:Int)=bN s i:=acu (y:=1) (ZH hs) (by omega)
theorem bN_1:(bN s i=1)=(s.testBit i=true):=propext Hw
theorem bN_0:(bN s i=0)=(s.testBit i=false):=by
 have this:=Hw (x:=s) (j:=i)
 have h2:s>>>i&&&1<2:=Nat.lt_of_le_of_lt Nat.and_le_right (by decide)
 unfold bN
 refine propext ⟨fun h=>?_,fun h=>?_⟩
 ·cases e:s.testBit i with
  |false=>rfl
  |true=>have:=this.2 e;omega
 ·have h3:¬((s>>>i&&&1:Nat):Int)=1:=fun hh=>by rw[this.1 hh] at h;cases h
  omega
theorem ZI{b:Bool}:decide (b=true)=b:=by cases b<;>rfl
theorem ZJ{b:Bool}:decide (b=false)= !b:=by cases b<;>rfl
attribute [push_cast] acx NC bN_1 bN_0 J4 ZI ZJ
end Go.Sy
namespace Go.Sy
open Go.ChangeShapes Go.WideShapes Go.ChangeAt Go.RowKit
theorem ND{H:Type} {enc:TypeId×Value→H} {P:Program} {W:World}(K:Kids P (· <P.types.size))(hz:∀t e,t<P.types.size→P.underlying t=some (.slice e)→0<P.cellsOf e){r:Reach} {b:Nat} {m:Nat} {t:TypeId} {fs:Array Field} {v:Value} {d:DataW H} {ps:List MemPlace} {held:Bool}(ht:t<P.types.size)(hp:tZ P m t=true)
 (hu:P.underlying t=some (.struct fs)) (hval:Value.okWide P W r b t v) (h:DataW.Trod enc P W 0 (fun _=>true) held t v d ps) (hw:∀k∈d.weights P t,k≤reachBytes):
 ∃as,gB P m t as∧Rep W (fun b=>b<W.heap.size) (fun _=>none) v (.agg as):=by
 obtain⟨fuel,hf⟩:=h
 obtain⟨as,h1,h2⟩:=Kk K hz m t _ _ fuel ht hp hf hw
 unfold Value.okWide at hval
 rw[hu] at hval
 obtain⟨cs,rfl,_,_⟩:=hval
 obtain⟨g1,g2⟩:=h2
 have hcells:(Value.agg cs).cells.toList=cs.toList:=rfl
 rw[hcells] at g1 g2
 refine⟨as,h1,.agg cs as (by simpa using g1.symm) (fun j hj=>?_)⟩
 have:=(g2 j as[j] (List.getElem?_eq_getElem hj)).2
 simpa[Array.getD_eq_getD_getElem?,List.getD_eq_getElem?_getD] using this
end Go.Sy
namespace Go.Sy
open Go Go.RowKit
variable {P:Program}
theorem Kq{st:St} {nid:Nat} {dst:Option Nat} {ty:TypeId} {pos:String} {af:Array Edge} {g:Option (Nat×Bool)} {x0 x:Operand} {tys:Array TypeId} {id j:Nat} {H:iU} {v:Value}(h0:st.op x0= .yl id)(h1:st.ob id=some (.tr H j))(h2:st.op x= .val v)(h3:H.P=P)(h4:H.go j=true)(h5:H.xs j=some v):
 OpT P ⟨dst,.call ⟨.value x0,#[x],tys⟩,ty,pos,af,g⟩ nid 0 st ⟨.val (.bool (H.go (j+1))),[(id,some (.tr H (j+1)))]⟩:=by
 intro c ρ D J a w hs _ r K Q hK
 subst h3
 have e0:=hs.op x0;rw[h0] at e0
 have e1:=hs.op x;rw[h2] at e1
 have e1:=aG e1
 generalize hv0:a.eval x0=v0 at e0
 obtain⟨s,rec,q1,q2,q3,q4⟩:=hs.nl h1
 cases e0 with
 |yl b s' _ hρ=>
  rw[q1] at hρ;cases hρ
  obtain⟨k1,k2,k3⟩:=hs.hid.on _ _ _ h1
  have hX:∀b,Xm c J st.ob ρ w b→b<w.heap.size∧¬H.B b∧b≠H.l:=fun b hb=>⟨hb.1,fun hB=>by
   have:=k2 b hB
   rcases hb.2.1 with h|h
   ·exact this.2 h
   ·omega,fun e=>by subst e;exact hb.2.2.2 _ _ _ h1 q1⟩
  obtain⟨fn,tmps,as,body,hy,hround⟩:=H.yield k1 h4 h5 hX r
  have hrun:(execOp a.eval ⟨dst,.call ⟨.value x0,#[x],tys⟩,ty,pos,af,g⟩).run H.P w= .ok (.round H.l fn tmps as body) w:=by
   simp[execOp,resolve,hv0,Deferred.ofValue,invoke,e1,hy]
  refine Eu hrun (hround.mono ?_)
  rintro e w' ⟨rfl,g1,g2,g3,g4,⟨r',g5⟩,g6,g7⟩
  have lt:∀{id' o b s},st.ob id'=some o→ρ id'=some (b,s)→b<w.heap.size:=fun ho hr=>by
   obtain⟨b1,s1,p1,p2,_⟩:=hs.obj _ _ ho
   rw[hr] at p1;cases p1;exact p2.lt
  have old:∀{id' o},(st.app none ⟨.val (.bool (H.go (j+1))),[(id,some (.tr H (j+1)))]⟩).ob id'=some o→(id'=id∧o= .tr H (j+1))∨(id'≠id∧st.ob id'=some o):=fun{id' o} ho=>by
   rw[St.ob_app] at ho
   by_cases e:id'=id
   ·subst e;simp[Eff.keys,aS] at ho;exact .inl ⟨rfl,ho.symm⟩
   ·rw[if_neg (by simp[Eff.keys,e])] at ho;exact .inr ⟨e,ho⟩
  refine⟨_,rfl,hK _ w' ρ J ⟨g1,g2,g3,g4,fun b hb hne hnx=>?_,fun _ _ h=>h,fun _ _ h=> .inl h,fun _ h=>h,fun _ h=> .inl h,.val _,fun id' o ho=>?_,fun i i' o1 o2 b s1 s2 h1 h2 _ _=>?_,fun _=>⟨fun i i' H1 H2 j1 j2 p1 p2=>?_,fun i H1 j1 p1=>?_⟩⟩⟩
  ·refine g6 b hb (hnx ⟨_,List.mem_cons_self,_,_,rfl⟩) (fun e=>?_)
   subst e;exact hne id _ s (by simp[Eff.keys]) h1 q1
  ·simp only[aS] at ho
   split at ho
   ·rename_i e;subst e
    simp only[Option.some.injEq] at ho;subst ho
    exact⟨H.l,s,q1,⟨rfl,r',g5⟩,q3,.inr ⟨_,_,s,by simp[Eff.keys],h1,q1⟩⟩
   ·cases ho
  ·simp only[aS] at h1 h2
   split at h1
   ·split at h2
    ·omega
    ·cases h2
   ·cases h1
  ·have key:∀{i H1 j1},(st.app none ⟨.val (.bool (H.go (j+1))),[(id,some (.tr H (j+1)))]⟩).ob i=some (.tr H1 j1)→i=id:=fun{i H1 j1} p=>by
    rcases old p with⟨e,_⟩|⟨_,e⟩
    ·exact e
    ·exact hs.hid.one _ _ _ _ _ _ e h1
   rw[key p1,key p2]
  ·have e:i=id∧H1=H∧j1=j+1:=by
    rcases old p1 with⟨e,e'⟩|⟨ne,e⟩
    ·cases e';exact⟨e,rfl,rfl⟩
    ·exact absurd (hs.hid.one _ _ _ _ _ _ e h1) ne
   obtain⟨rfl,rfl,rfl⟩:=e
   refine⟨H1.keep g7 (Nat.le_refl _) rfl rfl rfl (fun _ _=>rfl) (fun b hb=>?_) (fun b hb=>⟨hb.1,fun hB=>?_,fun e=>?_⟩),k2,k3⟩
   ·have hob:∀{id' o s'},(st.app none ⟨.val (.bool (H1.go (j+1))),[(i,some (.tr H1 (j+1)))]⟩).ob id'=some o→ρ id'=some (b,s')→(∃o',st.ob id'=some o'):=fun{id' o s'} ho _=>by
     rcases old ho with⟨e,_⟩|⟨_,e⟩
     ·exact⟨_,e▸h1⟩
     ·exact⟨_,e⟩
    rcases hb with hb|hb
    ·exact⟨Nat.lt_of_lt_of_le hb.1 g1,hb.2.1,hb.2.2.1,fun id' o s' ho hr=>by obtain⟨o',ho'⟩:=hob ho hr;exact hb.2.2.2 _ _ _ ho' hr⟩
    ·refine⟨hb.2,.inr (Nat.le_trans hs.kept.size hb.1),fun hj=>?_,fun id' o s' ho hr=>?_⟩
     ·have:=hs.jlt b hj;omega
     ·obtain⟨o',ho'⟩:=hob ho hr;have:=lt ho' hr;omega
   ·have:=k2 b hB
    rcases hb.2.1 with h|h
    ·exact this.2 h
    ·omega
   ·subst e;exact hb.2.2.2 _ _ _ p1 q1
def TW:AV→Option Nat
 | .yl id=>some id
 |_=>none
theorem TY{x:AV} {id:Nat}(h:TW x=some id):x= .yl id:=by cases x<;>simp[TW] at h;subst h;rfl
def TZ:Option aC→Option (iU×Nat)
 |some (.tr H j)=>some (H,j)
 |_=>none
theorem T9{o:Option aC} {p:iU×Nat}(h:TZ o=some p):o=some (.tr p.1 p.2):=by
 unfold TZ at h
 split at h
 ·cases h;rfl
 ·cases h
theorem e_yl{id:Nat}:TW (.yl id)=some id:=rfl
theorem ZK{H:iU} {j:Nat}:TZ (some (.tr H j))=some (H,j):=rfl
theorem Ua{st:St} {nid:Nat} {dst:Option Nat} {ty:TypeId} {pos:String} {af:Array Edge} {g:Option (Nat×Bool)} {K:Nat→Eff→Prop} {x0 x:Operand} {tys:Array TypeId}
 (h:aH (TW (st.op x0)) fun id=>aH (TZ (st.ob id)) fun p=>∃v,st.op x= .val v∧p.1.P=P∧p.1.go p.2=true∧p.1.xs p.2=some v∧K 0 ⟨.val (.bool (p.1.go (p.2+1))),[(id,some (.tr p.1 (p.2+1)))]⟩):
 AO P ⟨dst,.call ⟨.value x0,#[x],tys⟩,ty,pos,af,g⟩ nid st K:=by
 obtain⟨id,h1,⟨H,j⟩,h2,v,h3,h4,h5,h6,h7⟩:=h
 exact⟨_,_,Kq (TY h1) (T9 h2) h3 h4 h5 h6,h7⟩
attribute [push_cast] e_yl ZK aC.tr.injEq
def Al(w:World)(J X:Nat→Prop)(T:iU→Prop)(pn:Rho)(l:Nat):Ctx:=⟨w,J,fun b=>X b∧¬J b,pn,some l,T⟩
theorem Sim.rebase{c:Ctx} {ρ pn:Rho} {D J J' X':Nat→Prop} {st:St} {a:Act} {w w':World} {l mR:Nat}(hs:Sim c ρ D J st a w)(hd:a.defers=[])(hsz:w.heap.size≤w'.heap.size)(ho:w'.os=w.os)(ht:w'.tape=w.tape)(hu:w'.output=w.output)
 (hJ:∀b,J b→J' b∧w'.heap[b]? =w.heap[b]?) (hJlt:∀b,J' b→b<w'.heap.size) (hO:∀id o b s,st.ob id=some o→ρ id=some (b,s)→w'.heap[b]? =w.heap[b]? ∧X' b∧¬J' b)
 (hX:∀b,Xm c J st.ob ρ w b→w'.heap[b]? =w.heap[b]? ∧X' b∧¬J' b) (hX':∀b,X' b→b<w'.heap.size∧b≠l) (hB:∀H,c.tr H→∀b,H.B b→w'.heap[b]? =w.heap[b]? ∧¬X' b)
 (hl:∃r,w'.heap[l]? =some (.loop r)) (hp:∀j,j<mR→∃p,pn j=some p∧ρ j=some p):Sim (Al w' J' X' c.tr pn l) ρ D J' ⟨st.n,mR,st.env,st.objs⟩ a w':=by
 have hm:∀b,J b→b<w.heap.size→J' b∧w'.heap[b]? =w.heap[b]? :=fun b hb _=>hJ b hb
 refine⟨?_,hs.tmps,fun t=>(hs.env t).mono hm hsz (fun _ _ h=>h),fun id o hid=>?_,hs.inj,hs.dom,fun b hb=> .inl hb,hJlt,fun b hb=>(hX' b hb.1).1,hp,⟨Nat.le_refl _,rfl,rfl,rfl,fun _ _ _=>rfl⟩,?_,hs.laid.mono hm hsz⟩
 ·rw[hd];refine Marks.nil fun l' e=>?_
  simp only[Al,Option.some.injEq] at e;subst e
  exact⟨fun h=>(hX' _ h.1).2 rfl,hl⟩
 ·obtain⟨b,s,h1,h2,h3,h4⟩:=hs.obj id o hid
  obtain⟨k1,k2,k3⟩:=hO id o b s hid h1
  exact⟨b,s,h1,h2.mono hm hsz (fun _ _ h=>h) k1,.inl ⟨k2,k3⟩,k3⟩
 ·refine⟨hs.hid.one,fun id H j hid=>?_⟩
  obtain⟨h1,h2,h3⟩:=hs.hid.on id H j hid
  obtain⟨s,r,q1,q2,q3,q4⟩:=hs.nl hid
  refine⟨H.keep h1 hsz ho ht hu (fun b hb=>?_) (fun b hb=>?_) (fun b hb=>⟨hb.1,fun hb'=>?_,fun e=>?_⟩),fun b hb=>⟨?_,fun h=>(hB H h3 b hb).2 h.1⟩,h3⟩
  ·rcases hb with hb|hb|hb
   ·exact(hX b hb).1
   ·exact(hB H h3 b hb).1
   ·subst hb;exact(hO _ _ _ _ hid q1).1
  ·obtain⟨_,k2,k3⟩:=hX b hb
   exact⟨Nat.lt_of_lt_of_le hb.1 hsz,.inl ⟨k2,k3⟩,k3,hb.2.2.2⟩
  ·rcases hb.2.1 with h|h
   ·exact(hB H h3 b hb').2 h.1
   ·have:=hb.1;have h:w'.heap.size≤b:=h;omega
  ·subst e;exact hb.2.2.2 _ _ _ hid q1
  ·have:=(h2 b hb).1;have:=hs.kept.size;exact Nat.lt_of_lt_of_le (by omega) hsz
theorem Sim.reenv{c:Ctx} {ρ:Rho} {D J:Nat→Prop} {n m:Nat} {env env':List (Nat×AV)} {objs:List (Nat×Option aC)} {a a':Act} {w:World}(hs:Sim c ρ D J ⟨n,m,env,objs⟩ a w)(hd:a'.defers=a.defers)(hz:a'.tmps.size=n)
 (he:∀t,Rep w J ρ (a'.tmps.getD t undef) ((aS env' t).getD .any)):Sim c ρ D J ⟨n,m,env',objs⟩ a' w:=
 ⟨by rw[hd];exact hs.defers,hz,he,hs.obj,hs.inj,hs.dom,hs.jok,hs.jlt,hs.ilt,hs.pin,hs.kept,hs.hid,hs.laid⟩
structure RLoop where
 n:Nat
 mR:Nat
 env:List (Nat×AV)
 O:Nat→List (Nat×Option aC)
 OS:Nat→List (Nat×Option aC)
 L:Nat
 LS:Nat
 go:Nat→Bool
 xs:Nat→Option Value
 eS:Exit
 p:Nat
 assign:Code
 body:Code
def RQ(R:RLoop)(j:Nat):Exit→Nat→St→Prop:=fun e _ s=>
 (e= .normal∧R.go (j+1)=true∧∃σ:List Nat,σ.length=R.L∧Sub σ ⟨R.n,R.mR,[],R.O (j+1)⟩ s)∨
 (e=R.eS∧R.go (j+1)=false∧∃σ:List Nat,σ.length=R.LS∧Sub σ ⟨R.n,R.mR,[],R.OS (j+1)⟩ s)
theorem ji{R:RLoop} {j nid:Nat} {s:St}(σ:List Nat)(h:R.go (j+1)=true∧σ.length=R.L)(hs:Sub σ ⟨R.n,R.mR,[],R.O (j+1)⟩ s):RQ R j .normal nid s:= .inl ⟨rfl,h.1,σ,h.2,hs⟩
theorem Ub{R:RLoop} {j nid:Nat} {e:Exit} {s:St}(σ:List Nat)(h:e=R.eS∧R.go (j+1)=false∧σ.length=R.LS)(hs:Sub σ ⟨R.n,R.mR,[],R.OS (j+1)⟩ s):RQ R j e nid s:= .inr ⟨h.1,h.2.1,σ,h.2.2,hs⟩
def Mid(P:Program)(R:RLoop)(j:Nat)(nid:Nat)(s:St):Prop:=s.m=R.mR∧AC P R.body (RQ R j) nid s
def zu:Exit→Code
 | .ret=> .ret
 | .exit i=> .exit i
 |_=> .skip
structure vX(P:Program) extends RLoop where
 tmps:Array Value
 fn:FuncId
 dB:Nat
 T:iU→Prop
 J:Nat→Prop
 B:Nat→Prop
 pn:Rho
 W1:World
 l:Nat
 hJB:∀b,J b→B b
 hBl:¬B l
 hBlt:∀b,B b→b<W1.heap.size
 hT:∀H,T H→∀b,H.B b→B b
 hsz:tmps.size=n
 hp:p<n
 hbe:∀q∈env,bnd mR q.2
 hE:eS= .ret∨∃i,eS= .exit i
 round:∀j x,go j=true→xs j=some x→AC P assign (Thn (Mid P toRLoop j) (fun _ _ _=>False)) L ⟨n,mR,(p,.val x)::env,O j⟩
namespace vX
def rcd(R:vX P)(s:LoopState)(pe:Option Code):Loop:={state:=s,pending:=pe,fn:=R.fn,tmps:=R.tmps,params:= #[R.p],assign:=R.assign,body:=R.body,defers:=R.dB}
def cur(R:vX P)(j:Nat):Loop:=if R.go j=true then R.rcd .ready none else R.rcd .done (some (zu R.eS))
def G(R:vX P)(j:Nat)(X:Nat→Prop)(W:World):Prop:=∃(ρ:Rho) (J:Nat→Prop),
 Sim (Al W J X R.T R.pn R.l) ρ (· <if R.go j=true then R.L else R.LS) J ⟨R.n,R.mR,R.env,if R.go j=true then R.O j else R.OS j⟩ ⟨R.tmps,[]⟩ W∧
 (∀b,J b→R.J b∨X b)∧W.heap[R.l]? =some (.loop (R.cur j))∧(R.W1.heap.size≤W.heap.size∧W.os=R.W1.os∧W.tape=R.W1.tape∧W.output=R.W1.output)∧∀b,R.B b→W.heap[b]? =R.W1.heap[b]?
theorem keep(R:vX P){j:Nat} {X X':Nat→Prop} {w w':World}(h:R.G j X w)(hsz:w.heap.size≤w'.heap.size)(ho:w'.os=w.os)(ht:w'.tape=w.tape)(hu:w'.output=w.output)(hsame:∀b,X b∨R.B b∨b=R.l→w'.heap[b]? =w.heap[b]?)
 (mono:∀b,X b→X' b) (hX':∀b,X' b→b<w'.heap.size∧¬R.B b∧b≠R.l):R.G j X' w':=by
 obtain⟨ρ,J,h1,h2,h3,⟨h4,h5,h6,h7⟩,h8⟩:=h
 have hJs:∀b,J b→w'.heap[b]? =w.heap[b]? :=fun b hb=>hsame b ((h2 b hb).elim (fun h=> .inr (.inl (R.hJB b h))) .inl)
 refine⟨ρ,J,?_,fun b hb=>(h2 b hb).imp id (mono b),(hsame _ (.inr (.inr rfl))).trans h3,⟨Nat.le_trans h4 hsz,ho.trans h5,ht.trans h6,hu.trans h7⟩,fun b hb=>(hsame b (.inr (.inl hb))).trans (h8 b hb)⟩
 refine h1.rebase (J':=J) (X':=X') (l:=R.l) (mR:=R.mR) rfl hsz ho ht hu (fun b hb=>⟨hb,hJs b hb⟩) (fun b hb=>Nat.lt_of_lt_of_le (h1.jlt b hb) hsz) (fun id o b s k1 k2=>?_) (fun b hb=>?_) (fun b hb=>⟨(hX' b hb).1,(hX' b hb).2.2⟩) (fun H hH b hb=>?_) ⟨_,(hsame _ (.inr (.inr rfl))).trans h3⟩ (fun j hj=>h1.pin j hj)
 ·obtain⟨b',s',g1,g2,g3,g4⟩:=h1.obj id o k1
  rw[k2] at g1;cases g1
  rcases g3 with g3|g3
  ·exact⟨hsame b (.inl g3.1),mono b g3.1,g4⟩
  ·have:=g2.lt;have g3:w.heap.size≤b:=g3;omega
 ·rcases hb.2.1 with g|g
  ·exact⟨hsame b (.inl g.1),mono b g.1,g.2⟩
  ·have:=hb.1;have g:w.heap.size≤b:=g;omega
 ·have:=R.hT H hH b hb
  exact⟨hsame b (.inr (.inl this)),fun h=>(hX' b h).2.1 this⟩
theorem NF(x:AV):ren (fun i=>i) x=x:=by
 induction x using ren.induct with
 |_=>first|(simp_all[ren];done)|(simp_all[ren];rename_i ih;exact(List.map_congr_left (g:=fun x=>x) ih).trans (by simp))
theorem yield(R:vX P){j:Nat} {x:Value} {X:Nat→Prop} {w:World}(h:R.G j X w)(hgo:R.go j=true)(hx:R.xs j=some x)(hX:∀b,X b→b<w.heap.size∧¬R.B b∧b≠R.l)(r:Option Nat):YieldAt (fen r) 0 P R.l #[x] w fun e w'=>
 e= .returned (.bool (R.go (j+1)))∧w.heap.size≤w'.heap.size∧w'.os=w.os∧w'.tape=w.tape∧w'.output=w.output∧(∃r,w'.heap[R.l]? =some (.loop r))∧
 (∀b,b<w.heap.size→¬X b→b≠R.l→w'.heap[b]? =w.heap[b]?)∧R.G (j+1) (fun b=>X b∨(w.heap.size≤b∧b<w'.heap.size)) w':=by
 obtain⟨ρ,J,h1,h2,h3,⟨h4,h5,h6,h7⟩,h8⟩:=h
 simp only[hgo,if_true] at h1
 have h3:w.heap[R.l]? =some (.loop (R.rcd .ready none)):=by simpa[cur,hgo] using h3
 have hlw:R.l<w.heap.size:=(Array.getElem?_eq_some_iff.1 h3).1
 have hy:(Instr.yield R.l #[x]).run P w= .ok (.round R.l R.fn (R.tmps.setIfInBounds R.p x) R.assign R.body) w:=by
  have:=run_yield (P:=P) (args:= #[x]) h3 rfl
  simpa[rcd] using this
 refine⟨R.fn,_,R.assign,R.body,hy,roundIn_of_wpIn trivial ?_⟩
 have hs1:Sim (Al w J X R.T R.pn R.l) ρ (· <R.L) J ⟨R.n,R.mR,(R.p,.val x)::R.env,R.O j⟩ ⟨R.tmps.setIfInBounds R.p x,[]⟩ w:=by
  refine h1.reenv rfl (by simp[R.hsz]) (fun t=>?_)
  simp only[aS]
  by_cases e:t=R.p
  ·subst e
   have:R.p<R.tmps.size:=by rw[R.hsz];exact R.hp
   rw[if_pos rfl]
   have e2:(R.tmps.setIfInBounds R.p x).getD R.p undef=x:=by simp[Array.getD,this]
   rw[e2];exact .val _
  ·rw[if_neg e]
   have e2:(R.tmps.setIfInBounds R.p x).getD t undef=R.tmps.getD t undef:=by
    simp[Array.getD_eq_getD_getElem?,Array.getElem?_setIfInBounds,Ne.symm e]
   rw[e2];exact h1.env t
 refine wpIn_mono (R.round j x hgo hx (Al w J X R.T R.pn R.l) ρ J _ w hs1) ?_
 rintro e a1 w1 ⟨n1,s1,ρ1,J1,hs2,hq⟩
 cases e with
 |normal=>
  obtain⟨hm,hbody⟩:=hq
  have z1:w.heap.size≤w1.heap.size:=hs2.kept.size
  have hI1:¬(X R.l∧¬J R.l):=fun h=>(hX _ h.1).2.2 rfl
  have k1:∀b,b<w.heap.size→¬(X b∧¬J b)→w1.heap[b]? =w.heap[b]? :=fun b hb hn=>hs2.kept.block b hb hn
  have hl1:w1.heap[R.l]? =some (.loop (R.rcd .ready none)):=(k1 R.l hlw hI1).trans h3
  refine⟨_,run_beginRound hl1 rfl,?_⟩
  generalize hw2:w1.putObj R.l (.loop {R.rcd .ready none with state:= .busy})=w2
  have z2:w2.heap.size=w1.heap.size:=by rw[←hw2];simp
  have b2:∀b,b≠R.l→w2.heap[b]? =w1.heap[b]? :=fun b hb=>by rw[←hw2];exact World.putObj_heap_other hb
  have l2:w2.heap[R.l]? =some (.loop {R.rcd .ready none with state:= .busy}):=by rw[←hw2];exact World.putObj_heap_same (by omega)
  have o2:w2.os=w1.os∧w2.tape=w1.tape∧w2.output=w1.output:=by rw[←hw2];exact⟨rfl,rfl,rfl⟩
  clear hw2
  let X2:Nat→Prop:=fun b=>(X b∨(w.heap.size≤b∧b<w1.heap.size))∧¬J b
  have hJl:∀b,J b→b≠R.l:=fun b hb e=>by
   subst e
   rcases h2 _ hb with h|h
   ·exact R.hBl (R.hJB _ h)
   ·exact(hX _ h).2.2 rfl
  have own1:∀b,((X b∧¬J b)∨w.heap.size≤b)→b<w1.heap.size→X2 b∧b≠R.l:=fun b hb hlt=>by
   rcases hb with hb|hb
   ·exact⟨⟨.inl hb.1,hb.2⟩,(hX b hb.1).2.2⟩
   ·exact⟨⟨.inr ⟨hb,hlt⟩,fun h=>by have:=h1.jlt b h;omega⟩,by omega⟩
  have J1c:∀b,J1 b→J b∨X2 b:=fun b hb=>by
   rcases hs2.jok b hb with h|h|h
   ·exact .inl h
   ·exact .inr (own1 b (.inl h) (hs2.jlt b hb)).1
   ·exact .inr (own1 b (.inr h) (hs2.jlt b hb)).1
  have X2l:∀b,X2 b→b≠R.l:=fun b hb=>by
   rcases hb.1 with h|h
   ·exact(hX b h).2.2
   ·omega
  have J1l:∀b,J1 b→b≠R.l:=fun b hb=>(J1c b hb).elim (hJl b) (X2l b)
  have hBX2:∀b,R.B b→¬X2 b:=fun b hB hb=>by
   rcases hb.1 with h|h
   ·exact(hX b h).2.1 hB
   ·have:=R.hBlt b hB;omega
  have hBl:∀b,R.B b→b≠R.l:=fun b hB e=>R.hBl (e▸hB)
  have hs3:Sim (Al w2 J1 X2 R.T R.pn R.l) ρ1 (· <n1) J1 s1 a1 w2:=by
   have:=hs2.rebase (w':=w2) (J':=J1) (X':=X2) (l:=R.l) (pn:=R.pn) (mR:=R.mR) (hs2.defers.2 R.l rfl).1 (by omega) o2.1 o2.2.1 o2.2.2 (fun b hb=>⟨hb,b2 b (J1l b hb)⟩) (fun b hb=>by have:=hs2.jlt b hb;omega)
    (fun id o b s q1 q2=>by
      obtain⟨b',s',g1,g2,g3,g4⟩:=hs2.obj id o q1
      rw[q2] at g1;cases g1
      have:=own1 b g3 g2.lt
      exact⟨b2 b this.2,this.1,g4⟩)
    (fun b hb=>by have:=own1 b hb.2.1 hb.1;exact⟨b2 b this.2,this.1,hb.2.2.1⟩)
    (fun b hb=>⟨by rcases hb.1 with h|h;have:=(hX b h).1;omega;omega,X2l b hb⟩)
    (fun H hH b hb=>⟨b2 b (hBl b (R.hT H hH b hb)),hBX2 b (R.hT H hH b hb)⟩) ⟨_,l2⟩ (fun i hi=>hs2.pin i (by rw[hm];exact hi))
   rw[←hm] at this
   exact this
  refine wpIn_mono (hbody (Al w2 J1 X2 R.T R.pn R.l) ρ1 J1 a1 w2 hs3) ?_
  rintro e a3 w3 ⟨n3,s3,ρ3,J3,hs4,hq⟩
  have z3:w2.heap.size≤w3.heap.size:=hs4.kept.size
  have k3:∀b,b<w2.heap.size→¬(X2 b∧¬J1 b)→w3.heap[b]? =w2.heap[b]? :=fun b hb hn=>hs4.kept.block b hb hn
  have hl3:w3.heap[R.l]? =some (.loop {R.rcd .ready none with state:= .busy}):=(k3 R.l (by omega) (fun h=>X2l _ h.1 rfl)).trans l2
  let C:World→Prop:=fun w4=>w.heap.size≤w4.heap.size∧w4.os=w.os∧w4.tape=w.tape∧w4.output=w.output∧(∃r,w4.heap[R.l]? =some (.loop r))∧(∀b,b<w.heap.size→¬X b→b≠R.l→w4.heap[b]? =w.heap[b]?)∧
      R.G (j+1) (fun b=>X b∨(w.heap.size≤b∧b<w4.heap.size)) w4
  have fin:∀(w4:World),w4=w3.putObj R.l (.loop (R.cur (j+1)))→∀σ:List Nat,σ.length=(if R.go (j+1)=true then R.L else R.LS)→Sub σ ⟨R.n,R.mR,[],if R.go (j+1)=true then R.O (j+1) else R.OS (j+1)⟩ s3→C w4:=by
   intro w4 hw4 σ hσ hsub
   have z4:w4.heap.size=w3.heap.size:=by rw[hw4];simp
   have b4:∀b,b≠R.l→w4.heap[b]? =w3.heap[b]? :=fun b hb=>by rw[hw4];exact World.putObj_heap_other hb
   have l4:w4.heap[R.l]? =some (.loop (R.cur (j+1))):=by rw[hw4];exact World.putObj_heap_same (by omega)
   have o4:w4.os=w3.os∧w4.tape=w3.tape∧w4.output=w3.output:=by rw[hw4];exact⟨rfl,rfl,rfl⟩
   clear hw4
   have frame:∀b,b<w.heap.size→¬(X b∧¬J b)→b≠R.l→w4.heap[b]? =w.heap[b]? :=fun b hb hn hl=>
    (b4 b hl).trans ((k3 b (by omega) (fun h=>by
      rcases h.1.1 with h'|h'
      ·exact hn ⟨h',h.1.2⟩
      ·omega)).trans ((b2 b hl).trans (k1 b hb hn)))
   have os4:w4.os=w.os:=o4.1.trans (hs4.kept.os.trans (o2.1.trans hs2.kept.os))
   have tp4:w4.tape=w.tape:=o4.2.1.trans (hs4.kept.tape.trans (o2.2.1.trans hs2.kept.tape))
   have ou4:w4.output=w.output:=o4.2.2.trans (hs4.kept.output.trans (o2.2.2.trans hs2.kept.output))
   refine⟨by omega,os4,tp4,ou4,⟨_,l4⟩,fun b hb hn hl=>frame b hb (fun h=>hn h.1) hl,?_⟩
   have own3:∀b,((X2 b∧¬J1 b)∨w2.heap.size≤b)→b<w3.heap.size→(X b∨(w.heap.size≤b∧b<w4.heap.size))∧¬J b∧b≠R.l:=fun b hb hlt=>by
    rcases hb with hb|hb
    ·refine⟨?_,hb.1.2,X2l b hb.1⟩
     rcases hb.1.1 with h|h
     ·exact .inl h
     ·exact .inr (by omega)
    ·exact⟨.inr (by omega),fun h=>by have:=h1.jlt b h;omega,by omega⟩
   have J3c:∀b,J3 b→(J b∨(X b∨(w.heap.size≤b∧b<w4.heap.size)))∧b≠R.l:=fun b hb=>by
    rcases hs4.jok b hb with h|h|h
    ·refine⟨?_,J1l b h⟩
     rcases J1c b h with h'|h'
     ·exact .inl h'
     ·rcases h'.1 with h''|h''
      ·exact .inr (.inl h'')
      ·exact .inr (.inr (by omega))
    ·have:=own3 b (.inl h) (hs4.jlt b hb);exact⟨.inr this.1,this.2.2⟩
    ·have:=own3 b (.inr h) (hs4.jlt b hb);exact⟨.inr this.1,this.2.2⟩
   have hs5:=hsub.sim hs4
   have hs6:=hs5.rebase (w':=w4) (J':=fun b=>J b∨J3 b) (X':=fun b=>X b∨(w.heap.size≤b∧b<w4.heap.size)) (l:=R.l) (pn:=R.pn) (mR:=R.mR) (hs5.defers.2 R.l rfl).1 (by omega) o4.1 o4.2.1 o4.2.2 (fun b hb=>⟨.inr hb,b4 b (J3c b hb).2⟩)
    (fun b hb=>by rcases hb with h|h;have:=h1.jlt b h;omega;have:=hs4.jlt b h;omega)
    (fun id o b s q1 q2=>by
      obtain⟨b',s',g1,g2,g3,g4⟩:=hs5.obj id o q1
      rw[q2] at g1;cases g1
      have:=own3 b g3 g2.lt
      exact⟨b4 b this.2.2,this.1,fun h=>h.elim this.2.1 g4⟩)
    (fun b hb=>by have:=own3 b hb.2.1 hb.1;exact⟨b4 b this.2.2,this.1,fun h=>h.elim this.2.1 hb.2.2.1⟩)
    (fun b hb=>by
      rcases hb with h|h
      ·have:=hX b h;exact⟨by omega,this.2.2⟩
      ·exact⟨h.2,by omega⟩)
    (fun H hH b hb=>by
      have hB:=R.hT H hH b hb
      refine⟨b4 b (hBl b hB),fun h=>?_⟩
      rcases h with h|h
      ·exact(hX b h).2.1 hB
      ·have:=R.hBlt b hB;omega) ⟨_,l4⟩ (fun i hi=>hs5.pin i hi)
   have hpin:=hs6.pin
   have hs7:=hs6.reenv (env':=R.env) (a':=⟨R.tmps,[]⟩) (hs5.defers.2 R.l rfl).1.symm R.hsz (fun t=>by
    have e1:Rep w J ρ (R.tmps.getD t undef) ((aS R.env t).getD .any):=h1.env t
    have e2:=e1.mono (w':=w4) (J':=fun b=>J b∨J3 b) (ρ':=ρ) (fun b hb hlt=>⟨.inl hb,frame b hlt (fun h=>h.2 hb) (hJl b hb)⟩) (by omega) (fun _ _ h=>h)
    refine e2.unren (τ:=fun i=>i) (n:=R.mR) (fun id hid=>?_) (NF _).symm ?_
    ·obtain⟨q,q1,q2⟩:=hpin id hid
     obtain⟨q',q3,q4⟩:=h1.pin id hid
     have q1:R.pn id=some q:=q1
     have q3:R.pn id=some q':=q3
     rw[q1] at q3;cases q3
     exact q2.trans q4.symm
    ·cases hl:aS R.env t with
     |none=>simp[bnd]
     |some v=>exact R.hbe _ (adC hl))
   refine⟨_,fun b=>J b∨J3 b,by rw[←hσ];exact hs7,fun b hb=>?_,l4,⟨by omega,os4.trans h5,tp4.trans h6,ou4.trans h7⟩,fun b hb=>?_⟩
   ·rcases hb with h|h
    ·exact(h2 b h).imp id .inl
    ·rcases(J3c b h).1 with h|h
     ·exact(h2 b h).imp id .inl
     ·exact .inr h
   ·have:=R.hBlt b hb
    exact(frame b (by omega) (fun h=>(hX b h.1).2.1 hb) (hBl b hb)).trans (h8 b hb)
  have stop:∀e',e'=R.eS→R.go (j+1)=false→(∃σ:List Nat,σ.length=R.LS∧Sub σ ⟨R.n,R.mR,[],R.OS (j+1)⟩ s3)→∀w4,w4=w3.putObj R.l (.loop (R.rcd .done (some (zu e'))))→C w4:=fun e' he hg hσ w4 hw=>by
   obtain⟨σ,s1,s2⟩:=hσ
   refine fin w4 (by rw[hw];simp[cur,hg,he]) σ (by simp[hg,s1]) ?_
   simp only[hg,Bool.false_eq_true,if_false];exact s2
  rcases hq with⟨rfl,hg,σ,s1,s2⟩|⟨rfl,hg,hσ⟩
  ·have hr:=run_endRound (P:=P) none hl3
   refine⟨_,_,hr,by simp[hg],?_⟩
   refine fin _ (by simp[cur,hg,rcd]) σ (by simp[hg,s1]) ?_
   simp only[hg,if_true];exact s2
  ·rcases R.hE with he|⟨i,he⟩
   ·rw[he] at stop⊢
    have hr:=run_endRound (P:=P) (some .ret) hl3
    refine⟨_,_,hr,by simp[hg],?_⟩
    exact stop _ rfl hg hσ _ (by simp[zu,rcd])
   ·rw[he] at stop⊢
    have hr:=run_endRound (P:=P) (some (.exit i)) hl3
    refine⟨_,_,hr,by simp[hg],?_⟩
    exact stop _ rfl hg hσ _ (by simp[zu,rcd])
 |_=>exact hq.elim
end vX
theorem Sim.retr{c:Ctx} {ρ:Rho} {D J:Nat→Prop} {st:St} {a:Act} {w:World}(hs:Sim c ρ D J st a w){T:iU→Prop}(hT:∀id H j,st.ob id=some (.tr H j)→T H):Sim {c with tr:=T} ρ D J st {a with defers:=[]} w:=
 ⟨⟨⟨[],rfl,.nil,fun _ h=>(by cases h)⟩,fun l hl=>⟨rfl,(hs.defers.2 l hl).2⟩⟩,hs.tmps,hs.env,hs.obj,hs.inj,hs.dom,hs.jok,hs.jlt,hs.ilt,hs.pin,⟨hs.kept.size,hs.kept.os,hs.kept.tape,hs.kept.output,hs.kept.block⟩,
   ⟨hs.hid.one,fun id H j h=>⟨(hs.hid.on id H j h).1,(hs.hid.on id H j h).2.1,hT id H j h⟩⟩,hs.laid⟩
theorem rD{Q:Exit→Nat→St→Prop} {nid:Nat} {st:St} {g:Operand} {f:FuncId} {caps:List AV}(R:RLoop)(σ0:List Nat)(N:Nat)(hg:st.op g= .fn f caps)(hcl:∀x∈caps,bnd 0 x)(hpl:mD P f=true)
 (hc:∀H:iU,H.P=P→H.xs=R.xs→H.go=R.go→∃r,ACall P f (.yl 0::caps) [.tr H 0] 1 r [.tr H N])
 (h0:Sub σ0 ⟨R.n,st.m,R.env,R.O 0⟩ st) (hL:σ0.length=R.L) (hgo:R.go 0=true) (hm:st.m≤R.mR) (hob:∀j,j<R.mR→((⟨R.n,st.m,R.env,R.O 0⟩:St).ob j).isSome=true) (hbe:∀q∈R.env,bnd R.mR q.2) (hp:R.p<R.n) (hE:R.eS= .ret∨∃i,R.eS= .exit i)
 (round:∀j x,R.go j=true→R.xs j=some x→AC P R.assign (Thn (Mid P R j) (fun _ _ _=>False)) R.L ⟨R.n,R.mR,(R.p,.val x)::R.env,R.O j⟩)
 (done:R.go N=true→Q .normal R.L ⟨R.n,st.m,R.env,R.O N⟩) (stop:R.go N=false→Q R.eS R.LS ⟨R.n,st.m,R.env,R.OS N⟩):AC P (.rangeFunc g #[R.p] R.assign R.body) Q nid st:=by
 intro c ρ J a w hs
 have hs0:=h0.sim hs
 generalize hρ0:(fun i=>if i<σ0.length then ρ (σ0.getD i 0) else none)=ρ0 at hs0
 rw[hL] at hs0
 clear hρ0
 refine wpIn_rangeFunc ?_
 intro fn _
 obtain⟨l,mk,W1,dB,hent,hrec,hlw,hW,hWs,ho1,ht1,hu1,hmk⟩:∃l mk W1 dB,(Instr.enterLoop fn a.tmps #[R.p] R.assign R.body (fen c.rd).round).run P w= .ok (l,mk) W1∧W1.heap[l]? =some (.loop {state:= .ready,pending:=none,fn:=fn,tmps:=a.tmps,params:= #[R.p],assign:=R.assign,body:=R.body,defers:=dB})∧
  w.heap.size≤l∧(∀b,b<w.heap.size→W1.heap[b]? =w.heap[b]?)∧w.heap.size≤W1.heap.size∧W1.os=w.os∧W1.tape=w.tape∧W1.output=w.output∧
  (mk=[]∨(c.rd=none∧∃D,mk=[JA D]∧w.heap.size≤D∧D≠l∧W1.heap[D]? =some (.deferred (some [])))):=by
  have al:∀(w:World) (o:Obj) b,b<w.heap.size→(w.alloc o).heap[b]? =w.heap[b]? :=fun w o b hb=>by
   show(w.heap.push o)[b]? =_
   rw[Array.getElem?_push,if_neg (by omega)]
  have sz:∀(w:World) (o:Obj),(w.alloc o).heap.size=w.heap.size+1:=fun w o=>by show(w.heap.push o).size=_;simp
  cases hr:c.rd with
  |none=>
   refine⟨_,_,_,w.heap.size,run_enterLoop_outer fn a.tmps #[R.p] R.assign R.body,?_,by omega,fun b hb=>?_,?_,rfl,rfl,rfl,.inr ⟨rfl,w.heap.size,rfl,Nat.le_refl _,by omega,?_⟩⟩
   ·have:=World.alloc_heap_new (w.alloc (.deferred (some []))) (.loop {state:= .ready,pending:=none,fn:=fn,tmps:=a.tmps,params:= #[R.p],assign:=R.assign,body:=R.body,defers:=w.heap.size})
    rw[sz] at this;exact this
   ·rw[al _ _ _ (by rw[sz];omega),al _ _ _ hb]
   ·rw[sz,sz];omega
   ·rw[al _ _ _ (by rw[sz];omega)];exact World.alloc_heap_new w _
  |some l0=>
   obtain⟨_,q1,r0,q2⟩:=hs.defers.2 l0 hr
   have q3:w.heap[l0]? =some (.loop r0):=(hs.kept.block l0 (Array.getElem?_eq_some_iff.1 q2).1 q1).trans q2
   refine⟨_,_,_,r0.defers,run_enterLoop_inner q3 fn a.tmps #[R.p] R.assign R.body,World.alloc_heap_new w _,by omega,fun b hb=>al _ _ _ hb,?_,rfl,rfl,rfl,.inl rfl⟩
   rw[sz];omega
 have hlW:l<W1.heap.size:=(Array.getElem?_eq_some_iff.1 hrec).1
 let X0:Nat→Prop:=fun b=>b<w.heap.size∧(c.I b∨c.w0.heap.size≤b)∧¬J b
 let B:Nat→Prop:=fun b=>b<W1.heap.size∧¬X0 b∧b≠l
 let T:iU→Prop:=fun H=>∃id k,(⟨R.n,st.m,R.env,R.O 0⟩:St).ob id=some (.tr H k)
 have k0:=hs.kept.size
 have hTs:∀H,T H→(∀b,H.B b→b<c.w0.heap.size∧¬c.I b)∧c.tr H:=fun H ⟨id,k,h⟩=>⟨(hs0.hid.on _ _ _ h).2.1,(hs0.hid.on _ _ _ h).2.2⟩
 have hTB:∀H,T H→∀b,H.B b→B b:=fun H hH b hb=>by
  have:=(hTs H hH).1 b hb
  exact⟨by omega,fun hx=>hx.2.1.elim this.2 (fun h=>by omega),by omega⟩
 have hJB:∀b,J b→B b:=fun b hb=>by have:=hs.jlt b hb;exact⟨by omega,fun hx=>hx.2.2 hb,by omega⟩
 have hz:a.tmps.size=R.n:=hs0.tmps
 let RR:vX P:={toRLoop:=R,tmps:=a.tmps,fn:=fn,dB:=dB,T:=T,J:=J,B:=B,pn:=ρ0,W1:=W1,l:=l,hJB:=hJB,hBl:=fun h=>h.2.2 rfl,hBlt:=fun b h=>h.1,hT:=hTB,hsz:=hz,hp:=hp,hbe:=hbe,hE:=hE,round:=round}
 let HH:iU:={P:=P,l:=l,xs:=R.xs,go:=R.go,B:=B,G:=RR.G,keep:=fun h h1 h2 h3 h4 h5 h6 h7=>RR.keep h h1 h2 h3 h4 h5 h6 h7,yield:=fun h h1 h2 h3 r=>RR.yield h h1 h2 h3 r}
 obtain⟨r,hcall⟩:=hc HH rfl rfl rfl
 have hgv:=hs.op g;rw[hg] at hgv
 generalize hv:a.eval g=v at hgv
 cases hgv with
 |fn _ lb _ hsz hcap=>
  let I:Nat→Prop:=fun b=>X0 b∨b=l
  let ρc:Rho:=fun j=>if j=0 then some (l,0) else none
  have hρc:∀{j p},ρc j=some p→j=0∧p=(l,0):=fun{j p} h=>by
   by_cases e:j=0
   ·have:ρc j=some (l,0):=if_pos e
    rw[this] at h;cases h;exact⟨e,rfl⟩
   ·have:ρc j=none:=if_neg e
    rw[this] at h;cases h
  have hone:∀{j H k} {N:Nat},[aC.tr HH N][j]? =some (.tr H k)→j=0∧H=HH∧k=N:=fun{j H k N} h=>by
   cases j with
   |zero=>simp at h;exact⟨rfl,h.1.symm,h.2.symm⟩
   |succ j=>simp at h
  have hIc:∀b,I b→b≠l→(c.I b∨c.w0.heap.size≤b)∧¬J b∧b<w.heap.size:=fun b hb hn=>hb.elim (fun h=>⟨h.2.1,h.2.2,h.1⟩) (fun h=>absurd h hn)
  refine⟨l,mk,W1,{target:= .fn (.func f) lb,args:= #[.func (.yield l) #[] #[]]},W1,f,#[.func (.yield l) #[] #[]]++lb,W1,hent,?_,fun _ _=>trivial,?_,fun h=>by simp[fen,Fence.wide] at h,nI.2 ?_⟩
  ·simp only[resolve,hv]
   simp[go_sem]
  ·simp[invoke,xh hpl]
  ·refine(hcall W1 J I ρc _ (by simp[hsz];omega) (fun j hj=>?_) (fun b hb=>?_) (fun b hb=>?_) (fun j hj=>?_) (fun j p h=>by have:=(hρc h).1;subst this;simp) (fun i j b s s' h1 h2=>by rw[(hρc h1).1,(hρc h2).1]) ⟨fun i i' H H' k k' h1 h2=>by rw[(hone h1).1,(hone h2).1],fun j H k h=>?_⟩ (hs.laid.mono (fun b hb hlt=>⟨hb,hW b hlt⟩) hWs)).mono ?_
   ·cases j with
    |zero=>simp only[List.getElem_cons_zero];have:(#[Value.func (.yield l) #[] #[]]++lb).getD 0 undef= .func (.yield l) #[] #[]:=by simp only[Array.getD_eq_getD_getElem?];rw[Array.getElem?_append_left (by simp)];simp
           rw[this];exact .yl l 0 0 (if_pos rfl)
    |succ j=>
     simp only[List.getElem_cons_succ]
     have hj':j<caps.length:=by simpa using hj
     have e1:(#[Value.func (.yield l) #[] #[]]++lb).getD (j+1) undef=lb.getD j undef:=by
      simp only[Array.getD_eq_getD_getElem?]
      rw[Array.getElem?_append_right (by simp)];simp
     rw[e1]
     exact((hcap j hj').closed (hcl _ (List.getElem_mem hj'))).mono (fun b hb hlt=>⟨hb,hW b hlt⟩) hWs (fun _ _ h=>h)
   ·have:=hs.jlt b hb
    exact⟨by omega,fun hi=>by by_cases e:b=l;omega;exact(hIc b hi e).2.1 hb⟩
   ·by_cases e:b=l
    ·omega
    ·have:=(hIc b hb e).2.2;omega
   ·have:j=0:=by simpa using hj
    subst this
    exact⟨l,0,if_pos rfl,.inr rfl,rfl,_,hrec⟩
   ·obtain⟨rfl,rfl,rfl⟩:=hone h
    have xc:∀b,X0 b→Xm ⟨W1,J,I,ρc,none,fun H=>H∈trs [.tr HH 0]⟩ J (fun j=>[aC.tr HH 0][j]?) ρc W1 b:=fun b hb=>⟨by have:=hb.1;omega,.inl (.inl hb),hb.2.2,fun id o s _ hr=>by
     have:=(hρc hr).2;simp only[Prod.mk.injEq] at this;have:=hb.1;omega⟩
    have cx:∀b,Xm ⟨W1,J,I,ρc,none,fun H=>H∈trs [.tr HH 0]⟩ J (fun j=>[aC.tr HH 0][j]?) ρc W1 b→X0 b∧b≠l:=fun b hb=>by
     have e:b≠l:=fun e=>by subst e;exact hb.2.2.2 0 _ 0 rfl (if_pos rfl)
     rcases hb.2.1 with h|h
     ·rcases h with h|h
      ·exact⟨h,e⟩
      ·exact absurd h e
     ·have:=hb.1;have h:W1.heap.size≤b:=h;omega
    refine⟨⟨ρ0,J,?_,fun b hb=> .inl hb,?_,⟨Nat.le_refl _,rfl,rfl,rfl⟩,fun b hb=>rfl⟩,fun b hb=>⟨hb.1,fun hi=>hi.elim hb.2.1 hb.2.2⟩,by simp[trs]⟩
    ·have h1:=(hs0.retr (T:=T) (fun id H j h=>⟨id,j,h⟩)).rebase (w':=W1) (J':=J) (X':=Xm ⟨W1,J,I,ρc,none,fun H=>H∈trs [.tr HH 0]⟩ J (fun j=>[aC.tr HH 0][j]?) ρc W1) (l:=l) (pn:=ρ0) (mR:=R.mR) rfl hWs ho1 ht1 hu1
      (fun b hb=>⟨hb,hW b (hs.jlt b hb)⟩) (fun b hb=>by have:=hs.jlt b hb;omega) (fun id o b s q1 q2=>by
        obtain⟨b',s',g1,g2,g3,g4⟩:=hs0.obj id o q1
        rw[q2] at g1;cases g1
        exact⟨hW b g2.lt,xc b ⟨g2.lt,g3,g4⟩,g4⟩) (fun b hb=>⟨hW b hb.1,xc b ⟨hb.1,hb.2.1,hb.2.2.1⟩,hb.2.2.1⟩) (fun b hb=>⟨hb.1,(cx b hb).2⟩)
      (fun H hH b hb=>by
        have:=(hTs H hH).1 b hb
        exact⟨hW b (by omega),fun hx=>(hTB H hH b hb).2.1 (cx b hx).1⟩) ⟨_,hrec⟩ (fun i hi=>by
        obtain⟨o,ho⟩:=Option.isSome_iff_exists.1 (hob i hi)
        obtain⟨b,s,g1,_⟩:=hs0.obj i o ho
        exact⟨_,g1,g1⟩)
     have e1:(R.go 0=true)=True:=by simp[hgo]
     show Sim _ ρ0 (· <if R.go 0=true then R.L else R.LS) J ⟨R.n,R.mR,R.env,if R.go 0=true then R.O 0 else R.OS 0⟩ _ W1
     simp only[hgo,if_true]
     exact h1
    ·show W1.heap[l]? =some (.loop (RR.cur 0))
     have:RR.cur 0=RR.rcd .ready none:=by show(if R.go 0=true then _ else _)=_;rw[if_pos hgo]
     rw[this];exact hrec
   ·rintro e W2 ⟨v,ρ',Jc,rfl,_,hJc,hkept,_,_,hobj',_,hhid'⟩
    obtain⟨ρ2,J2,g1,g2,g3,⟨g4,g5,g6,g7⟩,g8⟩:=(hhid'.on 0 HH N rfl).1
    generalize hXc:Xm ⟨W1,J,I,ρc,none,fun H=>H∈trs [.tr HH 0]⟩ Jc (fun j=>[aC.tr HH N][j]?) ρ' W2=Xc at g1 g2
    have hX:∀b,Xc b→b<W2.heap.size∧b≠l∧(c.I b∨c.w0.heap.size≤b)∧¬J b∧(X0 b∨W1.heap.size≤b):=fun b hb=>by
     rw[←hXc] at hb
     obtain⟨b1,s1,p1,⟨p2,_⟩,_⟩:=hobj' 0 (by simp)
     have p2:b1=l:=p2
     rw[p2] at p1
     have e:b≠l:=fun e=>by subst e;exact hb.2.2.2 0 _ _ rfl p1
     refine⟨hb.1,e,?_⟩
     rcases hb.2.1 with h|h
     ·have:=hIc b h e;exact⟨this.1,this.2.1,.inl (h.resolve_right e)⟩
     ·have h:W1.heap.size≤b:=h
      exact⟨.inr (by omega),fun hj=>by have:=hs.jlt b hj;omega,.inr h⟩
    clear hXc
    have hB:∀b,B b→W2.heap[b]? =W1.heap[b]? :=g8
    have hWW:W1.heap.size≤W2.heap.size:=g4
    generalize hW3:W2.putObj l (.loop {RR.cur N with state:= .exhausted})=W3
    have z3:W3.heap.size=W2.heap.size:=by rw[←hW3];simp
    have b3:∀b,b≠l→W3.heap[b]? =W2.heap[b]? :=fun b hb=>by rw[←hW3];exact World.putObj_heap_other hb
    have o3:W3.os=W2.os∧W3.tape=W2.tape∧W3.output=W2.output:=by rw[←hW3];exact⟨rfl,rfl,rfl⟩
    let Jf:Nat→Prop:=fun b=>J b∨J2 b∨JA b∈mk
    have hmkD:∀b,JA b∈mk→w.heap.size≤b∧b≠l∧b<W1.heap.size∧W1.heap[b]? =some (.deferred (some [])):=fun b hb=>by
     rcases hmk with h|⟨_,D,h,d1,d2,d3⟩
     ·rw[h] at hb;cases hb
     ·rw[h] at hb
      have:b=D:=by simpa[JA] using hb
      subst this
      exact⟨d1,d2,(Array.getElem?_eq_some_iff.1 d3).1,d3⟩
    have nJf:∀b,Xc b→¬J2 b→¬Jf b:=fun b hb hn h=>by
     obtain⟨_,x2,_,x4,x5⟩:=hX b hb
     rcases h with h|h|h
     ·exact x4 h
     ·exact hn h
     ·have:=hmkD b h
      rcases x5 with x5|x5
      ·have:=x5.1;omega
      ·omega
    have fsim:∀(L':Nat) (O':List (Nat×Option aC)),Sim (Al W2 J2 Xc T ρ0 l) ρ2 (· <L') J2 ⟨R.n,R.mR,R.env,O'⟩ ⟨a.tmps,[]⟩ W2→Sim c ρ2 (· <L') Jf ⟨R.n,st.m,R.env,O'⟩ {a with defers:=mk++a.defers} W3:=by
     intro L' O' g
     have hJ2:∀b,J2 b→b≠l∧(J b∨Xc b):=fun b hb=>by
      rcases g2 b hb with h|h
      ·have:=hs.jlt b h;exact⟨by omega,.inl h⟩
      ·exact⟨(hX b h).2.1,.inr h⟩
     have hmono:∀b,J2 b→b<W2.heap.size→Jf b∧W3.heap[b]? =W2.heap[b]? :=fun b hb _=>⟨.inr (.inl hb),b3 b (hJ2 b hb).1⟩
     have hold:∀b,B b→b<w.heap.size→W3.heap[b]? =w.heap[b]? :=fun b hb hlt=>(b3 b hb.2.2).trans ((hB b hb).trans (hW b hlt))
     have own:∀{id o},(⟨R.n,R.mR,R.env,O'⟩:St).ob id=some o→∃b s,ρ2 id=some (b,s)∧ObjRep W2 J2 ρ2 b s o∧Xc b∧¬J2 b:=fun{id o} h=>by
      obtain⟨b,s,q1,q2,q3,q4⟩:=g.obj id o h
      refine⟨b,s,q1,q2,?_,q4⟩
      rcases q3 with q3|q3
      ·exact q3.1
      ·have:=q2.lt;have q3:W2.heap.size≤b:=q3;omega
     have lift:∀b,Xm (Al W2 J2 Xc T ρ0 l) J2 (⟨R.n,R.mR,R.env,O'⟩:St).ob ρ2 W2 b→Xc b∧¬J2 b:=fun b hb=>by
      rcases hb.2.1 with h|h
      ·exact h
      ·have:=hb.1;have h:W2.heap.size≤b:=h;omega
     refine⟨?_,hz,fun t=>(g.env t).mono hmono (by omega) (fun _ _ h=>h),fun id o h=>?_,g.inj,g.dom,fun b hb=>?_,fun b hb=>?_,hs.ilt,fun j hj=>?_,⟨by omega,?_,?_,?_,fun b hb hI=>?_⟩,⟨g.hid.one,fun id H j h=>?_⟩,hs.laid.mono (fun b hb hlt=>⟨.inl hb,hold b (hJB b hb) hlt⟩) (by omega)⟩
     ·obtain⟨⟨ll,e1,e2,e3⟩,e4⟩:=hs.defers
      have hD:∀D∈ll,W3.heap[D]? =some (.deferred (some []))∧Jf D∧c.w0.heap.size≤D:=fun D hD=>by
       obtain⟨q1,q2,q3⟩:=e3 D hD
       exact⟨(hold D (hJB D q2) (hs.jlt D q2)).trans q1,.inl q2,q3⟩
      rcases hmk with h|⟨hr,D,h,d1,d2,d3⟩
      ·exact⟨⟨ll,by rw[h];exact e1,e2,hD⟩,fun l hl=>by rw[h];exact e4 l hl⟩
      ·refine⟨⟨D::ll,by rw[h,List.map_cons,←e1];rfl,List.nodup_cons.2 ⟨fun hm=>?_,e2⟩,fun D' hD'=>?_⟩,fun l hl=>by rw[hr] at hl;cases hl⟩
       ·have:=hs.jlt D (e3 D hm).2.1;omega
       ·rcases List.mem_cons.1 hD' with e|hD'
        ·subst e
         have d4:=(Array.getElem?_eq_some_iff.1 d3).1
         refine⟨(b3 D' d2).trans ((hB D' ⟨d4,fun hx=>by have:=hx.1;omega,d2⟩).trans d3),.inr (.inr (by rw[h];exact List.mem_cons_self)),by omega⟩
        ·exact hD D' hD'
     ·obtain⟨b,s,q1,q2,q3,q4⟩:=own h
      exact⟨b,s,q1,q2.mono hmono (by omega) (fun _ _ h=>h) (b3 b (hX b q3).2.1),(hX b q3).2.2.1,nJf b q3 q4⟩
     ·rcases hb with h|h|h
      ·exact hs.jok b h
      ·rcases(hJ2 b h).2 with h|h
       ·exact hs.jok b h
       ·exact .inr (hX b h).2.2.1
      ·have:=hmkD b h;exact .inr (.inr (by omega))
     ·rcases hb with h|h|h
      ·have:=hs.jlt b h;omega
      ·have:=g.jlt b h;omega
      ·have:=hmkD b h;omega
     ·obtain⟨p1,q1,q2⟩:=hs0.pin j hj
      obtain⟨p2,q3,q4⟩:=g.pin j (Nat.lt_of_lt_of_le hj hm)
      have q3:ρ0 j=some p2:=q3
      rw[q2] at q3;cases q3
      exact⟨_,q1,q4⟩
     ·exact o3.1.trans (g5.trans (ho1.trans hs.kept.os))
     ·exact o3.2.1.trans (g6.trans (ht1.trans hs.kept.tape))
     ·exact o3.2.2.trans (g7.trans (hu1.trans hs.kept.output))
     ·exact(hold b ⟨by omega,fun hx=>hx.2.1.elim hI (fun h=>by omega),by omega⟩ (by omega)).trans (hs.kept.block b hb hI)
     ·obtain⟨q1,_,q3⟩:=g.hid.on id H j h
      have hst:=hTs H q3
      obtain⟨b0,s0,p1,⟨p2,_⟩,p3,p4⟩:=own h
      subst p2
      refine⟨H.keep q1 (by omega) o3.1 o3.2.1 o3.2.2 (fun b hb=>b3 b ?_) (fun b hb=>?_) (fun b hb=>⟨hb.1,fun hB'=>?_,fun e=>?_⟩),hst⟩
      ·rcases hb with hb|hb|hb
       ·exact(hX b (lift b hb).1).2.1
       ·exact(hTB H q3 b hb).2.2
       ·subst hb;exact(hX _ p3).2.1
      ·have:=lift b hb
       exact⟨by have:=hb.1;omega,(hX b this.1).2.2.1,nJf b this.1 this.2,hb.2.2.2⟩
      ·have:=hst.1 b hB'
       rcases hb.2.1 with h|h
       ·exact this.2 h
       ·omega
      ·subst e;exact hb.2.2.2 _ _ _ h p1
    have hend:=run_endLoop (P:=P) g3 (by show(RR.cur N).state≠ .busy;unfold vX.cur;split<;>simp[vX.rcd])
    rw[hW3] at hend
    by_cases hN:R.go N=true
    ·have e1:(RR.cur N).pending=none:=by unfold vX.cur;rw[if_pos hN];rfl
     rw[e1] at hend
     refine⟨none,W3,hend,R.L,_,ρ2,Jf,fsim R.L (R.O N) ?_,done hN⟩
     have g1:Sim _ ρ2 (· <if R.go N=true then R.L else R.LS) J2 ⟨R.n,R.mR,R.env,if R.go N=true then R.O N else R.OS N⟩ _ W2:=g1
     simp only[hN,if_true] at g1
     exact g1
    ·have hN:R.go N=false:=by simpa using hN
     have e1:(RR.cur N).pending=some (zu R.eS):=by unfold vX.cur;rw[if_neg (by show¬R.go N=true;simp[hN])];rfl
     rw[e1] at hend
     have g1:Sim _ ρ2 (· <if R.go N=true then R.L else R.LS) J2 ⟨R.n,R.mR,R.env,if R.go N=true then R.O N else R.OS N⟩ _ W2:=g1
     simp only[hN,Bool.false_eq_true,if_false] at g1
     have fin:Rk c Q R.eS {a with defers:=mk++a.defers} W3:=⟨R.LS,_,ρ2,Jf,fsim R.LS (R.OS N) g1,stop hN⟩
     refine⟨some (zu R.eS),W3,hend,?_⟩
     rcases hE with he|⟨i,he⟩
     ·rw[he] at fin⊢;exact wpIn_ret fin
     ·rw[he] at fin⊢;exact wpIn_exit fin
