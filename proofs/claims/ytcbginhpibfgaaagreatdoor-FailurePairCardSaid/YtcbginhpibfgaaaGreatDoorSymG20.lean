/- Sym20 Sym21 Sym22 Sym23 Sym24 Sym25 Sym26 Sym27 Sym28 Sym29 Sym31 Sym38. No condition. -/
import Derived.Test.YtcbginhpibfgaaaGreatDoorSymG15
import Derived.Lib.AppendZeros
import Derived.LaidMore
set_option linter.all false
namespace Go.Sy
section
variable {P:Program} {Q:Exit→Nat→St→Prop} {nid:Nat} {st:St} {dst:Option Nat} {ty:TypeId} {pos:String} {af:Array Edge} {g:Option (Nat×Bool)} {K:Nat→Eff→Prop}
theorem VE{ops:Array Oper} {rest:List Oper} {n m d:Nat} {env:List (Nat×AV)} {objs:List (Nat×Option aD)} {e:TypeId} {es:Nat}(t:TypeId)(x:Operand) [ht:d9 P t e] [hsz:gq P e es](hd:jR n (some d)=true)
 (h:aH (Gv (St.op ⟨n,m,env,objs⟩ x)) fun p=>aH (Jq (St.ob ⟨n,m,env,objs⟩ p.1)) fun o=>p.2.2.2=es∧∀K:List (Nat×AV)→List (Nat×Option aD)→Prop,(∀env' objs',AL P ops Q rest nid ⟨n,m,env',objs'⟩→K env' objs')→
   (K ((d,.val (.int .i64 p.2.2.1))::env) ((p.1,some (.full (o.1++List.replicate (p.2.1+p.2.2.1*es-o.1.length) .any) o.2))::objs))∧
   ∀c:Nat,p.2.2.1<c→o.1.length≤p.2.1+c*es→K ((d,.val (.int .i64 c))::env) ((p.1,some (.cells (o.1++List.replicate (p.2.1+c*es-o.1.length) .any) o.2))::objs)):
 AL P ops Q (⟨some d,.call ⟨.builtin .cap,#[x],#[t]⟩,ty,pos,af,none⟩::rest) nid ⟨n,m,env,objs⟩:=fun c ρ J a w hs=>by
 obtain⟨⟨id,off,len,es'⟩,h1,⟨cs,e'⟩,h2,h3,h4⟩:=h
 dsimp only at h2 h3 h4
 subst h3
 have hx:=nT h1;dsimp only at hx
 have ho:=sQ h2;dsimp only at ho
 have e1:=hs.op x;rw[hx] at e1
 obtain⟨b,s,k1,⟨arr,k2,k3,k4,k5,k6⟩,k7,k8⟩:=hs.obj _ _ ho
 generalize hv:a.eval x=v at e1
 cases e1 with
 |sl b' s' _ _ _ _ cap hρ hc hs'=>
  rw[k1] at hρ;cases hρ
  have hrun:(execOp a.eval ⟨some d,.call ⟨.builtin .cap,#[x],#[t]⟩,ty,pos,af,none⟩).run P w= .ok (.value (.int .i64 cap)) w:=by
   simp[execOp,resolve,invoke,builtin,hv,Builtin.cap_,run_underlying (bi ht.out),goInt]
  have hdn:d<n:=by simpa[jR] using hd
  have hle:cs.length≤off+cap*es':=by omega
  -- the spare cells are told, as either kind of object
  have main:∀ob:aD,ob.isTr=false→(∀(h:ObjRep w J ρ b s (.full (cs++List.replicate (off+cap*es'-cs.length) .any) e')),ObjRep w J ρ b s ob)→
   Sim c ρ (· <nid) J ⟨n,m,(d,.val (.int .i64 cap))::env,(id,some ob)::objs⟩ (a.put (some d) (.int .i64 cap)) w:=by
   intro ob hnt hob0
   have hob:∀i o,(⟨n,m,(d,.val (.int .i64 cap))::env,(id,some ob)::objs⟩:St).ob i=some o→(i=id∧o=ob)∨(⟨n,m,env,objs⟩:St).ob i=some o:=by
    intro i o hi
    simp only[St.ob,bg] at hi
    split at hi
    ·rename_i hid;simp at hi;exact .inl ⟨hid,hi.symm⟩
    ·exact .inr hi
   have hex:∀i o,(⟨n,m,(d,.val (.int .i64 cap))::env,(id,some ob)::objs⟩:St).ob i=some o→∃o',(⟨n,m,env,objs⟩:St).ob i=some o':=by
    intro i o hi
    rcases hob i o hi with⟨rfl,_⟩|hi
    ·exact⟨_,ho⟩
    ·exact⟨_,hi⟩
   refine⟨hs.defers,by simpa[Act.put] using hs.tmps,fun t=>?_,fun i o ho'=>?_,fun i i' o o' b s s' g1 g2=>?_,hs.dom,hs.jok,hs.jlt,hs.ilt,hs.pin,hs.kept,hs.hid_of (fun i=>i) (fun i o ho'=>?_) (fun _ _ _ _ _ _ _ _ e=>e) (fun _ h=> .inl h),hs.laid⟩
   ·simp only[Act.put,St.ev,bg]
    by_cases htd:t=d
    ·subst htd
     rw[if_pos rfl]
     have hlt:t<a.tmps.size:=by rw[hs.tmps];exact hdn
     have:(a.tmps.setIfInBounds t (.int .i64 cap)).getD t undef= .int .i64 cap:=by simp[Array.getD,hlt]
     rw[this];exact .val _
    ·rw[if_neg htd]
     have:(a.tmps.setIfInBounds d (.int .i64 cap)).getD t undef=a.tmps.getD t undef:=by
      simp[Array.getD_eq_getD_getElem?,Array.getElem?_setIfInBounds,Ne.symm htd]
     rw[this];exact hs.env t
   ·rcases hob i o ho' with⟨rfl,rfl⟩|ho'
    ·refine⟨b,s,k1,hob0 ⟨arr,k2,k3,?_,fun j hj=>?_,k6⟩,k7,k8⟩
     ·simp;omega
     ·by_cases hjc:j<cs.length
      ·have:=k5 j hjc
       simpa[List.getElem_append_left hjc] using this
      ·refine⟨?_,?_⟩
       ·rw[List.length_append,List.length_replicate] at hj
        have hja:j<arr.size:=by omega
        rw[Array.all_eq_true_iff_forall_mem] at k6
        have:=k6 _ (Array.getElem_mem hja)
        simpa[Array.getD,hja] using this
       ·have:(cs++List.replicate (off+cap*es'-cs.length) AV.any)[j]= .any:=by
         rw[List.getElem_append_right (by omega)];simp
        rw[this];exact .any _
    ·exact hs.obj i o ho'
   ·obtain⟨o1,q1⟩:=hex i o g1
    obtain⟨o2,q2⟩:=hex i' o' g2
    exact hs.inj i i' o1 o2 b s s' q1 q2
   ·rcases hob i o ho' with⟨rfl,rfl⟩|ho'
    ·exact⟨_,ho,fun _ _ e=>(by subst e;cases hnt),rfl⟩
    ·exact⟨o,ho',fun _ _ e=>e,rfl⟩
  refine wpListIn_plain rfl (fun K hK=>Oper.wp_in (fun _ h=>(by cases h)) ?_)
  unfold Oper.wp
  rw[hrun]
  obtain⟨h5,h6⟩:=h4 (fun env' objs'=>AL P ops Q rest nid ⟨n,m,env',objs'⟩) (fun _ _ h=>h)
  rcases Nat.eq_or_lt_of_le hc with hcl|hcl
  ·subst hcl
   exact hK _ _ (h5 c ρ J (a.put (some d) (.int .i64 len)) w (main _ rfl fun h=>h))
  ·exact hK _ _ (h6 cap hcl hle c ρ J (a.put (some d) (.int .i64 cap)) w (main _ rfl ObjRep.unfull))
theorem lJ(t:TypeId)(x:Operand){e:TypeId} [ht:d9 P t e](h:aH (AQ (st.op x)) fun p=>p=(true,[],0)∧K 0 ⟨.val (.int .i64 0),[]⟩):AO P ⟨dst,.call ⟨.builtin .cap,#[x],#[t]⟩,ty,pos,af,g⟩ nid st K:=by
 obtain⟨p,h1,rfl,h2⟩:=h
 refine⟨0,_,.pure fun c ρ D J a w hs=>?_,h2⟩
 have e1:=hs.op x;rw[qL h1] at e1
 have hv0:a.eval x= .slice none 0 0:=by
  generalize hxx:AV.isl true [] 0=xx at e1
  generalize a.eval x=v at e1
  cases e1<;>simp at hxx
  rfl
 exact⟨.int .i64 0,by simp[execOp,resolve,invoke,builtin,hv0,Builtin.cap_,run_underlying (bi ht.out),goInt],.val _⟩
theorem Ia{w:World} {J:Nat→Prop} {ρ:Rho} {z:Array Value} {zs:List Value}(hz:z=zs.toArray)(h1:zs.all Value.oneCell'=true)(n:Nat):
 ∀j (hj:j<(eT zs n).length),Rep w J ρ ((Builtin.zeroCells z n).getD j undef) (eT zs n)[j]:=by
 intro j hj
 have hcr:=sK (w:=w) (J:=J) (ρ:=ρ) hz h1 n
 have:=(hcr.2.1 j hj).2
 have hjm:j<n*zs.length:=by rw[gH] at hj;exact hj
 simpa[madeCells,Builtin.zeroCells,hz,Array.getD_eq_getD_getElem?,hjm] using this
theorem fU{e:TypeId} {es by':Nat} {zs:List Value} {kn:IntKind}(t tn:TypeId)(x y:Operand) [he:d9 P t e] [hsz:gq P e es] [hb:Az P e by'] [hz:jX P e zs] [htn:iW P tn kn]
 (h:aH (AQ (st.op x)) fun p=>aH (jQ (st.op y)) fun k=>p=(true,[],0)∧zs.length=es∧zs.all Value.oneCell'=true∧0<es∧0<k∧k≤9223372036854775807∧k.toNat*by'≤281474976710656∧K 1 ⟨.sl nid 0 k.toNat es,[(nid,some (.cells (eT zs k.toNat) e))]⟩):
 AO P ⟨dst,.call ⟨.builtin .append,#[x,y],#[t,tn]⟩,ty,pos,af,g⟩ nid st K:=by
 obtain⟨p,h1,k,h2,rfl,h3,h4,h5,h6,h7,h8,h9⟩:=h
 refine⟨1,_,.alloc fun c ρ D J a w hs=>?_,h9⟩
 obtain⟨i,z,hi,his,hzi,hzc⟩:=lD hsz.out hz.out
 have hb':i.bytes=by':=by have:=hb.out;unfold byt at this;simpa[hi] using this
 have e1:=hs.op x;rw[qL h1] at e1
 obtain⟨kk,hk⟩:=gP h2
 have e2:=hs.op y;rw[hk] at e2
 have e2:=aN e2
 have hv0:a.eval x= .slice none 0 0:=by
  generalize hxx:AV.isl true [] 0=xx at e1
  generalize a.eval x=v at e1
  cases e1<;>simp at hxx
  rfl
 obtain⟨n,rfl⟩:∃n:Nat,k=n:=⟨k.toNat,by omega⟩
 simp only[Int.toNat_natCast] at h8⊢
 have hr:=Lib.run_append_nil_zeros (P:=P) w t tn ty e i z kk kn (bi he.out) (fE htn.out) hi hzi n (by omega) (by omega) h7 (by rw[hb'];exact h8)
 have hge:=grownCap_ge w n 0 e
 obtain⟨A,hA⟩:∃A,A=Builtin.zeroCells z.cells n++Builtin.zeroCells z.cells (grownCap w n 0 e-n):=⟨_,rfl⟩
 rw[←hA] at hr
 refine⟨.slice (some ⟨w.heap.size,0,none⟩) n (grownCap w n 0 e),w.drew.alloc (.cells A e),.cells A e,grownCap w n 0 e*es,?_,gW.drew w _,fun ρ' h1' h2'=>⟨.sl _ _ nid 0 n es _ h1' hge (by omega),A,(gW.drew w _).new,?_,?_,?_⟩⟩
 ·simp[execOp,resolve,invoke,builtin,hv0,e2,hr]
 ·rw[hA]
  simp only[Array.size_append,size_zeroCells,hzc,List.size_toArray,h3,←Nat.add_mul]
  congr 1;omega
 ·rw[gH,h3];exact Nat.mul_le_mul_right _ hge
 ·have:=(nP (w:=w.drew.alloc (.cells A e)) (J:=J) (ρ:=ρ') (vs:=(Builtin.zeroCells z.cells n).toList) (avs:=eT zs n) (Builtin.zeroCells z.cells (grownCap w n 0 e-n)) (lq h4 hzc _)
   (by simp[size_zeroCells,hzc,gH]) (fun u hu=>by
     have:=lq h4 hzc n
     rw[Array.all_eq_true_iff_forall_mem] at this
     exact this u (by simpa using hu)) (fun j hj=>by
     have:=Ia (w:=w.drew.alloc (.cells A e)) (J:=J) (ρ:=ρ') hzc h4 n j hj
     simpa[List.getD_eq_getElem?_getD,Array.getD_eq_getD_getElem?] using this)).2
  simp only[Array.toArray_toList] at this
  rw[hA] at*
  exact this
def yj:Option aD→Option (List AV×TypeId)
 |some (.full cs e)=>some (cs,e)
 |_=>none
theorem VF{cs:List AV} {e:TypeId}:yj (some (.full cs e))=some (cs,e):=rfl
theorem ym{o:Option aD} {p:List AV×TypeId}(h:yj o=some p):o=some (.full p.1 p.2):=by
 unfold yj at h
 split at h
 ·cases h;rfl
 ·cases h
theorem iI{e:TypeId} {es by':Nat} {zs:List Value} {kn:IntKind}(t tn:TypeId)(x y:Operand) [he:d9 P t e] [hsz:gq P e es] [hb:Az P e by'] [hz:jX P e zs] [htn:iW P tn kn]
 (h:aH (Gv (st.op x)) fun p=>aH (yj (st.ob p.1)) fun o=>aH (jQ (st.op y)) fun k=>p.2.2.2=es∧o.2=e∧zs.length=es∧zs.all Value.oneCell'=true∧0<es∧0<k∧p.2.1+p.2.2.1*es≤o.1.length∧o.1.length<p.2.1+(p.2.2.1+k.toNat)*es∧
   (p.2.2.1+k.toNat)*by'≤140737488355328∧p.2.2.1+k.toNat≤9223372036854775807∧K 1 ⟨.sl nid 0 (p.2.2.1+k.toNat) es,[(nid,some (.cells ((o.1.drop p.2.1).take (p.2.2.1*es)++eT zs k.toNat) e))]⟩):
 AO P ⟨dst,.call ⟨.builtin .append,#[x,y],#[t,tn]⟩,ty,pos,af,g⟩ nid st K:=by
 obtain⟨⟨id,off,len,es'⟩,h1,⟨cs,e'⟩,h2,k,hk0,h3,h4,h5,h6,h7,h8,h9,h10,h11,h12,h13⟩:=h
 dsimp only at h2 h3 h4 h9 h10 h11 h12 h13
 subst h3;subst h4
 have hx:=nT h1;dsimp only at hx
 have ho:=ym h2;dsimp only at ho
 refine⟨1,_,.alloc fun c ρ D J a w hs=>?_,h13⟩
 obtain⟨i,z,hi,his,hzi,hzc⟩:=lD hsz.out hz.out
 have hb':i.bytes=by':=by have:=hb.out;unfold byt at this;simpa[hi] using this
 have e1:=hs.op x;rw[hx] at e1
 obtain⟨kk,hk⟩:=gP hk0
 have e2:=hs.op y;rw[hk] at e2
 have e2:=aN e2
 obtain⟨n,rfl⟩:∃n:Nat,k=n:=⟨k.toNat,by omega⟩
 simp only[Int.toNat_natCast] at h10 h11 h12⊢
 obtain⟨b,s,k1,k2,_⟩:=hs.obj _ _ ho
 have k2':=k2.unfull
 obtain⟨arr,g1,g2,g3,_⟩:=k2
 obtain⟨f,hf⟩:=fF k2'
 generalize hv:a.eval x=v at e1
 cases e1 with
 |sl b' s' _ _ _ _ cap hρ hc hs'=>
  rw[k1] at hρ;cases hρ
  have hcap:¬(len+n≤cap):=by
   intro hle
   have:(len+n)*es'≤cap*es':=Nat.mul_le_mul_right _ hle
   omega
  have hnw:IntKind.i64.wrap (n:Int)=n:=K8 (by omega)
  have hge:=grownCap_ge w (len+n) cap e'
  have hne:n≠0:=by omega
  have h63':¬(9223372036854775807<((len:Int)+(n:Int))):=by omega
  have hfits:¬(281474976710656<Builtin.nextslicecap (len+n) cap*i.bytes):=by
   have:=growslice_fits (need:=len+n) (old:=cap) (bytes:=i.bytes) (by omega) (by rw[hb'];exact h11)
   omega
  have h48i:¬(281474976710656<(n:Int)*(i.bytes:Int)):=by
   have h:n*i.bytes≤(len+n)*i.bytes:=Nat.mul_le_mul_right _ (by omega)
   rw[hb'] at h⊢
   rw[←Int.natCast_mul]
   omega
  have hneg:¬((n:Int)<0):=by omega
  have hns:¬(n*i.size=0):=Nat.mul_ne_zero hne (by omega)
  have hol:((List.range (len*es')).map fun j=>f (off+j)).length=len*i.size:=by simp[his]
  have hfo:=run_firstCells_some (P:=P) w.drew i.size len ⟨b,off,none⟩ len cap ((List.range (len*es')).map fun j=>f (off+j)) hol (fun j v hj=>by
   obtain⟨hlt,rfl⟩:=List.getElem?_eq_some_iff.1 hj
   have hj':j<len*es':=by simpa using hlt
   rw[Addr.add_lit]
   have:=(hf (off+j) (by omega)).1
   simpa using this)
  have hcn:¬(len+n≤cap):=hcap
  have hr:(Builtin.append_ #[t,tn] ty #[.slice (some ⟨b,off,none⟩) len cap,.int kk n]).run P w= .ok (.slice (some ⟨w.heap.size,0,none⟩) (len+n) (grownCap w (len+n) cap e'))
   (w.drew.alloc (.cells (((List.range (len*es')).map fun j=>f (off+j)).toArray++Builtin.zeroCells z.cells n++Builtin.zeroCells z.cells (grownCap w (len+n) cap e'-(len+n))) e')):=by
   simp[Builtin.append_,run_underlying (bi he.out),run_underlying (fE htn.out),sizeOf,typeInfo,zeroValue,hi,hzi,asInt,asIntOf,hnw,hne,hneg,hns,hcn,h63',hfits,h48i,Question.forced,hfo,newRow,grownCap]
  obtain⟨A,hA⟩:∃A,A=((List.range (len*es')).map fun j=>f (off+j)).toArray++Builtin.zeroCells z.cells n++Builtin.zeroCells z.cells (grownCap w (len+n) cap e'-(len+n)):=⟨_,rfl⟩
  rw[←hA] at hr
  refine⟨.slice (some ⟨w.heap.size,0,none⟩) (len+n) (grownCap w (len+n) cap e'),w.drew.alloc (.cells A e'),.cells A e',grownCap w (len+n) cap e'*es',?_,gW.drew w _,fun ρ' h1' h2'=>⟨.sl _ _ nid 0 (len+n) es' _ h1' hge (by omega),A,(gW.drew w _).new,?_,?_,?_⟩⟩
  ·simp[execOp,resolve,invoke,builtin,hv,e2,hr]
  ·rw[hA]
   simp only[Array.size_append,List.size_toArray,List.length_map,List.length_range,size_zeroCells,hzc,h5,←Nat.add_mul]
   congr 1;omega
  ·rw[List.length_append,gH,h5,List.length_take,List.length_drop,Nat.min_eq_left (by omega),←Nat.add_mul];exact Nat.mul_le_mul_right _ hge
  ·have hz1:=lq h6 hzc n
   rw[Array.all_eq_true_iff_forall_mem] at hz1
   have:=(nP (w:=w.drew.alloc (.cells A e')) (J:=J) (ρ:=ρ') (vs:=(List.range (len*es')).map (fun j=>f (off+j))++(Builtin.zeroCells z.cells n).toList) (avs:=(cs.drop off).take (len*es')++eT zs n) (Builtin.zeroCells z.cells (grownCap w (len+n) cap e'-(len+n))) (lq h6 hzc _)
    (by rw[List.length_append,List.length_append,List.length_map,List.length_range,List.length_take,List.length_drop,Nat.min_eq_left (by omega)];simp[size_zeroCells,hzc,gH]) (fun u hu=>by
      rcases List.mem_append.1 hu with hu|hu
      ·obtain⟨j,hj,rfl⟩:=List.mem_map.1 hu
       have hj':j<len*es':=by simpa using hj
       exact(hf (off+j) (by omega)).2.1
      ·exact hz1 u (by simpa using hu)) (fun j hj=>by
      have htl:((cs.drop off).take (len*es')).length=len*es':=by rw[List.length_take,List.length_drop];omega
      by_cases hjl:j<len*es'
      ·rw[List.getElem_append_left (by omega)]
       have e3:((List.range (len*es')).map (fun j=>f (off+j))++(Builtin.zeroCells z.cells n).toList).getD j undef=f (off+j):=by
        rw[List.getD_eq_getElem?_getD,List.getElem?_append_left (by simpa using hjl)];simp[hjl]
       rw[e3]
       have:=(hf (off+j) (by omega)).2.2
       have:=this.grew (gW.drew w (.cells A e')) h2'
       simpa using this
      ·rw[List.getElem_append_right (by omega)]
       have e3:((List.range (len*es')).map (fun j=>f (off+j))++(Builtin.zeroCells z.cells n).toList).getD j undef=(Builtin.zeroCells z.cells n).getD (j-len*es') undef:=by
        rw[List.getD_eq_getElem?_getD,List.getElem?_append_right (by simp;omega)];simp[Array.getD_eq_getD_getElem?]
       rw[e3]
       have hjz:j-len*es'<(eT zs n).length:=by rw[List.length_append,htl] at hj;omega
       have:=Ia (w:=w.drew.alloc (.cells A e')) (J:=J) (ρ:=ρ') hzc h6 n (j-len*es') hjz
       simpa[htl] using this)).2
   have e4:((List.range (len*es')).map (fun j=>f (off+j))++(Builtin.zeroCells z.cells n).toList).toArray=((List.range (len*es')).map fun j=>f (off+j)).toArray++Builtin.zeroCells z.cells n:=by
    apply Array.ext';simp
   rw[e4] at this
   rw[hA] at*
   exact this
theorem lK{e:TypeId} {es:Nat}(t:TypeId)(x:Operand)(lo hi:Option Operand) [ht:d9 P t e] [hsz:gq P e es](h:aH (Gv (st.op x)) fun p=>aH (Jq (st.ob p.1)) fun o=>aH (bG st 0 lo) fun l=>aH (bG st p.2.2.1 hi) fun u=>p.2.2.2=es∧0<es∧(0≤l∧l≤u)∧p.2.1+u.toNat*es≤o.1.length∧
 (l<u∨l=0)∧K 0 ⟨.sl p.1 (p.2.1+l.toNat*es) (u.toNat-l.toNat) es,[]⟩):AO P ⟨dst,.slice t x lo hi none,ty,pos,af,g⟩ nid st K:=by
 obtain⟨⟨id,off,len,es'⟩,h1,⟨cs,e'⟩,h2,l,hl,u,hu,h3,h4,⟨h5,h6⟩,h7,h8,h9⟩:=h
 dsimp only at h2 h3 h4 h7 hu h9
 subst h3
 have hx:=nT h1;dsimp only at hx
 have ho:=sQ h2;dsimp only at ho
 refine⟨0,_,.pure fun c ρ D J a w hs=>?_,h9⟩
 have hr:=hs.op x;rw[hx] at hr
 have hty:=bi ht.out
 obtain⟨b,s,k1,⟨arr,k2,k3,k4,k5,k6⟩,k7,k8⟩:=hs.obj _ _ ho
 generalize hv:a.eval x=v at hr
 cases hr with
 |sl b' s' _ _ _ _ cap hρ hc hs'=>
  rw[k1] at hρ;cases hρ
  have hcap:u.toNat≤cap:=by
   have:u.toNat*es'≤cap*es':=by omega
   exact Nat.le_of_mul_le_mul_right this h4
  have hb:=ig (P:=P) hs true len cap lo hi l u hl hu h5 h6 (by omega)
  refine⟨.slice (some ⟨b,off+l.toNat*es',none⟩) (u.toNat-l.toNat) (cap-l.toNat),?_,.sl b s id _ _ es' (cap-l.toNat) k1 (by omega) ?_⟩
  ·simp only[execOp,hv,Instr.sliceAt,Sem.run_bind,run_underlying hty,Result.andThen_ok,Instr.slice,Option.map_none,hb,Sem.run_pure,dw hsz.out]
   by_cases hcl:cap=l.toNat
   ·have:l.toNat=0:=by omega
    rw[if_pos hcl,this];simp
   ·rw[if_neg hcl];simp[Addr.add_lit]
  ·rw[Nat.add_assoc,←Nat.add_mul,show l.toNat+(cap-l.toNat)=cap by omega];exact hs'
theorem eO{e:TypeId} {es:Nat}(t:TypeId)(x y:Operand) [he:d9 P t e] [hsz:gq P e es]
 (h:aH (AQ (st.op x)) fun p=>aH (gI st (st.op y)) fun q=>p=(true,[],0)∧q.1=[]∧q.2=0∧K 0 ⟨.isl true [] 0,[]⟩):AO P ⟨dst,.call ⟨.builtin .append,#[x,y],#[t,t]⟩,ty,pos,af,g⟩ nid st K:=by
 obtain⟨p,h1,⟨cells,m⟩,h2,rfl,h3,h4,h5⟩:=h
 dsimp only at h3 h4
 subst h3;subst h4
 refine⟨0,_,.pure fun c ρ D J a w hs=>?_,h5⟩
 have e1:=hs.op x;rw[qL h1] at e1
 obtain⟨i,hi,his⟩:∃i,P.info? e=some i∧i.size=es:=by
  have:=hsz.out
  unfold siz at this
  cases hi:P.info? e with
  |none=>simp[hi] at this
  |some i=>exact⟨i,rfl,by simpa[hi] using this⟩
 have hv0:a.eval x= .slice none 0 0:=by
  generalize hxx:AV.isl true [] 0=xx at e1
  generalize a.eval x=v at e1
  cases e1<;>simp at hxx
  rfl
 refine⟨.slice none 0 0,?_,.inil⟩
 rcases vR hs (hs.op y) h2 (show([]:List AV).length=0*es by simp) with⟨hy0,_,_⟩|⟨ad,cp,news,hyv,hmc,hnl,hnews,hone,hrep⟩
 ·simp[execOp,resolve,invoke,builtin,hv0,hy0,Builtin.append_,run_underlying (bi he.out),sizeOf,typeInfo,hi,Builtin.lenOf,Builtin.firstCells,storeCells]
 ·simp[execOp,resolve,invoke,builtin,hv0,hyv,Builtin.append_,run_underlying (bi he.out),sizeOf,typeInfo,hi,Builtin.lenOf,Builtin.firstCells,storeCells,loadCells,loadCellsFrom]
end
attribute [push_cast] VF R6 VB VC VD agy agz Bool.and_eq_true Bool.and_eq_false_iff Bool.or_eq_true Bool.or_eq_false_iff e_fn
end Go.Sy
namespace Go.Sy
def jD(P:Program)(k:TypeId):Option (Bool×Nat):=match P.underlying k with
 |some (.int .i64)=>some (false,1)
 |_=>match uW P k with
  |some ks=>if ks.all (fun x=>x== .i64) then some (true,ks.length) else none
  |none=>none
def Lc(P:Program)(t:TypeId):Option (TypeId×TypeId):=match P.underlying t with
 |some (.map k e)=>some (k,e)
 |_=>none
theorem yn{P:Program} {t k e:TypeId}(h:Lc P t=some (k,e)):P.underlying t=some (.map k e):=by
 unfold Lc at h
 split at h
 ·cases h;assumption
 ·cases h
def Nz(ag:Bool)(ks:List Int):AV:=if ag then .agg (ks.map fun n=> .val (.int .i64 n)) else .val (.int .i64 (ks.headD 0))
theorem PT{w:World} {J:Nat→Prop} {ρ:Rho} {v:Value} {ag:Bool} {ks:List Int}(h:Rep w J ρ v (Nz ag ks)):v=gF ag ks:=by
 cases ag with
 |false=>simp only[Nz,gF,Bool.false_eq_true,if_false] at h⊢;exact aN h
 |true=>
  simp only[Nz,gF,if_true] at h⊢
  have:=qR (ps:=ks.map fun n=>(IntKind.i64,n)) (ks:=ks.map fun _=>IntKind.i64) (v:=v) (w:=w) (J:=J) (ρ:=ρ) (by rw[List.map_map];exact h) (by simp)
  rw[this]
  congr 2
  simp[jA]
def cK:List (List Int×AV)→List Int→Option AV
 |[],_=>none
 |(k,v)::l,x=>if k=x then some v else cK l x
def mM:List (List Int×AV)→List Int→AV→List (List Int×AV)
 |[],x,v=>[(x,v)]
 |(k,u)::l,x,v=>if k=x then(k,v)::l else(k,u)::mM l x v
section
variable {P:Program} {w:World}
theorem Jt{k:TypeId}(h:P.underlying k=some (.int .i64))(em:Bool)(n:Nat)(m:Int):(Instr.checkKey em (n+1) k (.int .i64 m)).run P w= .ok () w:=by
 rw[Instr.checkKey];simp[run_underlying h]
theorem uF{e:TypeId} {kk:IntKind}(h:kJ P e=some kk)(em:Bool)(n:Nat)(m:Int):(Instr.checkKey em (n+1) e (.int kk m)).run P w= .ok () w:=by
 rw[Instr.checkKey];simp[run_underlying (fE h)]
theorem Ld{d:Nat} {em:Bool} {cs:Array Value}:∀(fs:List Field) (i:Nat) (ks:List IntKind),jh P i fs=some ks→(∀j k,ks[j]? =some k→∃n,cs[i+j]? =some (.int k n))→
 (forIn (m:=Sem) fs () (fun f _=>if f.name≠ "_" then do
   let x←part f.type cs f.offset
   Instr.checkKey em (d+1) f.type x
   pure (ForInStep.yield ())
   else pure (ForInStep.yield ()))).run P w= .ok () w:=by
 intro fs
 induction fs with
 |nil=>intro i ks _ _;simp
 |cons f fs ih=>
  intro i ks h hc
  unfold jh at h
  split at h
  ·rename_i k ks' hk hks
   split at h
   ·rename_i hcond
    cases h
    obtain⟨n,hn⟩:=hc 0 k rfl
    have e1:=lI (w:=w) hk hn
    simp only[Nat.add_zero] at e1
    have e2:=ih (i+1) ks' hks (fun j k h=>by have:=hc (j+1) k (by simpa using h);rwa [show i+(j+1)=i+1+j by omega] at this)
    rw[List.forIn_cons]
    simp only[if_pos hcond.2,Sem.run_bind,hcond.1,e1,Result.andThen_ok,uF hk,Sem.run_pure,e2]
   ·cases h
  ·cases h
theorem NA{d:Nat} {em:Bool} {e:TypeId} {kk:IntKind}(hz:siz P e=some 1)(hk:kJ P e=some kk){cs:Array Value}:∀(n i:Nat),(∀j,i≤j→j<i+n→∃m,cs[j]? =some (.int kk m))→
 (forIn (m:=Sem) (List.range' i n 1) () (fun i _=>do
   let z←sizeOf e
   let x←part e cs (i*z)
   Instr.checkKey em (d+1) e x
   pure (ForInStep.yield ()))).run P w= .ok () w:=by
 intro n
 induction n with
 |zero=>intro i _;simp[List.range']
 |succ n ih=>
  intro i hc
  obtain⟨m,hm⟩:=hc i (Nat.le_refl _) (by omega)
  have e1:=lI (w:=w) hk hm
  have e2:=ih (i+1) (fun j h1 h2=>hc j (by omega) (by omega))
  rw[List.range',List.forIn_cons]
  simp only[Sem.run_bind,dw hz,Nat.mul_one,e1,Result.andThen_ok,uF hk,Sem.run_pure,e2]
theorem VG{ks:List IntKind}(h:ks.all (fun x=>x== .i64)=true):ks=List.replicate ks.length .i64:=by
 rw[List.eq_replicate_iff]
 exact⟨rfl,fun b hb=>by have:=List.all_eq_true.1 h b hb;cases b<;>first|rfl|cases this⟩
theorem nW{k:TypeId} {n:Nat}(h:jD P k=some (true,n)):∃ks,uW P k=some ks∧ks=List.replicate n .i64:=by
 unfold jD at h
 split at h
 ·cases h
 ·split at h
  ·rename_i ks hks
   split at h
   ·rename_i hc
    cases h
    exact⟨ks,hks,VG hc⟩
   ·cases h
  ·cases h
theorem qU{k:TypeId} {n:Nat}(h:jD P k=some (false,n)):P.underlying k=some (.int .i64)∧n=1:=by
 unfold jD at h
 split at h
 ·cases h;exact⟨by assumption,rfl⟩
 ·split at h
  ·split at h<;>cases h
  ·cases h
theorem Ju{n:Nat} {a:List Int}(ha:a.length=n):gF true a= .agg (jA (List.replicate n .i64) a).toArray:=by
 simp only[gF,if_true,jA]
 congr 2
 subst ha
 induction a with
 |nil=>rfl
 |cons x a ih=>simp[List.replicate_succ,ih]
theorem AU{k:TypeId} {ag:Bool} {n:Nat}(h:jD P k=some (ag,n)){a:List Int}(ha:a.length=n)(em:Bool):(Instr.checkKey em 10000 k (gF ag a)).run P w= .ok () w:=by
 cases ag with
 |false=>
  obtain⟨hu,rfl⟩:=qU h
  simp only[gF,Bool.false_eq_true,if_false]
  exact Jt hu em 9999 _
 |true=>
  obtain⟨ks,hks,rfl⟩:=nW h
  rw[Ju ha]
  have hget:∀j k',(List.replicate n IntKind.i64)[j]? =some k'→∃m,(jA (List.replicate n .i64) a).toArray[0+j]? =some (.int k' m):=by
   intro j k' hj
   have hjn:j<n:=by have:=(List.getElem?_eq_some_iff.1 hj).1;simpa using this
   exact⟨a[j],wo (by simpa using ha) j k' _ hj (List.getElem?_eq_getElem (by omega))⟩
  rw[show(10000:Nat)=9998+1+1 from rfl,Instr.checkKey]
  unfold uW at hks
  split at hks
  ·rename_i fs hu
   split at hks
   ·cases hks
   ·have:=Ld (w:=w) (d:=9998) (em:=em) (cs:=(jA (List.replicate n .i64) a).toArray) fs.toList 0 _ hks hget
    simp only[Sem.run_bind,run_underlying hu,Result.andThen_ok]
    rw[←Array.forIn_toList]
    exact Eq.trans (congrArg (fun r=>Result.andThen r fun _ w'=>Sem.run P (pure ()) w') this) rfl
  ·rename_i m e hu
   split at hks
   ·rename_i kk hk hz
    simp only[Option.some.injEq] at hks
    have hmn:m=n:=by have:=congrArg List.length hks;simpa using this
    subst hmn
    have:=NA (w:=w) (d:=9998) (em:=em) hz hk (cs:=(jA (List.replicate m .i64) a).toArray) m 0 (fun j _ hj=>by
     obtain⟨v,hv⟩:=hget j .i64 (by rw[List.getElem?_replicate,if_pos (by omega)])
     have:kk= .i64:=by
      have:=congrArg (·[j]?) hks
      simp only[List.getElem?_replicate] at this
      rw[if_pos (by omega),if_pos (by omega)] at this
      exact Option.some.inj this
     subst this
     exact⟨v,by rwa [Nat.zero_add] at hv⟩)
    simp only[Sem.run_bind,run_underlying hu,Result.andThen_ok,dw hz,Std.Legacy.Range.forIn_eq_forIn_range',Std.Legacy.Range.size,Nat.sub_zero,Nat.add_sub_cancel,Nat.div_one]
    exact Eq.trans (congrArg (fun r=>Result.andThen r fun _ w'=>Sem.run P (pure ()) w') this) rfl
   ·cases hks
  ·cases hks
theorem Sa{k:TypeId} {ag:Bool} {n:Nat}(h:jD P k=some (ag,n)){a b:List Int}(ha:a.length=n)(hb:b.length=n):(Op.equal k (gF ag a) (gF ag b)).run P w= .ok (decide (a=b)) w:=by
 cases ag with
 |false=>
  obtain⟨hu,rfl⟩:=qU h
  match a,b with
  |[x],[y]=>
   show(Op.equalIn (9999+1) k (.int .i64 x) (.int .i64 y)).run P w=_
   rw[run_equalIn_int w 9999 k .i64 .i64 x y hu];simp[BEq.beq]
  |[],_=>simp at ha
  |_::_::_,_=>simp at ha
  |[_],[]=>simp at hb
  |[_],_::_::_=>simp at hb
 |true=>
  obtain⟨ks,hks,rfl⟩:=nW h
  rw[Ju ha,Ju hb]
  exact uX hks (by simpa using ha) (by simpa using hb) w
def kL(ag:Bool)(x:List Int):List (List Int×Value)→Nat→Option (Nat×Value)
 |[],_=>none
 |(k,v)::l,i=>if x=k then some (i,v) else kL ag x l (i+1)
theorem Gy{k:TypeId} {ag:Bool} {n:Nat}(h:jD P k=some (ag,n)){x:List Int}(hx:x.length=n):∀(es:List MapEntry) (l:List (List Int×Value)) (i:Nat),es.map (fun e=>(e.key,e.val))=l.map (fun p=>(gF ag p.1,p.2))→(∀p∈l,p.1.length=n)→
 (Instr.findAsking k (gF ag x) es i).run P w= .ok (kL ag x l i) w:=by
 intro es
 induction es with
 |nil=>intro l i he _;cases l with
       |nil=>simp[Instr.findAsking,kL]
       |cons _ _=>simp at he
 |cons e es ih=>
  intro l i he hl
  cases l with
  |nil=>simp at he
  |cons p l=>
   simp only[List.map_cons,List.cons.injEq,Prod.mk.injEq] at he
   obtain⟨⟨h1,h2⟩,h3⟩:=he
   rw[Instr.findAsking]
   simp only[Sem.run_bind,h1,Sa h hx (hl p List.mem_cons_self),Result.andThen_ok]
   rw[kL]
   by_cases hc:x=p.1
   ·simp[hc,h2]
   ·simp only[hc,decide_false,Bool.false_eq_true,if_false]
    exact ih l (i+1) h3 (fun q hq=>hl q (List.mem_cons_of_mem _ hq))
theorem Le{x:Int}:∀(es:List MapEntry) (l:List (List Int×Value)) (i:Nat),es.map (fun e=>(e.key,e.val))=l.map (fun p=>(gF false p.1,p.2))→(∀p∈l,p.1.length=1)→
 Instr.findNow (.int .i64) (.int .i64 x) es i=some (kL false [x] l i):=by
 intro es
 induction es with
 |nil=>intro l i he _;cases l with
       |nil=>simp[Instr.findNow,kL]
       |cons _ _=>simp at he
 |cons e es ih=>
  intro l i he hl
  cases l with
  |nil=>simp at he
  |cons p l=>
   simp only[List.map_cons,List.cons.injEq,Prod.mk.injEq] at he
   obtain⟨⟨h1,h2⟩,h3⟩:=he
   obtain⟨k,v⟩:=p
   have hk:=hl (k,v) List.mem_cons_self
   match k,hk with
   |[y],_=>
    have hs:Instr.sameNow (.int .i64) (.int .i64 x) e.key=some (x==y):=by
     rw[h1];simp[gF,Instr.sameNow]
    rw[Instr.findNow,hs,kL]
    by_cases hc:x=y
    ·simp[hc,h2]
    ·have:(x==y)=false:=by simpa using hc
     rw[this]
     simp only[List.cons.injEq,and_true,hc,if_false]
     exact ih l (i+1) h3 (fun q hq=>hl q (List.mem_cons_of_mem _ hq))
theorem Ej{k:TypeId} {ag:Bool} {n:Nat}(h:jD P k=some (ag,n)){x:List Int}(hx:x.length=n)(es:List MapEntry)(l:List (List Int×Value))(he:es.map (fun e=>(e.key,e.val))=l.map (fun p=>(gF ag p.1,p.2)))(hl:∀p∈l,p.1.length=n):
 (Instr.findKey k (gF ag x) es).run P w= .ok (kL ag x l 0) w:=by
 unfold Instr.findKey
 cases ag with
 |false=>
  obtain⟨hu,rfl⟩:=qU h
  match x,hx with
  |[y],_=>
   simp only[Sem.run_bind,run_underlying hu,Result.andThen_ok,gF,Bool.false_eq_true,if_false,List.headD_cons]
   rw[Le es l 0 he hl]
   rfl
 |true=>
  obtain⟨ks,hks,_⟩:=nW h
  have hu:∃d,P.underlying k=some d∧∀a b,Instr.sameNow d (.agg a) b=none:=by
   unfold uW at hks
   split at hks
   ·rename_i fs hu;exact⟨_,hu,fun a b=>by simp[Instr.sameNow]⟩
   ·rename_i m e hu;exact⟨_,hu,fun a b=>by simp[Instr.sameNow]⟩
   ·cases hks
  obtain⟨d,hu,hd⟩:=hu
  simp only[Sem.run_bind,run_underlying hu,Result.andThen_ok]
  cases es with
  |nil=>
   cases l with
   |nil=>simp[Instr.findNow,kL]
   |cons _ _=>simp at he
  |cons e es=>
   have:Instr.findNow d (gF true x) (e::es) 0=none:=by
    simp only[gF,if_true]
    rw[Instr.findNow,hd]
   rw[this]
   exact Gy h hx (e::es) l 0 he hl
def Ib:Option aD→Option (Bool×Nat×List (List Int×AV))
 |some (.map ag n l)=>some (ag,n,l)
 |_=>none
def Sb:AV→Option Nat
 | .mp id=>some id
 |_=>none
theorem abw{ag:Bool} {n:Nat} {l:List (List Int×AV)}:Ib (some (.map ag n l))=some (ag,n,l):=rfl
theorem e_mp{id:Nat}:Sb (.mp id)=some id:=rfl
theorem Jv{x:AV} {id:Nat}(h:Sb x=some id):x= .mp id:=by cases x<;>simp[Sb] at h;subst h;rfl
theorem El{o:Option aD} {p:Bool×Nat×List (List Int×AV)}(h:Ib o=some p):o=some (.map p.1 p.2.1 p.2.2):=by
 unfold Ib at h
 split at h
 ·cases h;rfl
 ·cases h
def mi(ag:Bool)(x:AV):Option (List Int):=if ag then(qQ x).bind fun ps=>if ps.all (fun p=>p.1== .i64) then some (ps.map (·.2)) else none
 else(mJ x).bind fun p=>if p.1= .i64 then some [p.2] else none
theorem uY{ag:Bool} {x:AV} {ks:List Int}(h:mi ag x=some ks):x=Nz ag ks:=by
 unfold mi at h
 cases ag with
 |true=>
  simp only[if_true] at h
  obtain⟨ps,h1,h2⟩:=Option.bind_eq_some_iff.1 h
  split at h2
  ·rename_i hc
   cases h2
   rw[nu h1]
   simp only[Nz,if_true,List.map_map]
   congr 1
   refine List.map_congr_left (fun p hp=>?_)
   have:=List.all_eq_true.1 hc p hp
   have e:p.1= .i64:=by cases hq:p.1<;>rw[hq] at this<;>first|rfl|cases this
   simp[e]
  ·cases h2
 |false=>
  simp only[Bool.false_eq_true,if_false] at h
  obtain⟨p,h1,h2⟩:=Option.bind_eq_some_iff.1 h
  split at h2
  ·rename_i hc
   cases h2
   rw[jZ h1,hc];rfl
  ·cases h2
theorem NB{n:Int}:mi false (.val (.int .i64 n))=some [n]:=rfl
theorem NC{a b:Int}:mi true (.agg [.val (.int .i64 a),.val (.int .i64 b)])=some [a,b]:=rfl
theorem ND{a b c:Int}:mi true (.agg [.val (.int .i64 a),.val (.int .i64 b),.val (.int .i64 c)])=some [a,b,c]:=rfl
def Jw(P:Program)(e:TypeId):Option AV:=((P.info? e).bind (·.zero)).map fun
 | .agg cs=> .agg (cs.toList.map ofV)
 |v=>ofV v
theorem NE{e:TypeId} {z:AV}(h:Jw P e=some z):∃v,(zeroValue e).run P w= .ok v w∧∀(J:Nat→Prop) (ρ:Rho),Rep w J ρ v z:=by
 unfold Jw at h
 cases hi:P.info? e with
 |none=>simp[hi] at h
 |some i=>
  cases hz:i.zero with
  |none=>simp[hi,hz] at h
  |some v=>
   simp only[hi,Option.bind_some,hz,Option.map_some,Option.some.injEq] at h
   refine⟨v,by simp[zeroValue,typeInfo,hi,hz],fun J ρ=>?_⟩
   subst h
   split
   ·rename_i cs
    refine .agg _ _ (by simp) (fun j hj=>?_)
    have hj':j<cs.size:=by simpa using hj
    simp only[Array.getD,hj',dif_pos,List.getElem_map,Array.getElem_toList]
    exact ma _
   ·exact ma _
class MN(P:Program)(t:TypeId)(k e:outParam TypeId):Prop where out:Lc P t=some (k,e)
class PG(P:Program)(k:TypeId)(ag:outParam Bool)(n:outParam Nat):Prop where out:jD P k=some (ag,n)
class FN(P:Program)(e:TypeId)(z:outParam AV):Prop where out:Jw P e=some z
theorem Lf{J:Nat→Prop} {ρ:Rho} {ag:Bool} {n:Nat} {ms:Array MapEntry} {l:List (List Int×AV)}(h1:ms.size=l.length)
 (h2:∀j (h:j<l.length),((ms.getD j default).key=gF ag l[j].1∧l[j].1.length=n∧(ms.getD j default).born=j)∧Rep w J ρ ((ms.getD j default).val) l[j].2):
 ∃lv:List (List Int×Value),ms.toList.map (fun e=>(e.key,e.val))=lv.map (fun p=>(gF ag p.1,p.2))∧(∀p∈lv,p.1.length=n)∧lv.length=l.length∧∀j (h:j<l.length) (h':j<lv.length),lv[j].1=l[j].1∧Rep w J ρ lv[j].2 l[j].2:=by
 refine⟨(List.range l.length).map fun j=>((l.getD j ([],.any)).1,(ms.getD j default).val),?_,?_,by simp,fun j h h'=>?_⟩
 ·apply List.ext_getElem
  ·simp[h1]
  ·intro j hj hj'
   have hjl:j<l.length:=by simpa[h1] using hj
   have:=(h2 j hjl).1.1
   have hjm:j<ms.size:=by omega
   simp[Array.getD,hjm,List.getD_eq_getElem?_getD,hjl] at this⊢
   exact this
 ·intro p hp
  obtain⟨j,hj,rfl⟩:=List.mem_map.1 hp
  have hjl:j<l.length:=by simpa using hj
  simpa[List.getD_eq_getElem?_getD,hjl] using(h2 j hjl).1.2.1
 ·simp only[List.getElem_map,List.getElem_range,List.getD_eq_getElem?_getD,List.getElem?_eq_getElem h,Option.getD_some]
  exact⟨trivial,(h2 j h).2⟩
theorem uZ{J:Nat→Prop} {ρ:Rho} {ag:Bool} {x:List Int}:∀(lv:List (List Int×Value)) (l:List (List Int×AV)) (i:Nat),lv.length=l.length→(∀j (h:j<l.length) (h':j<lv.length),lv[j].1=l[j].1∧Rep w J ρ lv[j].2 l[j].2)→
 (kL ag x lv i=none∧cK l x=none)∨∃j v a,kL ag x lv i=some (i+j,v)∧cK l x=some a∧Rep w J ρ v a∧(∃h:j<l.length,l[j].1=x)∧(∀q (h:q<l.length),q<j→l[q].1≠x)
 |[],[],i,_,_=> .inl ⟨rfl,rfl⟩
 |(k,v)::lv,(k',a)::l,i,hl,h=>by
  have h0:=h 0 (by simp) (by simp)
  simp only[List.getElem_cons_zero] at h0
  obtain⟨rfl,hr⟩:=h0
  by_cases hx:x=k
  ·subst hx
   exact .inr ⟨0,v,a,by simp[kL],by simp[cK],hr,⟨by simp,rfl⟩,fun q _ hq=>absurd hq (by omega)⟩
  ·rcases uZ lv l (i+1) (by simpa using hl) (fun j h1 h2=>by have:=h (j+1) (by simpa using h1) (by simpa using h2);exact this) with⟨h1,h2⟩|⟨j,v',a',h1,h2,h3,⟨h4,h5⟩,h6⟩
   ·exact .inl ⟨by rw[kL,if_neg hx];exact h1,by rw[cK,if_neg (Ne.symm hx)];exact h2⟩
   ·refine .inr ⟨j+1,v',a',by rw[kL,if_neg hx,h1];congr 2;omega,by rw[cK,if_neg (Ne.symm hx)];exact h2,h3,⟨by simpa using h4,by simpa using h5⟩,fun q hq hlt=>?_⟩
    cases q with
    |zero=>simpa using Ne.symm hx
    |succ q=>simpa using h6 q (by simpa using hq) (by omega)
 |[],_::_,_,hl,_=>by simp at hl
 |_::_,[],_,hl,_=>by simp at hl
theorem kU:∀(l:List (List Int×AV)) (x:List Int) (v:AV),cK l x=none→mM l x v=l++[(x,v)]
 |[],_,_,_=>rfl
 |(k,u)::l,x,v,h=>by
  rw[cK] at h
  split at h
  ·cases h
  ·rename_i hk;rw[mM,if_neg hk,kU l x v h];rfl
theorem Jy:∀(l:List (List Int×AV)) (x:List Int) (v:AV) (j:Nat),(∃h:j<l.length,l[j].1=x)→(∀q (h:q<l.length),q<j→l[q].1≠x)→mM l x v=l.set j (x,v)
 |[],_,_,_,⟨h,_⟩,_=>by simp at h
 |(k,u)::l,x,v,0,⟨_,h⟩,_=>by simp at h;subst h;simp[mM]
 |(k,u)::l,x,v,j+1,⟨h1,h2⟩,h3=>by
  have h0:=h3 0 (by simp) (by omega)
  simp only[List.getElem_cons_zero] at h0
  rw[mM,if_neg h0,Jy l x v j ⟨by simpa using h1,by simpa using h2⟩ (fun q hq hlt=>by have:=h3 (q+1) (by simpa using hq) (by omega);exact this)]
  rfl
end
section
variable {P:Program} {Q:Exit→Nat→St→Prop} {nid:Nat} {st:St} {dst:Option Nat} {ty:TypeId} {pos:String} {af:Array Edge} {g:Option (Nat×Bool)} {K:Nat→Eff→Prop}
theorem j5{k e:TypeId} {ag:Bool} {n:Nat}(t:TypeId) [hm:MN P t k e] [hk:PG P k ag n](h:K 1 ⟨.mp nid,[(nid,some (.map ag n []))]⟩):AO P ⟨dst,.makeMap t none,ty,pos,af,g⟩ nid st K:=by
 refine⟨1,_,.alloc fun c ρ D J a w hs=>?_,h⟩
 refine⟨.map (some w.heap.size),w.alloc (.map #[] 0),.map #[] 0,0,by rfl,gW.alloc w _,fun ρ' h1 h2=>⟨.mp _ _ nid h1,#[],0,(gW.alloc w _).new,⟨rfl,rfl⟩,fun j hj=>by simp at hj⟩⟩
theorem Em{k e:TypeId} {ag:Bool} {n:Nat} {z:AV}(t:TypeId)(m x:Operand)(ok:Bool)(hm:Lc P t=some (k,e))(hk:jD P k=some (ag,n))(hz:Jw P e=some z){id:Nat} {l:List (List Int×AV)} {ks:List Int}
 (h1:st.op m= .mp id) (h2:st.ob id=some (.map ag n l)) (h3:st.op x=Nz ag ks) (h4:ks.length=n):
 OpT P ⟨dst,.lookup t m x ok,ty,pos,af,g⟩ nid 0 st ⟨if ok then .tup [(cK l ks).getD z,.val (.bool (cK l ks).isSome)] else(cK l ks).getD z,[]⟩:= .pure fun c ρ D J a w hs=>by
 obtain⟨b,s,k1,⟨ms,clock,k2,k3,k4⟩,_⟩:=hs.obj _ _ h2
 have r1:=hs.op m;rw[h1] at r1
 have r2:=hs.op x;rw[h3] at r2
 have r2:=PT r2
 generalize hv:a.eval m=mv at r1
 cases r1 with
 |mp b' s' _ hρ=>
  rw[k1] at hρ;cases hρ
  obtain⟨lv,g1,g2,g3,g4⟩:=Lf k3.1 k4
  obtain⟨zv,z1,z2⟩:=NE (w:=w) hz
  have hfk:=Ej (w:=w) hk h4 ms.toList lv g1 g2
  have hck:=AU (w:=w) hk h4 ms.isEmpty
  have hget:(getObj b).run P w= .ok (.map ms clock) w:=by simp[getObj,Sem.run,k2]
  have hrun:∀(v:Value) (o:Bool),(match kL ag ks lv 0 with|some (_,v)=>(v,true)|none=>(zv,false))=(v,o)→
   (execOp a.eval ⟨dst,.lookup t m x ok,ty,pos,af,g⟩).run P w= .ok (.value (if ok then .tuple #[v,.bool o] else v)) w:=by
   intro v o hvo
   simp only[execOp,Instr.lookup,hv,r2,Sem.run_bind,run_underlying (yn hm),Result.andThen_ok,hget,Sem.run_pure,hck,hfk]
   cases hf:kL ag ks lv 0 with
   |none=>rw[hf] at hvo;simp only[Prod.mk.injEq] at hvo;obtain⟨rfl,rfl⟩:=hvo;simp[z1]
   |some p=>rw[hf] at hvo;simp only[Prod.mk.injEq] at hvo;obtain⟨rfl,rfl⟩:=hvo;simp
  rcases uZ (ag:=ag) (x:=ks) lv l 0 g3 g4 with⟨f1,f2⟩|⟨j,v,av,f1,f2,f3,_⟩
  ·refine⟨_,hrun zv false (by rw[f1]),?_⟩
   rw[f2]
   cases ok with
   |true=>exact .tup _ _ rfl (fun j hj=>match j,hj with|0,_=>z2 _ _|1,_=> .val _)
   |false=>exact z2 _ _
  ·refine⟨_,hrun v true (by rw[f1]),?_⟩
   rw[f2]
   cases ok with
   |true=>exact .tup _ _ rfl (fun j hj=>match j,hj with|0,_=>f3|1,_=> .val _)
   |false=>exact f3
theorem lL{k e:TypeId} {ag:Bool} {n:Nat} {z:AV}(t:TypeId)(m x:Operand) [hm:MN P t k e] [hk:PG P k ag n] [hz:FN P e z]
 (h:aH (Sb (st.op m)) fun id=>aH (Ib (st.ob id)) fun q=>aH (mi ag (st.op x)) fun ks=>q.1=ag∧q.2.1=n∧ks.length=n∧K 0 ⟨(cK q.2.2 ks).getD z,[]⟩):
 AO P ⟨dst,.lookup t m x false,ty,pos,af,g⟩ nid st K:=by
 obtain⟨id,h1,⟨ag',n',l⟩,h2,ks,h3,h4,h5,h6,h7⟩:=h
 dsimp only at h4 h5 h7
 subst h4;subst h5
 exact⟨0,_,Em t m x false hm.out hk.out hz.out (Jv h1) (El h2) (uY h3) h6,h7⟩
theorem jk{k e:TypeId} {ag:Bool} {n:Nat} {z:AV}(t:TypeId)(m x:Operand) [hm:MN P t k e] [hk:PG P k ag n] [hz:FN P e z]
 (h:aH (Sb (st.op m)) fun id=>aH (Ib (st.ob id)) fun q=>aH (mi ag (st.op x)) fun ks=>q.1=ag∧q.2.1=n∧ks.length=n∧K 0 ⟨.tup [(cK q.2.2 ks).getD z,.val (.bool (cK q.2.2 ks).isSome)],[]⟩):
 AO P ⟨dst,.lookup t m x true,ty,pos,af,g⟩ nid st K:=by
 obtain⟨id,h1,⟨ag',n',l⟩,h2,ks,h3,h4,h5,h6,h7⟩:=h
 dsimp only at h4 h5 h7
 subst h4;subst h5
 exact⟨0,_,Em t m x true hm.out hk.out hz.out (Jv h1) (El h2) (uY h3) h6,h7⟩
theorem Jz{ag:Bool} {ks:List Int}:Instr.sameBits 10000 (gF ag ks) (gF ag ks)=true:=by
 cases ag with
 |false=>simp[gF,Instr.sameBits]
 |true=>
  simp only[gF,if_true]
  rw[Instr.sameBits]
  simp only[beq_self_eq_true,Bool.true_and,List.all_eq_true]
  intro p hp
  obtain⟨a,b⟩:=p
  have:a=b∧∃n,a= .int .i64 n:=by
   rw[List.mem_iff_getElem] at hp
   obtain⟨j,hj,he⟩:=hp
   simp only[List.getElem_zip,Prod.mk.injEq] at he
   obtain⟨rfl,rfl⟩:=he
   exact⟨rfl,ks[j]'(by simpa using hj),by simp⟩
  obtain⟨rfl,n,rfl⟩:=this
  simp[Instr.sameBits]
theorem Gz{k e:TypeId} {ag:Bool} {n:Nat}(t:TypeId)(m x y:Operand)(hm:Lc P t=some (k,e))(hk:jD P k=some (ag,n)){id:Nat} {l:List (List Int×AV)} {ks:List Int}
 (h1:st.op m= .mp id) (h2:st.ob id=some (.map ag n l)) (h3:st.op x=Nz ag ks) (h4:ks.length=n):
 OpT P ⟨dst,.mapUpdate t m x y,ty,pos,af,g⟩ nid 0 st ⟨.any,[(id,some (.map ag n (mM l ks (st.op y))))]⟩:=OpT.modify h2 fun c ρ D J a w b s hs hρ hob hJ=>by
 obtain⟨ms,clock,k2,k3,k4⟩:=hob
 have r1:=hs.op m;rw[h1] at r1
 have r2:=hs.op x;rw[h3] at r2
 have r2:=PT r2
 generalize hv:a.eval m=mv at r1
 cases r1 with
 |mp b' s' _ hρ'=>
  rw[hρ] at hρ';cases hρ'
  obtain⟨lv,g1,g2,g3,g4⟩:=Lf k3.1 k4
  have hfk:=Ej (w:=w) hk h4 ms.toList lv g1 g2
  have hck:=AU (w:=w) hk h4 false
  have hget:(getObj b).run P w= .ok (.map ms clock) w:=by simp[getObj,Sem.run,k2]
  have hlt:b<w.heap.size:=(Array.getElem?_eq_some_iff.1 k2).1
  have hset:∀o:Obj,(setObj b o).run P w= .ok () {w with heap:=w.heap.setIfInBounds b o}:=fun o=>by simp[setObj,Sem.run,k2]
  have other:∀(o:Obj) k,k≠b→({w with heap:=w.heap.setIfInBounds b o}:World).heap[k]? =w.heap[k]? :=fun o k hk=>by simp[Array.getElem?_setIfInBounds,Ne.symm hk]
  have here:∀(o:Obj),({w with heap:=w.heap.setIfInBounds b o}:World).heap[b]? =some o:=fun o=>by simp[Array.getElem?_setIfInBounds,hlt]
  rcases uZ (ag:=ag) (x:=ks) lv l 0 g3 g4 with⟨f1,f2⟩|⟨j,v,av,f1,f2,f3,⟨f4,f5⟩,f6⟩
  ·refine⟨.skip,{w with heap:=w.heap.setIfInBounds b (.map (ms.push {key:=gF ag ks,val:=a.eval y,born:=clock}) (clock+1))},undef,?_,.inr ⟨rfl,rfl⟩,?_,rfl,rfl,rfl,other (.map (ms.push {key:=gF ag ks,val:=a.eval y,born:=clock}) (clock+1)),fun hi=>⟨.any _,_,_,here _,?_,?_⟩⟩
   ·simp only[execOp,Instr.mapUpdate,hv,r2,Sem.run_bind,run_underlying (yn hm),Result.andThen_ok,hget,hck,hfk,f1,hset,Sem.run_pure]
   ·simp
   ·rw[kU _ _ _ f2];exact⟨by simp[k3.1],by rw[k3.2];simp⟩
   ·rw[kU _ _ _ f2]
    intro j hj
    by_cases hjl:j<l.length
    ·rw[List.getElem_append_left hjl]
     have:=k4 j hjl
     have e1:(ms.push {key:=gF ag ks,val:=a.eval y,born:=clock}).getD j default=ms.getD j default:=by
      have hjm:j<ms.size:=by omega
      simp[Array.getD_eq_getD_getElem?,Array.getElem?_push,show¬j=ms.size by omega]
     rw[e1];exact⟨this.1,hi _ _ this.2⟩
    ·have hje:j=ms.size:=by rw[List.length_append] at hj;simp at hj;omega
     rw[List.getElem_append_right (by omega)]
     have e1:(ms.push {key:=gF ag ks,val:=a.eval y,born:=clock}).getD j default={key:=gF ag ks,val:=a.eval y,born:=clock}:=by
      simp[Array.getD_eq_getD_getElem?,Array.getElem?_push,hje]
     rw[e1]
     simp only[show j-l.length=0 by omega,List.getElem_cons_zero]
     exact⟨⟨trivial,h4,by rw[k3.2];rw[hje,k3.1]⟩,hi _ _ (hs.op y)⟩
  ·have hjm:j<ms.size:=by omega
   have hkey:((ms[j]?).map (·.key)).getD (gF ag ks)=gF ag ks:=by
    have:=(k4 j f4).1.1
    rw[f5] at this
    simpa[Array.getD,hjm] using this
   have hst:(Instr.keyThatStays (gF ag ks) (gF ag ks)).run P w= .ok (gF ag ks) w:=by
    unfold Instr.keyThatStays;rw[if_pos Jz];rfl
   refine⟨.skip,{w with heap:=w.heap.setIfInBounds b (.map (ms.modify j fun e=>{e with key:=gF ag ks,val:=a.eval y}) clock)},undef,?_,.inr ⟨rfl,rfl⟩,?_,rfl,rfl,rfl,other (.map (ms.modify j fun e=>{e with key:=gF ag ks,val:=a.eval y}) clock),fun hi=>⟨.any _,_,_,here _,?_,?_⟩⟩
   ·simp only[execOp,Instr.mapUpdate,hv,r2,Sem.run_bind,run_underlying (yn hm),Result.andThen_ok,hget,hck,hfk,f1,Nat.zero_add,hkey,hst,hset,Sem.run_pure]
   ·simp
   ·rw[Jy _ _ _ j ⟨f4,f5⟩ f6];exact⟨by simp[k3.1],by rw[k3.2];simp⟩
   ·rw[Jy _ _ _ j ⟨f4,f5⟩ f6]
    intro q hq
    have hql:q<l.length:=by simpa using hq
    have hqm:q<ms.size:=by omega
    by_cases hqj:q=j
    ·subst hqj
     simp only[List.getElem_set_self]
     have e1:(ms.modify q fun e=>{e with key:=gF ag ks,val:=a.eval y}).getD q default={ms[q] with key:=gF ag ks,val:=a.eval y}:=by
      simp[Array.getD,hqm,Array.getElem_modify]
     rw[e1]
     exact⟨⟨rfl,h4,by have hb:=(k4 q f4).1.2.2;simpa[Array.getD,hqm] using hb⟩,hi _ _ (hs.op y)⟩
    ·rw[List.getElem_set_ne (Ne.symm hqj)]
     have e1:(ms.modify j fun e=>{e with key:=gF ag ks,val:=a.eval y}).getD q default=ms.getD q default:=by
      simp[Array.getD,hqm,Array.getElem_modify,Ne.symm hqj]
     rw[e1]
     have:=k4 q hql
     exact⟨this.1,hi _ _ this.2⟩
theorem iq{k e:TypeId} {ag:Bool} {n:Nat}(t:TypeId)(m x y:Operand) [hm:MN P t k e] [hk:PG P k ag n]
 (h:aH (Sb (st.op m)) fun id=>aH (Ib (st.ob id)) fun q=>aH (mi ag (st.op x)) fun ks=>q.1=ag∧q.2.1=n∧ks.length=n∧K 0 ⟨.any,[(id,some (.map ag n (mM q.2.2 ks (st.op y))))]⟩):
 AO P ⟨dst,.mapUpdate t m x y,ty,pos,af,g⟩ nid st K:=by
 obtain⟨id,h1,⟨ag',n',l⟩,h2,ks,h3,h4,h5,h6,h7⟩:=h
 dsimp only at h4 h5 h7
 subst h4;subst h5
 exact⟨0,_,Gz t m x y hm.out hk.out (Jv h1) (El h2) (uY h3) h6,h7⟩
end
attribute [push_cast] abw e_mp NB NC ND K4 Ng
end Go.Sy
namespace Go.Sy
def AV.plain:AV→Bool
 | .val _| .isl _ _ _| .ipt _ _=>true
 |_=>false
class aa(α:Type)(w:outParam Nat) where
 cells:α→List AV
 len:∀a,(cells a).length=w
 sc:∀a,(cells a).all AV.scalar=true
 pl:∀a,(cells a).all AV.plain=true
def cR{α:Type} {w:Nat} [aa α w](l:List α):List AV:=l.flatMap aa.cells
theorem j6(τ:Nat→Nat):∀(x:AV),bnd 0 x→ren τ x=x
 | .val v,_=>by simp[ren]
 | .isl z cs n,_=>by simp[ren]
 | .ipt cs n,_=>by simp[ren]
 | .any,_=>by simp[ren]
 | .sl id _ _ _,h=>by simp[bnd] at h
 | .pt id _,h=>by simp[bnd] at h
 | .mp id,h=>by simp[bnd] at h
 | .yl id,h=>by simp[bnd] at h
 | .agg cs,h=>by
   simp only[bnd] at h
   simp only[ren,AV.agg.injEq]
   exact(List.map_congr_left (fun x hx=>j6 τ x (h x hx))).trans (List.map_id' cs)
 | .tup cs,h=>by
   simp only[bnd] at h
   simp only[ren,AV.tup.injEq]
   exact(List.map_congr_left (fun x hx=>j6 τ x (h x hx))).trans (List.map_id' cs)
 | .fn f cs,h=>by
   simp only[bnd] at h
   simp only[ren,AV.fn.injEq,true_and]
   exact(List.map_congr_left (fun x hx=>j6 τ x (h x hx))).trans (List.map_id' cs)
theorem kg(id:Nat)(cs:List AV):∀(x:AV),bnd 0 x→bT id cs x=x
 | .val v,_=>by simp[bT]
 | .isl z cs n,_=>by simp[bT]
 | .ipt cs n,_=>by simp[bT]
 | .any,_=>by simp[bT]
 | .sl id _ _ _,h=>by simp[bnd] at h
 | .pt id _,h=>by simp[bnd] at h
 | .mp id,h=>by simp[bnd] at h
 | .yl id,h=>by simp[bnd] at h
 | .agg l,h=>by
   simp only[bnd] at h
   simp only[bT,AV.agg.injEq]
   exact(List.map_congr_left (fun x hx=>kg id cs x (h x hx))).trans (List.map_id' l)
 | .tup l,h=>by
   simp only[bnd] at h
   simp only[bT,AV.tup.injEq]
   exact(List.map_congr_left (fun x hx=>kg id cs x (h x hx))).trans (List.map_id' l)
 | .fn f l,h=>by
   simp only[bnd] at h
   simp only[bT,AV.fn.injEq,true_and]
   exact(List.map_congr_left (fun x hx=>kg id cs x (h x hx))).trans (List.map_id' l)
theorem ko(n:Nat):∀(x:AV),bnd 0 x→bnd n x
 | .val v,_=>by simp[bnd]
 | .isl z cs n,_=>by simp[bnd]
 | .ipt cs n,_=>by simp[bnd]
 | .any,_=>by simp[bnd]
 | .sl id _ _ _,h=>by simp[bnd] at h
 | .pt id _,h=>by simp[bnd] at h
 | .mp id,h=>by simp[bnd] at h
 | .yl id,h=>by simp[bnd] at h
 | .agg l,h=>by simp only[bnd] at h⊢;exact fun x hx=>ko n x (h x hx)
 | .tup l,h=>by simp only[bnd] at h⊢;exact fun x hx=>ko n x (h x hx)
 | .fn f l,h=>by simp only[bnd] at h⊢;exact fun x hx=>ko n x (h x hx)
theorem yo{st:St} {σ:List Nat} {fz:Bool} {n:Nat}(h:0<n):∀(x:AV),x.plain=true→toA st σ fz n x=x
 | .val v,_=>wm h
 | .isl z cs n,_=>PR h
 | .ipt cs n,_=>PS h
 | .any,h| .sl _ _ _ _,h| .pt _ _,h| .mp _,h| .yl _,h| .agg _,h| .tup _,h| .fn _ _,h=>by simp[AV.plain] at h
theorem yt{st:St} {σ:List Nat} {n:Nat}(h:0<n):∀(x:AV),x.plain=true→dfz st σ n x=x
 | .val v,_=>vZ h
 | .isl z cs n,_=>PP h
 | .ipt cs n,_=>PQ h
 | .any,h| .sl _ _ _ _,h| .pt _ _,h| .mp _,h| .yl _,h| .agg _,h| .tup _,h| .fn _ _,h=>by simp[AV.plain] at h
theorem sU:∀(x:AV),x.plain=true→bnd 0 x
 | .val v,_=>by simp[bnd]
 | .isl z cs n,_=>by simp[bnd]
 | .ipt cs n,_=>by simp[bnd]
 | .any,h| .sl _ _ _ _,h| .pt _ _,h| .mp _,h| .yl _,h| .agg _,h| .tup _,h| .fn _ _,h=>by simp[AV.plain] at h
theorem aa.cl{α:Type} {w:Nat} [C:aa α w](a:α)(x:AV)(hx:x∈aa.cells a):bnd 0 x:=sU x (List.all_eq_true.1 (C.pl a) x hx)
section
variable {α:Type} {w:Nat} [C:aa α w] [Inhabited α]{l m:List α} {j k i:Nat}
theorem kV{a:α}:cR (a::l)=aa.cells a++cR l:=by simp[cR]
theorem nX:cR ([]:List α)=[]:=rfl
theorem lM:(cR l).length=l.length*w:=by
 induction l with
 |nil=>simp[cR]
 |cons a l ih=>rw[kV,List.length_append,ih,C.len,List.length_cons,Nat.add_mul];omega
theorem En:cR l++cR m=cR (l++m):=by simp[cR]
theorem Eo{a:α}:cR l++aa.cells a=cR (l++[a]):=by simp[cR]
theorem wu:(cR l).drop (k*w)=cR (l.drop k):=by
 induction l generalizing k with
 |nil=>simp[cR]
 |cons a l ih=>
  cases k with
  |zero=>simp
  |succ k=>rw[kV,List.drop_append,C.len,List.drop_eq_nil_of_le (by rw[C.len,Nat.add_mul];omega),List.nil_append,show(k+1)*w-w=k*w by rw[Nat.add_mul];omega,ih,List.drop_succ_cons]
theorem JA:(cR l).take (k*w)=cR (l.take k):=by
 induction l generalizing k with
 |nil=>simp[cR]
 |cons a l ih=>
  cases k with
  |zero=>simp[cR]
  |succ k=>rw[kV,List.take_append,C.len,List.take_of_length_le (by rw[C.len,Nat.add_mul];omega),show(k+1)*w-w=k*w by rw[Nat.add_mul];omega,ih,List.take_succ_cons,kV]
theorem VH:(cR l).drop w=cR (l.drop 1):=by have:=wu (l:=l) (k:=1);rwa [Nat.one_mul] at this
theorem Lg(h:0<l.length):(cR l).take w=aa.cells (l.getD 0 default):=by
 cases l with
 |nil=>simp at h
 |cons a l=>rw[kV,List.take_append,C.len,List.take_of_length_le (by rw[C.len];exact Nat.le_refl _)];simp
theorem PU(h:j<l.length):((cR l).drop (j*w)).take w=aa.cells (l.getD j default):=by
 rw[wu,Lg (by simp;omega)]
 simp[List.getD_eq_getElem?_getD]
theorem NG(h:j<l.length)(hi:i<w):(cR l)[j*w+i]? =(aa.cells (l.getD j default))[i]? :=by
 rw[←PU h,List.getElem?_take,if_pos hi,List.getElem?_drop]
theorem abx(h:j<l.length)(hi:0<w):(cR l)[j*w]? =(aa.cells (l.getD j default))[0]? :=NG h hi
theorem eD(hi:i<w)(h:0<l.length):(cR l)[i]? =(aa.cells (l.getD 0 default))[i]? :=by
 have:=NG h hi;rwa [Nat.zero_mul,Nat.zero_add] at this
theorem akh(hi:0<w)(h:0<l.length):(cR l)[0]? =(aa.cells (l.getD 0 default))[0]? :=eD hi h
theorem aki(hi:1<w)(h:0<l.length):(cR l)[1]? =(aa.cells (l.getD 0 default))[1]? :=eD hi h
theorem akj(hi:2<w)(h:0<l.length):(cR l)[2]? =(aa.cells (l.getD 0 default))[2]? :=eD hi h
theorem akk(hi:3<w)(h:0<l.length):(cR l)[3]? =(aa.cells (l.getD 0 default))[3]? :=eD hi h
theorem akl(hi:4<w)(h:0<l.length):(cR l)[4]? =(aa.cells (l.getD 0 default))[4]? :=eD hi h
theorem akm(hi:5<w)(h:0<l.length):(cR l)[5]? =(aa.cells (l.getD 0 default))[5]? :=eD hi h
theorem akn(hi:6<w)(h:0<l.length):(cR l)[6]? =(aa.cells (l.getD 0 default))[6]? :=eD hi h
theorem ako(hi:7<w)(h:0<l.length):(cR l)[7]? =(aa.cells (l.getD 0 default))[7]? :=eD hi h
theorem akp(hi:8<w)(h:0<l.length):(cR l)[8]? =(aa.cells (l.getD 0 default))[8]? :=eD hi h
theorem akq(hi:9<w)(h:0<l.length):(cR l)[9]? =(aa.cells (l.getD 0 default))[9]? :=eD hi h
theorem agA(hi:10<w)(h:0<l.length):(cR l)[10]? =(aa.cells (l.getD 0 default))[10]? :=eD hi h
theorem agB(hi:11<w)(h:0<l.length):(cR l)[11]? =(aa.cells (l.getD 0 default))[11]? :=eD hi h
theorem agC(hi:12<w)(h:0<l.length):(cR l)[12]? =(aa.cells (l.getD 0 default))[12]? :=eD hi h
theorem agD(hi:13<w)(h:0<l.length):(cR l)[13]? =(aa.cells (l.getD 0 default))[13]? :=eD hi h
theorem agE(hi:14<w)(h:0<l.length):(cR l)[14]? =(aa.cells (l.getD 0 default))[14]? :=eD hi h
theorem agF(hi:15<w)(h:0<l.length):(cR l)[15]? =(aa.cells (l.getD 0 default))[15]? :=eD hi h
theorem agG(hi:16<w)(h:0<l.length):(cR l)[16]? =(aa.cells (l.getD 0 default))[16]? :=eD hi h
theorem agH(hi:17<w)(h:0<l.length):(cR l)[17]? =(aa.cells (l.getD 0 default))[17]? :=eD hi h
theorem agI(hi:18<w)(h:0<l.length):(cR l)[18]? =(aa.cells (l.getD 0 default))[18]? :=eD hi h
theorem agJ(hi:19<w)(h:0<l.length):(cR l)[19]? =(aa.cells (l.getD 0 default))[19]? :=eD hi h
theorem agK(hi:20<w)(h:0<l.length):(cR l)[20]? =(aa.cells (l.getD 0 default))[20]? :=eD hi h
theorem agL(hi:21<w)(h:0<l.length):(cR l)[21]? =(aa.cells (l.getD 0 default))[21]? :=eD hi h
theorem agM(hi:22<w)(h:0<l.length):(cR l)[22]? =(aa.cells (l.getD 0 default))[22]? :=eD hi h
theorem agN(hi:23<w)(h:0<l.length):(cR l)[23]? =(aa.cells (l.getD 0 default))[23]? :=eD hi h
theorem agO(τ:Nat→Nat):(cR l).map (ren τ)=cR l:=by
 refine(List.map_congr_left (fun x hx=>j6 τ x ?_)).trans (List.map_id' _)
 obtain⟨a,_,ha⟩:=List.mem_flatMap.1 hx
 exact aa.cl a x ha
theorem agP(id:Nat)(cs:List AV):(cR l).map (bT id cs)=cR l:=by
 refine(List.map_congr_left (fun x hx=>kg id cs x ?_)).trans (List.map_id' _)
 obtain⟨a,_,ha⟩:=List.mem_flatMap.1 hx
 exact aa.cl a x ha
theorem agQ{st:St} {σ:List Nat} {fz:Bool} {n:Nat}(h:0<n):(cR l).map (toA st σ fz n)=cR l:=by
 refine(List.map_congr_left (fun x hx=>?_)).trans (List.map_id' _)
 obtain⟨a,_,ha⟩:=List.mem_flatMap.1 hx
 exact yo h x (List.all_eq_true.1 (C.pl a) x ha)
theorem agR{st:St} {σ:List Nat} {n:Nat}(h:0<n):(cR l).map (dfz st σ n)=cR l:=by
 refine(List.map_congr_left (fun x hx=>?_)).trans (List.map_id' _)
 obtain⟨a,_,ha⟩:=List.mem_flatMap.1 hx
 exact yt h x (List.all_eq_true.1 (C.pl a) x ha)
theorem NH(n:Nat):(∀x∈cR l,bnd n x)=True:=by
 refine eq_true (fun x hx=>ko n x ?_)
 obtain⟨a,_,ha⟩:=List.mem_flatMap.1 hx
 exact aa.cl a x ha
theorem agS:(cR l).all AV.scalar=true:=by
 rw[List.all_eq_true]
 intro x hx
 obtain⟨a,_,ha⟩:=List.mem_flatMap.1 hx
 exact List.all_eq_true.1 (C.sc a) x ha
theorem VI{a:α}:cR [a]=aa.cells a:=by simp[cR]
def ww(l:List α)(k:Nat)(m:List α):List α:=l.take k++(m++l.drop (k+m.length))
theorem PW:spl (cR l) (k*w) (cR m)=cR (ww l k m):=by
 unfold spl ww
 rw[lM,←Nat.add_mul,JA,wu,En,En]
theorem VJ{a:α}:spl (cR l) (k*w) (aa.cells a)=cR (ww l k [a]):=by
 have:=PW (l:=l) (k:=k) (m:=[a])
 rwa [show cR [a]=aa.cells a by simp[cR]] at this
theorem VK{a:α}(h:k<l.length):ww l k [a]=l.set k a:=by
 unfold ww;rw[List.set_eq_take_append_cons_drop,if_pos h];rfl
theorem agT{a:α} {n:Nat} {zs:List Value}(h:zs.map ofV=aa.cells a):eT zs n=cR (List.replicate n a):=by
 unfold eT cR
 rw[h]
 induction n with
 |zero=>rfl
 |succ n ih=>simp[List.replicate_succ,ih]
theorem Sc{d:α}:(l.drop k).getD i d=l.getD (k+i) d:=by simp[List.getD_eq_getElem?_getD]
end
theorem VL{α:Type} {l m:List α} {k:Nat}(h:k+m.length≤l.length):(ww l k m).length=l.length:=by
 unfold ww;simp;omega
theorem Lh{α:Type} {l m:List α} {k:Nat}:(ww l k m).length=min k l.length+(m.length+(l.length-(k+m.length))):=by
 unfold ww;simp
theorem Sg{α:Type} {l m:List α} {k j:Nat}(h:j≤k)(hk:k≤l.length):(ww l k m).take j=l.take j:=by
 unfold ww
 rw[List.take_append,List.take_take,Nat.min_eq_left h,List.length_take,show j-min k l.length=0 by omega,List.take_zero,List.append_nil]
theorem NJ{α:Type} {l m:List α} {k j:Nat}(hk:k≤l.length)(h:j=k+m.length):(ww l k m).take j=l.take k++m:=by
 subst h
 unfold ww
 rw[List.take_append,List.take_take,List.length_take,Nat.min_eq_right (by omega),Nat.min_eq_left hk,show k+m.length-k=m.length by omega,List.take_append,List.take_length,Nat.sub_self,List.take_zero,List.append_nil]
theorem tn_1{a b c:Nat}(h:c≤b):((a:Int)+((b:Int)-(c:Int))).toNat=a+(b-c):=by omega
theorem tn_2{b c:Nat}:((b:Int)-(c:Int)).toNat=b-c:=by omega
theorem tn_3{a b:Nat}:((a:Int)+(b:Int)).toNat=a+b:=by omega
theorem tn_4{a:Nat}:((a:Int)+1).toNat=a+1:=by omega
theorem tn_5{a:Nat}:((a:Int)-1).toNat=a-1:=by omega
theorem tn_6{a b:Nat}:((a:Int)+(b:Int)+1).toNat=a+b+1:=by omega
theorem tn_7{a b c:Nat}(h:c≤a+b):((a:Int)+(b:Int)-(c:Int)).toNat=a+b-c:=by omega
theorem tn_8{a c:Nat}(h:c≤a+1):((a:Int)+1-(c:Int)).toNat=a+1-c:=by omega
theorem ax_1{a b:Int}:a+(b-a)=b:=by omega
theorem ax_2{a b:Nat}(h:a≤b):a+(b-a)=b:=by omega
theorem ax_3{a:Nat} {α:Type} {x:α}:List.replicate (a-a) x=[]:=by simp
theorem ax_4{a b:Nat}(h:a≤b):min a b=a:=Nat.min_eq_left h
theorem ax_5{a b:Nat}(h:b≤a):min a b=b:=Nat.min_eq_right h
theorem agU{zs:List Value}:eT zs 1=zs.map ofV++eT zs 0:=rfl
theorem agV{zs:List Value}:eT zs 2=zs.map ofV++eT zs 1:=rfl
theorem agW{zs:List Value}:eT zs 3=zs.map ofV++eT zs 2:=rfl
theorem agX{zs:List Value}:eT zs 4=zs.map ofV++eT zs 3:=rfl
theorem agY{zs:List Value}:eT zs 5=zs.map ofV++eT zs 4:=rfl
theorem agZ{zs:List Value}:eT zs 6=zs.map ofV++eT zs 5:=rfl
theorem ag0{zs:List Value}:eT zs 7=zs.map ofV++eT zs 6:=rfl
theorem ag1{zs:List Value}:eT zs 8=zs.map ofV++eT zs 7:=rfl
theorem ag2{zs:List Value}:eT zs 9=zs.map ofV++eT zs 8:=rfl
theorem aby{zs:List Value}:eT zs 10=zs.map ofV++eT zs 9:=rfl
theorem abz{zs:List Value}:eT zs 11=zs.map ofV++eT zs 10:=rfl
theorem abA{zs:List Value}:eT zs 12=zs.map ofV++eT zs 11:=rfl
theorem Si{zs:List Value}:eT zs 0=[]:=rfl
theorem ACall.le{P:Program} {f:FuncId} {args:List AV} {objs objs':List aD} {m k:Nat} {r:AV}(h:ACall P f args objs m r objs')(hk:k≤m):ACall P f args objs k r objs':=by
 intro w A I ρ vs h1 h2 h3 h4 h5 h6 h7 h8 h9
 refine(h w A I ρ vs h1 h2 h3 h4 h5 h6 h7 h8 h9).mono ?_
 rintro e w' ⟨v,ρ',J',g1,g2,g3,g4,g5,g6⟩
 exact⟨v,ρ',J',g1,g2,g3,g4,fun j hj=>g5 j (by omega),g6⟩
def AV.isVal:AV→Bool
 | .val _=>true
 |_=>false
class CellsV(α:Type){w:Nat} [aa α w]:Prop where nv:∀a:α,(aa.cells a).all AV.isVal=true
theorem VM{α:Type} {w:Nat} [aa α w] [C:CellsV α](l:List α):(∀x∈cR l,noImm x)=True:=by
 refine eq_true (fun x hx=>?_)
 obtain⟨a,_,ha⟩:=List.mem_flatMap.1 hx
 have:=List.all_eq_true.1 (C.nv a) x ha
 cases x<;>simp[AV.isVal] at this
 simp[noImm]
theorem abB{α:Type} {cs:List α} {off:Nat}:spl cs off []=cs:=by unfold spl;simp
attribute [push_cast] VM VI lM En wu JA VH Lg NG abx akh aki akj akk akl akm akn ako akp akq agA agB agC agD agE agF agG agH agI agJ agK agL agM agN agO agP agQ agR NH agS nX PW Sc abB
attribute [push_cast] agU agV agW agX agY agZ ag0 ag1 ag2 aby abz abA
attribute [push_cast] ax_1 ax_2 ax_3 ax_4 ax_5 tn_1 tn_2 tn_3 tn_4 tn_5 tn_6 tn_7 tn_8 Si VL Sg NJ
attribute [push_cast] PU
attribute [push_cast] List.length_drop List.length_take Nat.sub_zero Int.sub_zero
end Go.Sy
namespace Go.Sy
attribute [push_cast] Int.toNat_natCast
def vB(n:Nat):List Value:=List.replicate n (.bool false)
def fB(n:Nat):List Bool:=List.replicate n false
theorem ag3{n:Nat}:(vB n).map ofV=cB (fB n):=by simp[vB,fB,cB,ofV]
theorem ag4{n:Nat}:(vB n).length=n:=by simp[vB]
theorem ag5{n:Nat}:(fB n).length=n:=by simp[fB]
theorem ag6{n:Nat}:(vB n).all Value.oneCell'=true:=by simp[vB,Value.oneCell']
attribute [push_cast] ag3 ag4 ag5 ag6
def sV(P:Program):Nat→List Field→Option (List (Option IntKind))
 |_,[]=>some []
 |i,f::fs=>match sV P (i+1) fs with
  |some ks=>if f.offset=i∧f.name≠ "_" then(match kJ P f.type with
   |some k=>some (some k::ks)
   |none=>if xY P f.type then some (none::ks) else none) else none
  |none=>none
def aeA(P:Program)(t:TypeId):Option (List (Option IntKind)):=match P.underlying t with
 |some (.struct fs)=>if P.stoodInHeld t then none else sV P 0 fs.toList
 |_=>none
class TMix(P:Program)(t:TypeId)(ks:outParam (List (Option IntKind))):Prop where
 out:aeA P t=some ks
 gd:P.eqGuardType P.depth t=false
def okM:List (Option IntKind)→List AV→Bool
 |[],[]=>true
 |some k::ks,.val (.int k' _)::l=>k==k'&&okM ks l
 |none::ks,.val (.string _)::l=>okM ks l
 |_,_=>false
theorem akr:okM [] []=true:=rfl
theorem VN{k k':IntKind} {n:Int} {ks:List (Option IntKind)} {l:List AV}:okM (some k::ks) (.val (.int k' n)::l)=(k==k'&&okM ks l):=rfl
theorem VO{s:ByteArray} {ks:List (Option IntKind)} {l:List AV}:okM (none::ks) (.val (.string s)::l)=okM ks l:=rfl
theorem VP{P:Program} {w:World} {t:TypeId}(h:xY P t=true){cs:Array Value} {i:Nat} {v:Value}(hv:cs[i]? =some v):(part t cs i).run P w= .ok v w:=by
 have ha:jr P t=some false:=by unfold jr;rw[jd h];rfl
 obtain⟨hlt,rfl⟩:=Array.getElem?_eq_some_iff.1 hv
 simp[part,eY ha,hlt]
theorem GA{P:Program} {d:Nat} {xs:Array Value}:∀(fs:List Field) (i:Nat) (ks:List (Option IntKind)) (cs:List AV) (w:World),sV P i fs=some ks→okM ks cs=true→
 (∀j v,cs[j]? =some (.val v)→xs[i+j]? =some v)→(Op.eqFields (d+1) xs xs fs).run P w= .ok true w:=by
 intro fs
 induction fs with
 |nil=>intro i ks cs w _ _ _;simp[Op.eqFields]
 |cons f fs ih=>
  intro i ks cs w h hc hx
  unfold sV at h
  split at h
  ·rename_i ks' hks
   split at h
   ·rename_i hcn
    split at h
    ·rename_i k hk
     cases h
     match cs,hc,hx with
     | .val (.int k' n)::cs,hc,hx=>
       rw[VN,Bool.and_eq_true] at hc
       have hkk:k=k':=by have:=hc.1;cases k<;>cases k'<;>first|rfl|cases this
       subst hkk
       have e1:=lI (w:=w) hk (hx 0 _ rfl)
       simp only[Nat.add_zero] at e1
       have e3:=ih (i+1) ks' cs w hks hc.2 (fun j v h2=>by have:=hx (j+1) v (by simpa using h2);rwa [show i+(j+1)=i+1+j by omega] at this)
       have e4:(Op.equalIn (d+1) f.type (.int k n) (.int k n)).run P w= .ok (n==n) w:=run_equalIn_int w d f.type k k n n (fE hk)
       simp only[Op.eqFields,if_pos hcn.2,Sem.run_bind,hcn.1,e1,Result.andThen_ok,e4]
       simp[e3]
    ·split at h
     ·rename_i hs
      cases h
      match cs,hc,hx with
      | .val (.string s)::cs,hc,hx=>
        rw[VO] at hc
        have e1:=VP (w:=w) hs (hx 0 _ rfl)
        simp only[Nat.add_zero] at e1
        have e3:=ih (i+1) ks' cs w hks hc (fun j v h2=>by have:=hx (j+1) v (by simpa using h2);rwa [show i+(j+1)=i+1+j by omega] at this)
        have e4:(Op.equalIn (d+1) f.type (.string s) (.string s)).run P w= .ok (s.toList==s.toList) w:=run_equalIn_string w d f.type s s (jd hs)
        simp only[Op.eqFields,if_pos hcn.2,Sem.run_bind,hcn.1,e1,Result.andThen_ok,e4]
        simp[e3]
     ·cases h
   ·cases h
  ·cases h
section
variable {P:Program} {Q:Exit→Nat→St→Prop} {nid:Nat} {st:St} {dst:Option Nat} {ty:TypeId} {pos:String} {af:Array Edge} {g:Option (Nat×Bool)} {K:Nat→Eff→Prop}
theorem bU{ks:List (Option IntKind)}(t:TypeId)(x y:Operand)(t':TypeId) [ht:TMix P t ks](h:aH (vX (st.op x)) fun cs=>aH (vX (st.op y)) fun ds=>okM ks cs=true∧cs=ds∧K 0 ⟨.val (.bool false),[]⟩):
 AO P ⟨dst,.binOp .neq t x y t',ty,pos,af,g⟩ nid st K:=by
 obtain⟨cs,h1,ds,h2,h3,rfl,h5⟩:=h
 refine⟨0,_,.pure fun c ρ D J a w hs=>?_,h5⟩
 have e1:=hs.op x;have e2:=hs.op y
 rw[mZ h1] at e1;rw[mZ h2] at e2
 have key:∀(ks:List (Option IntKind)) (cs:List AV),okM ks cs=true→∀j (h:j<cs.length),∃v,cs[j]= .val v:=by
  intro ks
  induction ks with
  |nil=>intro cs h j hj;cases cs with|nil=>simp at hj|cons a l=>cases h
  |cons k ks ih=>
   intro cs h j hj
   match k,cs,h with
   |some k,.val (.int k' n)::cs,h=>
    rw[VN,Bool.and_eq_true] at h
    cases j with
    |zero=>exact⟨_,rfl⟩
    |succ j=>exact ih cs h.2 j (by simpa using hj)
   |none,.val (.string s)::cs,h=>
    rw[VO] at h
    cases j with
    |zero=>exact⟨_,rfl⟩
    |succ j=>exact ih cs h j (by simpa using hj)
 have same:∀{u v:Value},Rep w J ρ u (.agg cs)→Rep w J ρ v (.agg cs)→∃vs:Array Value,u= .agg vs∧v= .agg vs∧∀(j:Nat) (x:Value),cs[j]? =some (AV.val x)→vs[j]? =some x:=by
  intro u v hu hv
  cases hu with
  |agg vs _ hs1 g1=>
   cases hv with
   |agg us _ hs2 g2=>
    have val:∀(vs:Array Value),vs.size=cs.length→(∀j (h:j<cs.length),Rep w J ρ (vs.getD j undef) cs[j])→∀(j:Nat) (x:Value),cs[j]? =some (AV.val x)→vs[j]? =some x:=by
     intro vs hs g j x hj
     obtain⟨hlt,he⟩:=List.getElem?_eq_some_iff.1 hj
     have:=g j hlt
     rw[he] at this
     have e:=aN this
     have hj':j<vs.size:=by rw[hs];exact hlt
     rw[Array.getElem?_eq_getElem hj',←e]
     simp[Array.getD,hj']
    have h1:=val vs hs1 g1
    have h2:=val us hs2 g2
    refine⟨vs,rfl,?_,h1⟩
    congr 1
    apply Array.ext_getElem?
    intro j
    by_cases hj:j<cs.length
    ·obtain⟨x,hx⟩:=key ks cs h3 j hj
     have hx':cs[j]? =some (.val x):=by rw[List.getElem?_eq_getElem hj,hx]
     rw[h1 j x hx',h2 j x hx']
    ·rw[Array.getElem?_eq_none (by omega),Array.getElem?_eq_none (by omega)]
 obtain⟨vs,k1,k2,k3⟩:=same e1 e2
 refine⟨_,?_,.val _⟩
 have heq:(Op.equalIn (9998+1+1) t (.agg vs) (.agg vs)).run P w= .ok true w:=by
  have ho:=ht.out
  unfold aeA at ho
  split at ho
  ·rename_i fs hu
   split at ho
   ·cases ho
   ·rename_i hst
    have hst':P.stoodInHeld t=false:=by simpa using hst
    have hf:P.fieldsOf t=fs:=by unfold Program.fieldsOf;rw[hu]
    rw[run_equalIn_struct w (9998+1) t _ _ (by rw[hf];exact hu) hst',hf]
    exact GA fs.toList 0 ks cs w ho h3 (fun j v hj=>by rw[Nat.zero_add];exact k3 j v hj)
  ·cases ho
 have heq':(Op.equalIn Op.maxDepth t (.agg vs) (.agg vs)).run P w= .ok true w:=heq
 simp only[execOp,k1,k2,Sem.run_bind,run_eqGuard_agg w _ t x y _ _ ht.gd,Result.andThen_ok,binOp,Op.equal]
 simp[heq']
end
attribute [push_cast] akr VN VO
section
variable {P:Program} {Q:Exit→Nat→St→Prop} {nid:Nat} {st:St} {dst:Option Nat} {ty:TypeId} {pos:String} {af:Array Edge} {g:Option (Nat×Bool)} {K:Nat→Eff→Prop}
theorem JB(t:TypeId)(ps:Array (Nat×Operand))(zs:List Value)(n:Nat)(e:TypeId)(es:Nat)(out:List AV)(hz:je P t=some zs)(ha:DU P t=some (n,e))(hs:siz P e=some es)
 (hf:jY (fun i=>some (i*es,es)) (zs.map ofV) (ps.toList.map fun p=>(p.1,st.op p.2))=some out):OpT P ⟨dst,.build t ps,ty,pos,af,g⟩ nid 0 st ⟨.agg out,[]⟩:= .pure fun c ρ D J a w h=>by
 obtain⟨z,hr,hc⟩:=nO (w:=w) hz
 have hu:=ll ha
 have h0:VRep w J ρ z.cells (zs.map ofV):=by
  rw[hc]
  refine⟨by simp,fun j hj=>?_⟩
  have hj':j<zs.length:=by simpa using hj
  simpa[Array.getD,hj'] using ma zs[j]
 obtain⟨c',hfill,hv⟩:=DV (w:=w) (J:=J) (ρ:=ρ) (fun i=>some (i*es,es)) (ps.toList.map fun p=>(p.1,st.op p.2)) (ps.toList.map fun p=>(p.1,a.eval p.2)) z.cells _ out h0 hf (by simp) (fun j hj=>by
  have hj':j<ps.toList.length:=by simpa using hj
  have:=h.op ps.toList[j].2
  simpa[List.getD_eq_getElem?_getD,List.getElem?_map,List.getElem?_eq_getElem hj'] using this)
 refine⟨.agg c',?_,.agg _ _ hv.1 hv.2⟩
 simp only[execOp,Instr.build,Sem.run_bind,hr,Result.andThen_ok,run_underlying hu,dw hs]
 have e1:(Array.map (fun x=>(x.1,a.eval x.2)) ps).toList=List.map (fun p=>(p.1,a.eval p.2)) ps.toList:=by simp
 simp[e1,hfill]
theorem eZ{zs:List Value} {n es:Nat} {e:TypeId}(t:TypeId)(ps:Array (Nat×Operand)) [hz:jX P t zs] [ha:Di P t n e] [hs:gq P e es]
 (h:aH (jY (fun i=>some (i*es,es)) (zs.map ofV) (ps.toList.map fun p=>(p.1,st.op p.2))) fun out=>K 0 ⟨.agg out,[]⟩):AO P ⟨dst,.build t ps,ty,pos,af,g⟩ nid st K:=by
 obtain⟨out,h1,h2⟩:=h
 exact⟨_,_,JB t ps zs n e es out hz.out ha.out hs.out h1,h2⟩
end
theorem VQ{ag:Bool} {n:Nat} {l:List (List Int×AV)} {τ:Nat→Nat}:uw τ (.map ag n l)= .map ag n (l.map fun x=>(x.1,ren τ x.2)):=rfl
theorem VR{ag:Bool} {n id:Nat} {cs:List AV} {l:List (List Int×AV)}:Bv id cs (.map ag n l)= .map ag n (l.map fun x=>(x.1,bT id cs x.2)):=rfl
attribute [push_cast] VQ VR
theorem lnz:(∀{α:Type} {a:α} {l:List α},(a::l).length=l.length+1)∧(∀{α:Type},([]:List α).length=0)∧(∀l,(cS l).length=l.length)∧(∀l,(cB l).length=l.length)∧(∀k l,(cI k l).length=l.length)∧
 (∀{α:Type} {n:Nat} {a:α},(List.replicate n a).length=n)∧(∀{α β:Type} {f:α→β} {l:List α},(l.map f).length=l.length)∧(∀{α:Type} {l m:List α},(l++m).length=l.length+m.length)∧
 (∀{α:Type} {l:List α} {i:Nat} {a:α},(l.set i a).length=l.length)∧(∀{α:Type} {l:List α} {i:Nat},(l.take i).length=min i l.length)∧(∀{α:Type} {l:List α} {i:Nat},(l.drop i).length=l.length-i)∧
 (∀{α:Type} {l m:List α} {k:Nat},(ww l k m).length=min k l.length+(m.length+(l.length-(k+m.length)))):=
 ⟨rfl,rfl,Vr,cB_len,fun _=>Nq,List.length_replicate,List.length_map _,List.length_append,List.length_set,List.length_take,List.length_drop,Lh⟩
theorem vI{a:Prop}(h:a:=by(first|omega|assumption|((try clear hK);first|(simp;done)|(simp;omega)|(simp_all;done)|((try simp);split<;>first|omega|(simp_all;done)|(simp_all;omega))))):a:=h
theorem aI{a b:Prop}(k:b)(h:a:=by(first|omega|assumption|((try clear hK);first|(simp;done)|(simp;omega)|(simp_all;done)|((try simp);split<;>first|omega|(simp_all;done)|(simp_all;omega))))):a∧b:=⟨h,k⟩
theorem vD{a:Prop}(h:a:=by first|omega|assumption|(simp only[lnz];done)|(simp only[lnz];omega)):a:=h
end Go.Sy
namespace Go.Sy
variable {x y j:Nat}
theorem ag7(h:x<65536):IntKind.u16.wrap (x:Int)=x:=aey (by omega)
theorem u_of(h:x<65536):BitVec.ofInt 16 (x:Int)=BitVec.ofNat 16 x:=by
 simp[BitVec.ofInt_natCast]
theorem aks(hx:x<65536)(hy:y<65536):IntKind.wrap .u16 ((BitVec.ofInt (IntKind.bits .u16) (x:Int)&&&BitVec.ofInt (IntKind.bits .u16) (y:Int)).toNat:Int)=((x&&&y:Nat):Int):=by
 show IntKind.wrap .u16 ((BitVec.ofInt 16 (x:Int)&&&BitVec.ofInt 16 (y:Int)).toNat:Int)=_
 rw[u_of hx,u_of hy,BitVec.toNat_and,BitVec.toNat_ofNat,BitVec.toNat_ofNat,Nat.mod_eq_of_lt (by simpa using hx),Nat.mod_eq_of_lt (by simpa using hy)]
 exact ag7 (Nat.lt_of_le_of_lt Nat.and_le_left hx)
theorem akt(h:j≤16):Int.fdiv (x:Int) (2^min j (IntKind.bits .u16))=((x>>>j:Nat):Int):=by
 rw[show IntKind.bits .u16=16 from rfl,Nat.min_eq_left h,Nat.shiftRight_eq_div_pow]
 rw[Int.fdiv_eq_ediv_of_nonneg _ (Int.le_of_lt (Int.pow_pos (by decide)))]
 rw[show(2:Int)^j=((2^j:Nat):Int) by simp]
 rfl
theorem PX:((x>>>j&&&1:Nat):Int)=1↔x.testBit j=true:=by
 rw[Nat.testBit,Nat.and_comm 1]
 have:x>>>j&&&1<2:=Nat.lt_of_le_of_lt Nat.and_le_right (by decide)
 simp only[bne_iff_ne,ne_eq]
 omega
end Go.Sy
namespace Go.Sy
section
variable {P:Program} {Q:Exit→Nat→St→Prop} {nid:Nat}
theorem bH{r:Nat} {ops:Array Oper} {d:Bool} {n m:Nat} {env:List (Nat×AV)} {objs:List (Nat×Option aD)}(id:Nat)
 (h:∃cs e,(bg objs id).join=some (.cells cs e)∧(∀x∈cs,bnd 0 x)∧∀K:List (Nat×AV)→List (Nat×Option aD)→Prop,(∀env' objs',AC P (.region r ops d) Q nid ⟨n,m,env',objs'⟩→K env' objs')→
   K (env.map fun p=>(p.1,bT id cs p.2)) ((id,none)::objs.map fun p=>(p.1,p.2.map (Bv id cs)))):AC P (.region r ops d) Q nid ⟨n,m,env,objs⟩:=U6 id h
theorem bI{r:Nat} {ops:Array Oper} {d:Bool} {y:Code} {n m:Nat} {env:List (Nat×AV)} {objs:List (Nat×Option aD)}(id:Nat)
 (h:∃cs e,(bg objs id).join=some (.cells cs e)∧(∀x∈cs,bnd 0 x)∧∀K:List (Nat×AV)→List (Nat×Option aD)→Prop,(∀env' objs',AC P (.seq (.region r ops d) y) Q nid ⟨n,m,env',objs'⟩→K env' objs')→
   K (env.map fun p=>(p.1,bT id cs p.2)) ((id,none)::objs.map fun p=>(p.1,p.2.map (Bv id cs)))):AC P (.seq (.region r ops d) y) Q nid ⟨n,m,env,objs⟩:=U6 id h
end
attribute [push_cast] Option.map_none
theorem abC{α:Type} {p:Prop} [Decidable p]{x y:α}(h:¬p):sel (!decide p) x y=x:=by rw[decide_eq_false h];rfl
theorem abD{α:Type} {p:Prop} [Decidable p]{x y:α}(h:p):sel (!decide p) x y=y:=by rw[decide_eq_true h];rfl
theorem aku{st:St} {f:Nat}:st.op (.func f)= .fn f []:=rfl
attribute [push_cast] abC abD aku
theorem VS{vs:List AV}:∀{cs:List AV} {off:Nat},off+vs.length≤cs.length→kS cs off vs=spl cs off vs:=by
 induction vs with
 |nil=>intro cs off _;simp[kS,spl]
 |cons v vs ih=>
  intro cs off h
  rw[List.length_cons] at h
  rw[kS,ih (by rw[List.length_set];omega)]
  have e:cs.set off v=cs.take off++v::cs.drop (off+1):=by rw[List.set_eq_take_append_cons_drop,if_pos (by omega)]
  unfold spl
  have hl:(cs.take off).length=off:=by rw[List.length_take];omega
  have h1:(cs.take off).take (off+1)=cs.take off:=List.take_of_length_le (by omega)
  have h2:(cs.take off).drop (off+1+vs.length)=[]:=List.drop_eq_nil_of_le (by omega)
  rw[e,List.take_append,List.drop_append,hl,h1,h2,show off+1-off=1 by omega,show off+1+vs.length-off=vs.length+1 by omega,List.nil_append,List.drop_succ_cons,List.drop_drop,List.length_cons,show off+1+vs.length=off+(vs.length+1) by omega]
  simp
section
variable {α:Type} {w:Nat} [C:aa α w]{a:α} {l:List α}
theorem ag8:(aa.cells a).length=w:=C.len a
theorem ag9:(aa.cells a).all AV.scalar=true:=C.sc a
theorem VT(τ:Nat→Nat):(aa.cells a).map (ren τ)=aa.cells a:=(List.map_congr_left (fun x hx=>j6 τ x (aa.cl a x hx))).trans (List.map_id' _)
theorem aha(id:Nat)(cs:List AV):(aa.cells a).map (bT id cs)=aa.cells a:=(List.map_congr_left (fun x hx=>kg id cs x (aa.cl a x hx))).trans (List.map_id' _)
theorem VU{st:St} {σ:List Nat} {fz:Bool} {n:Nat}(h:0<n):(aa.cells a).map (toA st σ fz n)=aa.cells a:=(List.map_congr_left (fun x hx=>yo h x (List.all_eq_true.1 (C.pl a) x hx))).trans (List.map_id' _)
theorem ahb{st:St} {σ:List Nat} {n:Nat}(h:0<n):(aa.cells a).map (dfz st σ n)=aa.cells a:=(List.map_congr_left (fun x hx=>yt h x (List.all_eq_true.1 (C.pl a) x hx))).trans (List.map_id' _)
theorem VV(n:Nat):(∀x∈aa.cells a,bnd n x)=True:=eq_true (fun x hx=>ko n x (aa.cl a x hx))
theorem abE:(aa.cells a).take w=aa.cells a:=List.take_of_length_le (by rw[C.len];exact Nat.le_refl _)
theorem ahc{cs:List AV}(h:cs.length=w):spl cs 0 (aa.cells a)=aa.cells a:=nk (by rw[C.len,h])
theorem ahd{cs:List AV} {off:Nat}(h:w≠1):AJ cs off (aa.cells a)=spl cs off (aa.cells a):=by
 have hl:=C.len a
 generalize aa.cells a=vs at hl
 match vs,hl with
 |[],_=>rfl
 |[v],hl=>exact absurd hl.symm h
 |_::_::_,_=>rfl
theorem abF{cs:List AV}(h:cs.length=w):kS cs 0 (aa.cells a)=aa.cells a:=by
 rw[VS (by rw[C.len];omega),nk (by rw[C.len,h])]
theorem PY [Inhabited α]:cR l++aa.cells a=cR (l++[a]):=Eo
end
attribute [push_cast] ag8 ag9 VT aha VU ahb VV abE ahc ahd abF PY
end Go.Sy
namespace Go.Sy
theorem ACall.own{P:Program} {f:FuncId} {args args':List AV} {cs:List AV} {e:TypeId} {r:AV} {objs':List aD}(hc:∀x∈cs,bnd 0 x)(he:args'=args.map (bT 0 cs))(hb:∀x∈args',bnd 0 x)
 (h:ACall P f args' [] 0 r objs') (ht:trs objs'=[]:=by rfl):ACall P f args [.cells cs e] 0 r objs':=by
 subst he
 intro w A I ρ vs hsz hrep hA hI hobj hdom hinj _ hlaid
 obtain⟨b,s,k1,k2,k3⟩:=hobj 0 (by simp)
 simp only[List.getElem_cons_zero] at k3
 obtain⟨u,hu⟩:=fF k3
 let A':Nat→Prop:=fun b'=>A b'∨b'=b
 have hJ:∀b,A b→A' b:=fun _ h=> .inl h
 have mono:∀{ρ:Rho} {v:Value} {x:AV},Rep w A ρ v x→Rep w A' ρ v x:=fun h=>h.mono (fun b hb _=>⟨hJ b hb,rfl⟩) (Nat.le_refl _) (fun _ _ h=>h)
 have rep:∀{v:Value} {x:AV},Rep w A ρ v x→Rep w A' ρ v (bT 0 cs x):=fun h=>
  Rep.frz (u:=u) hJ (.inr rfl) k1 k3.lt (fun j hj=>(hu j hj).2.1) (fun j hj=>(hu j hj).1) (fun j hj=>mono ((hu j hj).2.2.closed (hc _ (List.getElem_mem hj)))) h
 refine(h w A' (fun b'=>I b'∧b'≠b) (fun _=>none) vs (by simpa using hsz) (fun j hj=>?_) (fun b' hb'=>?_) (fun b' hb'=>hI b' hb'.1) (fun j hj=>by simp at hj) (fun j p hp=>by cases hp) (fun i j b s s' h1 _=>by cases h1) (Hid.none (fun _ _ _=>by simp)) (hlaid.mono (fun b h _=>⟨.inl h,rfl⟩) (Nat.le_refl _))).mono ?_
 ·have hj':j<args.length:=by simpa using hj
  have:=(rep (hrep j hj')).closed (ρ':=fun _=>none) (hb _ (by simpa using List.mem_map.2 ⟨_,List.getElem_mem hj',rfl⟩))
  simpa using this
 ·rcases hb' with hb'|hb'
  ·exact⟨(hA b' hb').1,fun hn=>(hA b' hb').2 hn.1⟩
  ·subst hb';exact⟨hI _ k2,fun hn=>hn.2 rfl⟩
 ·rintro ex w' ⟨v,ρ',J',h1,h2,h3,h4,h5,h6,h7,h8,_⟩
  refine⟨v,ρ',J',h1,h2,fun b' hb'=>?_,?_,fun j hj=>by omega,h6,fun j hj=>?_,h8,Hid.none fun id H j k=>?_⟩
  ·obtain⟨g1,g2⟩:=h3 b' hb'
   refine⟨g1,?_⟩
   rcases g2 with(g2|g2)|g2|g2
   ·exact .inl g2
   ·subst g2;exact .inr (.inl k2)
   ·exact .inr (.inl g2.1)
   ·exact .inr (.inr g2)
  ·exact⟨h4.size,h4.os,h4.tape,h4.output,fun b' hb' hn=>h4.block b' hb' (fun hh=>hn hh.1)⟩
  ·obtain⟨b',s',g1,g2,g3,g4⟩:=h7 j hj
   exact⟨b',s',g1,g2,g3.imp (fun h=>h.1) id,g4⟩
  ·obtain⟨hlt,e⟩:=List.getElem?_eq_some_iff.1 k
   have:H∈trs objs':=kR.2 ⟨j,e▸List.getElem_mem hlt⟩
   rw[ht] at this;cases this
end Go.Sy
namespace Go.Sy
class sF(α:Type) where
 c:α→AV
 sc:∀a,(c a).scalar=true
 pl:∀a,(c a).plain=true
def cX{α:Type} [sF α](l:List α):List AV:=l.map sF.c
section
variable {α:Type} [C:sF α]{l m:List α} {a:α} {i n:Nat}
theorem ahe:(cX l).length=l.length:=by simp[cX]
theorem ahf:(cX l)[i]? =l[i]?.map sF.c:=by simp[cX]
theorem ahg:cX l++cX m=cX (l++m):=by simp[cX]
theorem cX_take:(cX l).take n=cX (l.take n):=by simp[cX,List.map_take]
theorem abG:(cX l).drop n=cX (l.drop n):=by simp[cX,List.map_drop]
theorem ahh(τ:Nat→Nat):(cX l).map (ren τ)=cX l:=(List.map_congr_left (fun x hx=>by
 obtain⟨a,_,rfl⟩:=List.mem_map.1 hx;exact j6 τ _ (sU _ (C.pl a)))).trans (List.map_id' _)
theorem ahi(id:Nat)(cs:List AV):(cX l).map (bT id cs)=cX l:=(List.map_congr_left (fun x hx=>by
 obtain⟨a,_,rfl⟩:=List.mem_map.1 hx;exact kg id cs _ (sU _ (C.pl a)))).trans (List.map_id' _)
theorem ahj{st:St} {σ:List Nat} {fz:Bool} {n:Nat}(h:0<n):(cX l).map (toA st σ fz n)=cX l:=(List.map_congr_left (fun x hx=>by
 obtain⟨a,_,rfl⟩:=List.mem_map.1 hx;exact yo h _ (C.pl a))).trans (List.map_id' _)
theorem ahk{st:St} {σ:List Nat} {n:Nat}(h:0<n):(cX l).map (dfz st σ n)=cX l:=(List.map_congr_left (fun x hx=>by
 obtain⟨a,_,rfl⟩:=List.mem_map.1 hx;exact yt h _ (C.pl a))).trans (List.map_id' _)
theorem ahl(n:Nat):(∀x∈cX l,bnd n x)=True:=eq_true (fun x hx=>by
 obtain⟨a,_,rfl⟩:=List.mem_map.1 hx;exact ko n _ (sU _ (C.pl a)))
theorem ahm:(cX l).all AV.scalar=true:=by
 rw[List.all_eq_true]
 intro x hx
 obtain⟨a,_,rfl⟩:=List.mem_map.1 hx
 exact C.sc a
theorem ahn:cX ([]:List α)=[]:=rfl
theorem abH:cX l++[sF.c a]=cX (l++[a]):=by simp[cX]
end
attribute [push_cast] ahe ahf ahg cX_take abG ahh ahi ahj ahk ahl ahm ahn abH
end Go.Sy
namespace Go.Sy
variable {s i:Nat}
def sN(s i:Nat):Int:=((s>>>i:Nat):Int)
def bN(s i:Nat):Int:=((s>>>i&&&1:Nat):Int)
theorem akv(h:i≤16):Int.fdiv (s:Int) (2^min i (IntKind.bits .u16))=sN s i:=akt h
theorem VW(hs:s<65536):s>>>i<65536:=Nat.lt_of_le_of_lt (by rw[Nat.shiftRight_eq_div_pow];exact Nat.div_le_self _ _) hs
theorem aho(hs:s<65536):IntKind.wrap .u16 ((BitVec.ofInt (IntKind.bits .u16) (sN s i)&&&BitVec.ofInt (IntKind.bits .u16) (1:Int)).toNat:Int)=bN s i:=aks (y:=1) (VW hs) (by omega)
theorem ahp:(bN s i=1)=(s.testBit i=true):=propext PX
theorem ahq:(bN s i=0)=(s.testBit i=false):=by
 have this:=PX (x:=s) (j:=i)
 have h2:s>>>i&&&1<2:=Nat.lt_of_le_of_lt Nat.and_le_right (by decide)
 unfold bN
 refine propext ⟨fun h=>?_,fun h=>?_⟩
 ·cases e:s.testBit i with
  |false=>rfl
  |true=>have:=this.2 e;omega
 ·have h3:¬((s>>>i&&&1:Nat):Int)=1:=fun hh=>by rw[this.1 hh] at h;cases h
  omega
theorem ahr{b:Bool}:decide (b=true)=b:=by cases b<;>rfl
theorem ahs{b:Bool}:decide (b=false)= !b:=by cases b<;>rfl
attribute [push_cast] akv aho ahp ahq RJ ahr ahs
end Go.Sy
namespace Go.Sy
open Go.ChangeShapes Go.WideShapes Go.ChangeAt Go.RowKit
theorem iw{H:Type} {enc:TypeId×Value→H} {P:Program} {W:World}(K:Kids P (· <P.types.size))(hz:∀t e,t<P.types.size→P.underlying t=some (.slice e)→0<P.cellsOf e){r:Reach} {b:Nat} {m:Nat} {t:TypeId} {fs:Array Field} {v:Value} {d:DataW H} {ps:List MemPlace} {held:Bool}(ht:t<P.types.size)(hp:mK P m t=true)
 (hu:P.underlying t=some (.struct fs)) (hval:Value.okWide P W r b t v) (h:DataW.Trod enc P W 0 (fun _=>true) held t v d ps) (hw:∀k∈d.weights P t,k≤reachBytes):
 ∃as,dO P m t as∧Rep W (fun b=>b<W.heap.size) (fun _=>none) v (.agg as):=by
 obtain⟨fuel,hf⟩:=h
 obtain⟨as,h1,h2⟩:=yh K hz m t _ _ fuel ht hp hf hw
 unfold Value.okWide at hval
 rw[hu] at hval
 obtain⟨cs,rfl,_,_⟩:=hval
 obtain⟨g1,g2⟩:=h2
 have hcells:(Value.agg cs).cells.toList=cs.toList:=rfl
 rw[hcells] at g1 g2
 refine⟨as,h1,.agg cs as (by simpa using g1.symm) (fun j hj=>?_)⟩
 have:=(g2 j as[j] (List.getElem?_eq_getElem hj)).2
 simpa[Array.getD_eq_getD_getElem?,List.getD_eq_getElem?_getD] using this
end Go.Sy
namespace Go.Sy
open Go Go.RowKit
variable {P:Program}
attribute [push_cast] aD.tr.injEq
def NK(w:World)(J X:Nat→Prop)(T:sG→Prop)(pn:Rho)(l:Nat):Ctx:=⟨w,J,fun b=>X b∧¬J b,pn,some l,T⟩
theorem Sim.rebase{c:Ctx} {ρ pn:Rho} {D J J' X':Nat→Prop} {st:St} {a:Act} {w w':World} {l mR:Nat}(hs:Sim c ρ D J st a w)(hd:a.defers=[])(hsz:w.heap.size≤w'.heap.size)(ho:w'.os=w.os)(ht:w'.tape=w.tape)(hu:w'.output=w.output)
 (hJ:∀b,J b→J' b∧w'.heap[b]? =w.heap[b]?) (hJlt:∀b,J' b→b<w'.heap.size) (hO:∀id o b s,st.ob id=some o→ρ id=some (b,s)→w'.heap[b]? =w.heap[b]? ∧X' b∧¬J' b)
 (hX:∀b,Xm c J st.ob ρ w b→w'.heap[b]? =w.heap[b]? ∧X' b∧¬J' b) (hX':∀b,X' b→b<w'.heap.size∧b≠l) (hB:∀H,c.tr H→∀b,H.B b→w'.heap[b]? =w.heap[b]? ∧¬X' b)
 (hl:∃r,w'.heap[l]? =some (.loop r)) (hp:∀j,j<mR→∃p,pn j=some p∧ρ j=some p):Sim (NK w' J' X' c.tr pn l) ρ D J' ⟨st.n,mR,st.env,st.objs⟩ a w':=by
 have hm:∀b,J b→b<w.heap.size→J' b∧w'.heap[b]? =w.heap[b]? :=fun b hb _=>hJ b hb
 refine⟨?_,hs.tmps,fun t=>(hs.env t).mono hm hsz (fun _ _ h=>h),fun id o hid=>?_,hs.inj,hs.dom,fun b hb=> .inl hb,hJlt,fun b hb=>(hX' b hb.1).1,hp,⟨Nat.le_refl _,rfl,rfl,rfl,fun _ _ _=>rfl⟩,?_,hs.laid.mono hm hsz⟩
 ·rw[hd];refine Marks.nil fun l' e=>?_
  simp only[NK,Option.some.injEq] at e;subst e
  exact⟨fun h=>(hX' _ h.1).2 rfl,hl⟩
 ·obtain⟨b,s,h1,h2,h3,h4⟩:=hs.obj id o hid
  obtain⟨k1,k2,k3⟩:=hO id o b s hid h1
  exact⟨b,s,h1,h2.mono hm hsz (fun _ _ h=>h) k1,.inl ⟨k2,k3⟩,k3⟩
 ·refine⟨hs.hid.one,fun id H j hid=>?_⟩
  obtain⟨h1,h2,h3⟩:=hs.hid.on id H j hid
  obtain⟨s,r,q1,q2,q3,q4⟩:=hs.nl hid
  refine⟨H.keep h1 hsz ho ht hu (fun b hb=>?_) (fun b hb=>?_) (fun b hb=>⟨hb.1,fun hb'=>?_,fun e=>?_⟩),fun b hb=>⟨?_,fun h=>(hB H h3 b hb).2 h.1⟩,h3⟩
  ·rcases hb with hb|hb|hb
   ·exact(hX b hb).1
   ·exact(hB H h3 b hb).1
   ·subst hb;exact(hO _ _ _ _ hid q1).1
  ·obtain⟨_,k2,k3⟩:=hX b hb
   exact⟨Nat.lt_of_lt_of_le hb.1 hsz,.inl ⟨k2,k3⟩,k3,hb.2.2.2⟩
  ·rcases hb.2.1 with h|h
   ·exact(hB H h3 b hb').2 h.1
   ·have:=hb.1;have h:w'.heap.size≤b:=h;omega
  ·subst e;exact hb.2.2.2 _ _ _ hid q1
  ·have:=(h2 b hb).1;have:=hs.kept.size;exact Nat.lt_of_lt_of_le (by omega) hsz
theorem Sim.reenv{c:Ctx} {ρ:Rho} {D J:Nat→Prop} {n m:Nat} {env env':List (Nat×AV)} {objs:List (Nat×Option aD)} {a a':Act} {w:World}(hs:Sim c ρ D J ⟨n,m,env,objs⟩ a w)(hd:a'.defers=a.defers)(hz:a'.tmps.size=n)
 (he:∀t,Rep w J ρ (a'.tmps.getD t undef) ((bg env' t).getD .any)):Sim c ρ D J ⟨n,m,env',objs⟩ a' w:=
 ⟨by rw[hd];exact hs.defers,hz,he,hs.obj,hs.inj,hs.dom,hs.jok,hs.jlt,hs.ilt,hs.pin,hs.kept,hs.hid,hs.laid⟩
structure RLoop where
 n:Nat
 mR:Nat
 env:List (Nat×AV)
 O:Nat→List (Nat×Option aD)
 OS:Nat→List (Nat×Option aD)
 L:Nat
 LS:Nat
 go:Nat→Bool
 xs:Nat→Option Value
 eS:Exit
 p:Nat
 assign:Code
 body:Code
def RQ(R:RLoop)(j:Nat):Exit→Nat→St→Prop:=fun e _ s=>
 (e= .normal∧R.go (j+1)=true∧∃σ:List Nat,σ.length=R.L∧Sub σ ⟨R.n,R.mR,[],R.O (j+1)⟩ s)∨
 (e=R.eS∧R.go (j+1)=false∧∃σ:List Nat,σ.length=R.LS∧Sub σ ⟨R.n,R.mR,[],R.OS (j+1)⟩ s)
def Mid(P:Program)(R:RLoop)(j:Nat)(nid:Nat)(s:St):Prop:=s.m=R.mR∧AC P R.body (RQ R j) nid s
def PZ:Exit→Code
 | .ret=> .ret
 | .exit i=> .exit i
 |_=> .skip
structure PE(P:Program) extends RLoop where
 tmps:Array Value
 fn:FuncId
 dB:Nat
 T:sG→Prop
 J:Nat→Prop
 B:Nat→Prop
 pn:Rho
 W1:World
 l:Nat
 hJB:∀b,J b→B b
 hBl:¬B l
 hBlt:∀b,B b→b<W1.heap.size
 hT:∀H,T H→∀b,H.B b→B b
 hsz:tmps.size=n
 hp:p<n
 hbe:∀q∈env,bnd mR q.2
 hE:eS= .ret∨∃i,eS= .exit i
 round:∀j x,go j=true→xs j=some x→AC P assign (Thn (Mid P toRLoop j) (fun _ _ _=>False)) L ⟨n,mR,(p,.val x)::env,O j⟩
namespace PE
def rcd(R:PE P)(s:LoopState)(pe:Option Code):Loop:={state:=s,pending:=pe,fn:=R.fn,tmps:=R.tmps,params:= #[R.p],assign:=R.assign,body:=R.body,defers:=R.dB}
def cur(R:PE P)(j:Nat):Loop:=if R.go j=true then R.rcd .ready none else R.rcd .done (some (PZ R.eS))
def G(R:PE P)(j:Nat)(X:Nat→Prop)(W:World):Prop:=∃(ρ:Rho) (J:Nat→Prop),
 Sim (NK W J X R.T R.pn R.l) ρ (· <if R.go j=true then R.L else R.LS) J ⟨R.n,R.mR,R.env,if R.go j=true then R.O j else R.OS j⟩ ⟨R.tmps,[]⟩ W∧
 (∀b,J b→R.J b∨X b)∧W.heap[R.l]? =some (.loop (R.cur j))∧(R.W1.heap.size≤W.heap.size∧W.os=R.W1.os∧W.tape=R.W1.tape∧W.output=R.W1.output)∧∀b,R.B b→W.heap[b]? =R.W1.heap[b]?
theorem keep(R:PE P){j:Nat} {X X':Nat→Prop} {w w':World}(h:R.G j X w)(hsz:w.heap.size≤w'.heap.size)(ho:w'.os=w.os)(ht:w'.tape=w.tape)(hu:w'.output=w.output)(hsame:∀b,X b∨R.B b∨b=R.l→w'.heap[b]? =w.heap[b]?)
 (mono:∀b,X b→X' b) (hX':∀b,X' b→b<w'.heap.size∧¬R.B b∧b≠R.l):R.G j X' w':=by
 obtain⟨ρ,J,h1,h2,h3,⟨h4,h5,h6,h7⟩,h8⟩:=h
 have hJs:∀b,J b→w'.heap[b]? =w.heap[b]? :=fun b hb=>hsame b ((h2 b hb).elim (fun h=> .inr (.inl (R.hJB b h))) .inl)
 refine⟨ρ,J,?_,fun b hb=>(h2 b hb).imp id (mono b),(hsame _ (.inr (.inr rfl))).trans h3,⟨Nat.le_trans h4 hsz,ho.trans h5,ht.trans h6,hu.trans h7⟩,fun b hb=>(hsame b (.inr (.inl hb))).trans (h8 b hb)⟩
 refine h1.rebase (J':=J) (X':=X') (l:=R.l) (mR:=R.mR) rfl hsz ho ht hu (fun b hb=>⟨hb,hJs b hb⟩) (fun b hb=>Nat.lt_of_lt_of_le (h1.jlt b hb) hsz) (fun id o b s k1 k2=>?_) (fun b hb=>?_) (fun b hb=>⟨(hX' b hb).1,(hX' b hb).2.2⟩) (fun H hH b hb=>?_) ⟨_,(hsame _ (.inr (.inr rfl))).trans h3⟩ (fun j hj=>h1.pin j hj)
 ·obtain⟨b',s',g1,g2,g3,g4⟩:=h1.obj id o k1
  rw[k2] at g1;cases g1
  rcases g3 with g3|g3
  ·exact⟨hsame b (.inl g3.1),mono b g3.1,g4⟩
  ·have:=g2.lt;have g3:w.heap.size≤b:=g3;omega
 ·rcases hb.2.1 with g|g
  ·exact⟨hsame b (.inl g.1),mono b g.1,g.2⟩
  ·have:=hb.1;have g:w.heap.size≤b:=g;omega
 ·have:=R.hT H hH b hb
  exact⟨hsame b (.inr (.inl this)),fun h=>(hX' b h).2.1 this⟩
theorem VX(x:AV):ren (fun i=>i) x=x:=by
 induction x using ren.induct with
 |_=>first|(simp_all[ren];done)|(simp_all[ren];rename_i ih;exact(List.map_congr_left (g:=fun x=>x) ih).trans (by simp))
theorem yield(R:PE P){j:Nat} {x:Value} {X:Nat→Prop} {w:World}(h:R.G j X w)(hgo:R.go j=true)(hx:R.xs j=some x)(hX:∀b,X b→b<w.heap.size∧¬R.B b∧b≠R.l)(r:Option Nat):YieldAt (fen r) 0 P R.l #[x] w fun e w'=>
 e= .returned (.bool (R.go (j+1)))∧w.heap.size≤w'.heap.size∧w'.os=w.os∧w'.tape=w.tape∧w'.output=w.output∧(∃r,w'.heap[R.l]? =some (.loop r))∧
 (∀b,b<w.heap.size→¬X b→b≠R.l→w'.heap[b]? =w.heap[b]?)∧R.G (j+1) (fun b=>X b∨(w.heap.size≤b∧b<w'.heap.size)) w':=by
 obtain⟨ρ,J,h1,h2,h3,⟨h4,h5,h6,h7⟩,h8⟩:=h
 simp only[hgo,if_true] at h1
 have h3:w.heap[R.l]? =some (.loop (R.rcd .ready none)):=by simpa[cur,hgo] using h3
 have hlw:R.l<w.heap.size:=(Array.getElem?_eq_some_iff.1 h3).1
 have hy:(Instr.yield R.l #[x]).run P w= .ok (.round R.l R.fn (R.tmps.setIfInBounds R.p x) R.assign R.body) w:=by
  have:=run_yield (P:=P) (args:= #[x]) h3 rfl
  simpa[rcd] using this
 refine⟨R.fn,_,R.assign,R.body,hy,roundIn_of_wpIn trivial ?_⟩
 have hs1:Sim (NK w J X R.T R.pn R.l) ρ (· <R.L) J ⟨R.n,R.mR,(R.p,.val x)::R.env,R.O j⟩ ⟨R.tmps.setIfInBounds R.p x,[]⟩ w:=by
  refine h1.reenv rfl (by simp[R.hsz]) (fun t=>?_)
  simp only[bg]
  by_cases e:t=R.p
  ·subst e
   have:R.p<R.tmps.size:=by rw[R.hsz];exact R.hp
   rw[if_pos rfl]
   have e2:(R.tmps.setIfInBounds R.p x).getD R.p undef=x:=by simp[Array.getD,this]
   rw[e2];exact .val _
  ·rw[if_neg e]
   have e2:(R.tmps.setIfInBounds R.p x).getD t undef=R.tmps.getD t undef:=by
    simp[Array.getD_eq_getD_getElem?,Array.getElem?_setIfInBounds,Ne.symm e]
   rw[e2];exact h1.env t
 refine wpIn_mono (R.round j x hgo hx (NK w J X R.T R.pn R.l) ρ J _ w hs1) ?_
 rintro e a1 w1 ⟨n1,s1,ρ1,J1,hs2,hq⟩
 cases e with
 |normal=>
  obtain⟨hm,hbody⟩:=hq
  have z1:w.heap.size≤w1.heap.size:=hs2.kept.size
  have hI1:¬(X R.l∧¬J R.l):=fun h=>(hX _ h.1).2.2 rfl
  have k1:∀b,b<w.heap.size→¬(X b∧¬J b)→w1.heap[b]? =w.heap[b]? :=fun b hb hn=>hs2.kept.block b hb hn
  have hl1:w1.heap[R.l]? =some (.loop (R.rcd .ready none)):=(k1 R.l hlw hI1).trans h3
  refine⟨_,run_beginRound hl1 rfl,?_⟩
  generalize hw2:w1.putObj R.l (.loop {R.rcd .ready none with state:= .busy})=w2
  have z2:w2.heap.size=w1.heap.size:=by rw[←hw2];simp
  have b2:∀b,b≠R.l→w2.heap[b]? =w1.heap[b]? :=fun b hb=>by rw[←hw2];exact World.putObj_heap_other hb
  have l2:w2.heap[R.l]? =some (.loop {R.rcd .ready none with state:= .busy}):=by rw[←hw2];exact World.putObj_heap_same (by omega)
  have o2:w2.os=w1.os∧w2.tape=w1.tape∧w2.output=w1.output:=by rw[←hw2];exact⟨rfl,rfl,rfl⟩
  clear hw2
  let X2:Nat→Prop:=fun b=>(X b∨(w.heap.size≤b∧b<w1.heap.size))∧¬J b
  have hJl:∀b,J b→b≠R.l:=fun b hb e=>by
   subst e
   rcases h2 _ hb with h|h
   ·exact R.hBl (R.hJB _ h)
   ·exact(hX _ h).2.2 rfl
  have own1:∀b,((X b∧¬J b)∨w.heap.size≤b)→b<w1.heap.size→X2 b∧b≠R.l:=fun b hb hlt=>by
   rcases hb with hb|hb
   ·exact⟨⟨.inl hb.1,hb.2⟩,(hX b hb.1).2.2⟩
   ·exact⟨⟨.inr ⟨hb,hlt⟩,fun h=>by have:=h1.jlt b h;omega⟩,by omega⟩
  have J1c:∀b,J1 b→J b∨X2 b:=fun b hb=>by
   rcases hs2.jok b hb with h|h|h
   ·exact .inl h
   ·exact .inr (own1 b (.inl h) (hs2.jlt b hb)).1
   ·exact .inr (own1 b (.inr h) (hs2.jlt b hb)).1
  have X2l:∀b,X2 b→b≠R.l:=fun b hb=>by
   rcases hb.1 with h|h
   ·exact(hX b h).2.2
   ·omega
  have J1l:∀b,J1 b→b≠R.l:=fun b hb=>(J1c b hb).elim (hJl b) (X2l b)
  have hBX2:∀b,R.B b→¬X2 b:=fun b hB hb=>by
   rcases hb.1 with h|h
   ·exact(hX b h).2.1 hB
   ·have:=R.hBlt b hB;omega
  have hBl:∀b,R.B b→b≠R.l:=fun b hB e=>R.hBl (e▸hB)
  have hs3:Sim (NK w2 J1 X2 R.T R.pn R.l) ρ1 (· <n1) J1 s1 a1 w2:=by
   have:=hs2.rebase (w':=w2) (J':=J1) (X':=X2) (l:=R.l) (pn:=R.pn) (mR:=R.mR) (hs2.defers.2 R.l rfl).1 (by omega) o2.1 o2.2.1 o2.2.2 (fun b hb=>⟨hb,b2 b (J1l b hb)⟩) (fun b hb=>by have:=hs2.jlt b hb;omega)
    (fun id o b s q1 q2=>by
      obtain⟨b',s',g1,g2,g3,g4⟩:=hs2.obj id o q1
      rw[q2] at g1;cases g1
      have:=own1 b g3 g2.lt
      exact⟨b2 b this.2,this.1,g4⟩)
    (fun b hb=>by have:=own1 b hb.2.1 hb.1;exact⟨b2 b this.2,this.1,hb.2.2.1⟩)
    (fun b hb=>⟨by rcases hb.1 with h|h;have:=(hX b h).1;omega;omega,X2l b hb⟩)
    (fun H hH b hb=>⟨b2 b (hBl b (R.hT H hH b hb)),hBX2 b (R.hT H hH b hb)⟩) ⟨_,l2⟩ (fun i hi=>hs2.pin i (by rw[hm];exact hi))
   rw[←hm] at this
   exact this
  refine wpIn_mono (hbody (NK w2 J1 X2 R.T R.pn R.l) ρ1 J1 a1 w2 hs3) ?_
  rintro e a3 w3 ⟨n3,s3,ρ3,J3,hs4,hq⟩
  have z3:w2.heap.size≤w3.heap.size:=hs4.kept.size
  have k3:∀b,b<w2.heap.size→¬(X2 b∧¬J1 b)→w3.heap[b]? =w2.heap[b]? :=fun b hb hn=>hs4.kept.block b hb hn
  have hl3:w3.heap[R.l]? =some (.loop {R.rcd .ready none with state:= .busy}):=(k3 R.l (by omega) (fun h=>X2l _ h.1 rfl)).trans l2
  let C:World→Prop:=fun w4=>w.heap.size≤w4.heap.size∧w4.os=w.os∧w4.tape=w.tape∧w4.output=w.output∧(∃r,w4.heap[R.l]? =some (.loop r))∧(∀b,b<w.heap.size→¬X b→b≠R.l→w4.heap[b]? =w.heap[b]?)∧
      R.G (j+1) (fun b=>X b∨(w.heap.size≤b∧b<w4.heap.size)) w4
  have fin:∀(w4:World),w4=w3.putObj R.l (.loop (R.cur (j+1)))→∀σ:List Nat,σ.length=(if R.go (j+1)=true then R.L else R.LS)→Sub σ ⟨R.n,R.mR,[],if R.go (j+1)=true then R.O (j+1) else R.OS (j+1)⟩ s3→C w4:=by
   intro w4 hw4 σ hσ hsub
   have z4:w4.heap.size=w3.heap.size:=by rw[hw4];simp
   have b4:∀b,b≠R.l→w4.heap[b]? =w3.heap[b]? :=fun b hb=>by rw[hw4];exact World.putObj_heap_other hb
   have l4:w4.heap[R.l]? =some (.loop (R.cur (j+1))):=by rw[hw4];exact World.putObj_heap_same (by omega)
   have o4:w4.os=w3.os∧w4.tape=w3.tape∧w4.output=w3.output:=by rw[hw4];exact⟨rfl,rfl,rfl⟩
   clear hw4
   have frame:∀b,b<w.heap.size→¬(X b∧¬J b)→b≠R.l→w4.heap[b]? =w.heap[b]? :=fun b hb hn hl=>
    (b4 b hl).trans ((k3 b (by omega) (fun h=>by
      rcases h.1.1 with h'|h'
      ·exact hn ⟨h',h.1.2⟩
      ·omega)).trans ((b2 b hl).trans (k1 b hb hn)))
   have os4:w4.os=w.os:=o4.1.trans (hs4.kept.os.trans (o2.1.trans hs2.kept.os))
   have tp4:w4.tape=w.tape:=o4.2.1.trans (hs4.kept.tape.trans (o2.2.1.trans hs2.kept.tape))
   have ou4:w4.output=w.output:=o4.2.2.trans (hs4.kept.output.trans (o2.2.2.trans hs2.kept.output))
   refine⟨by omega,os4,tp4,ou4,⟨_,l4⟩,fun b hb hn hl=>frame b hb (fun h=>hn h.1) hl,?_⟩
   have own3:∀b,((X2 b∧¬J1 b)∨w2.heap.size≤b)→b<w3.heap.size→(X b∨(w.heap.size≤b∧b<w4.heap.size))∧¬J b∧b≠R.l:=fun b hb hlt=>by
    rcases hb with hb|hb
    ·refine⟨?_,hb.1.2,X2l b hb.1⟩
     rcases hb.1.1 with h|h
     ·exact .inl h
     ·exact .inr (by omega)
    ·exact⟨.inr (by omega),fun h=>by have:=h1.jlt b h;omega,by omega⟩
   have J3c:∀b,J3 b→(J b∨(X b∨(w.heap.size≤b∧b<w4.heap.size)))∧b≠R.l:=fun b hb=>by
    rcases hs4.jok b hb with h|h|h
    ·refine⟨?_,J1l b h⟩
     rcases J1c b h with h'|h'
     ·exact .inl h'
     ·rcases h'.1 with h''|h''
      ·exact .inr (.inl h'')
      ·exact .inr (.inr (by omega))
    ·have:=own3 b (.inl h) (hs4.jlt b hb);exact⟨.inr this.1,this.2.2⟩
    ·have:=own3 b (.inr h) (hs4.jlt b hb);exact⟨.inr this.1,this.2.2⟩
   have hs5:=hsub.sim hs4
   have hs6:=hs5.rebase (w':=w4) (J':=fun b=>J b∨J3 b) (X':=fun b=>X b∨(w.heap.size≤b∧b<w4.heap.size)) (l:=R.l) (pn:=R.pn) (mR:=R.mR) (hs5.defers.2 R.l rfl).1 (by omega) o4.1 o4.2.1 o4.2.2 (fun b hb=>⟨.inr hb,b4 b (J3c b hb).2⟩)
    (fun b hb=>by rcases hb with h|h;have:=h1.jlt b h;omega;have:=hs4.jlt b h;omega)
    (fun id o b s q1 q2=>by
      obtain⟨b',s',g1,g2,g3,g4⟩:=hs5.obj id o q1
      rw[q2] at g1;cases g1
      have:=own3 b g3 g2.lt
      exact⟨b4 b this.2.2,this.1,fun h=>h.elim this.2.1 g4⟩)
    (fun b hb=>by have:=own3 b hb.2.1 hb.1;exact⟨b4 b this.2.2,this.1,fun h=>h.elim this.2.1 hb.2.2.1⟩)
    (fun b hb=>by
      rcases hb with h|h
      ·have:=hX b h;exact⟨by omega,this.2.2⟩
      ·exact⟨h.2,by omega⟩)
    (fun H hH b hb=>by
      have hB:=R.hT H hH b hb
      refine⟨b4 b (hBl b hB),fun h=>?_⟩
      rcases h with h|h
      ·exact(hX b h).2.1 hB
      ·have:=R.hBlt b hB;omega) ⟨_,l4⟩ (fun i hi=>hs5.pin i hi)
   have hpin:=hs6.pin
   have hs7:=hs6.reenv (env':=R.env) (a':=⟨R.tmps,[]⟩) (hs5.defers.2 R.l rfl).1.symm R.hsz (fun t=>by
    have e1:Rep w J ρ (R.tmps.getD t undef) ((bg R.env t).getD .any):=h1.env t
    have e2:=e1.mono (w':=w4) (J':=fun b=>J b∨J3 b) (ρ':=ρ) (fun b hb hlt=>⟨.inl hb,frame b hlt (fun h=>h.2 hb) (hJl b hb)⟩) (by omega) (fun _ _ h=>h)
    refine e2.unren (τ:=fun i=>i) (n:=R.mR) (fun id hid=>?_) (VX _).symm ?_
    ·obtain⟨q,q1,q2⟩:=hpin id hid
     obtain⟨q',q3,q4⟩:=h1.pin id hid
     have q1:R.pn id=some q:=q1
     have q3:R.pn id=some q':=q3
     rw[q1] at q3;cases q3
     exact q2.trans q4.symm
    ·cases hl:bg R.env t with
     |none=>simp[bnd]
     |some v=>exact R.hbe _ (look_mem hl))
   refine⟨_,fun b=>J b∨J3 b,by rw[←hσ];exact hs7,fun b hb=>?_,l4,⟨by omega,os4.trans h5,tp4.trans h6,ou4.trans h7⟩,fun b hb=>?_⟩
   ·rcases hb with h|h
    ·exact(h2 b h).imp id .inl
    ·rcases(J3c b h).1 with h|h
     ·exact(h2 b h).imp id .inl
     ·exact .inr h
   ·have:=R.hBlt b hb
    exact(frame b (by omega) (fun h=>(hX b h.1).2.1 hb) (hBl b hb)).trans (h8 b hb)
  have stop:∀e',e'=R.eS→R.go (j+1)=false→(∃σ:List Nat,σ.length=R.LS∧Sub σ ⟨R.n,R.mR,[],R.OS (j+1)⟩ s3)→∀w4,w4=w3.putObj R.l (.loop (R.rcd .done (some (PZ e'))))→C w4:=fun e' he hg hσ w4 hw=>by
   obtain⟨σ,s1,s2⟩:=hσ
   refine fin w4 (by rw[hw];simp[cur,hg,he]) σ (by simp[hg,s1]) ?_
   simp only[hg,Bool.false_eq_true,if_false];exact s2
  rcases hq with⟨rfl,hg,σ,s1,s2⟩|⟨rfl,hg,hσ⟩
  ·have hr:=run_endRound (P:=P) none hl3
   refine⟨_,_,hr,by simp[hg],?_⟩
   refine fin _ (by simp[cur,hg,rcd]) σ (by simp[hg,s1]) ?_
   simp only[hg,if_true];exact s2
  ·rcases R.hE with he|⟨i,he⟩
   ·rw[he] at stop⊢
    have hr:=run_endRound (P:=P) (some .ret) hl3
    refine⟨_,_,hr,by simp[hg],?_⟩
    exact stop _ rfl hg hσ _ (by simp[PZ,rcd])
   ·rw[he] at stop⊢
    have hr:=run_endRound (P:=P) (some (.exit i)) hl3
    refine⟨_,_,hr,by simp[hg],?_⟩
    exact stop _ rfl hg hσ _ (by simp[PZ,rcd])
 |_=>exact hq.elim
end PE
end Go.Sy
namespace Go.Sy
theorem ACall.own3{P:Program} {f:FuncId} {args args':List AV} {c0 c1 c2:List AV} {e0 e1 e2:TypeId} {r:AV} {objs':List aD}(g0:∀x∈c0,bnd 0 x)(g1:∀x∈c1,bnd 0 x)(g2:∀x∈c2,bnd 0 x)
 (he:args'=args.map fun x=>bT 2 c2 (bT 1 c1 (bT 0 c0 x))) (hb:∀x∈args',bnd 0 x)
 (h:ACall P f args' [] 0 r objs') (ht:trs objs'=[]:=by rfl):ACall P f args [.cells c0 e0,.cells c1 e1,.cells c2 e2] 0 r objs':=by
 subst he
 intro w A I ρ vs hsz hrep hA hI hobj hdom hinj _ hlaid
 obtain⟨b0,s0,k01,k02,k03⟩:=hobj 0 (by simp)
 obtain⟨b1,s1,k11,k12,k13⟩:=hobj 1 (by simp)
 obtain⟨b2,s2,k21,k22,k23⟩:=hobj 2 (by simp)
 simp only[List.getElem_cons_zero,List.getElem_cons_succ] at k03 k13 k23
 obtain⟨u0,hu0⟩:=fF k03
 obtain⟨u1,hu1⟩:=fF k13
 obtain⟨u2,hu2⟩:=fF k23
 let A':Nat→Prop:=fun b'=>A b'∨b'=b0∨b'=b1∨b'=b2
 have hJ:∀b,A b→A' b:=fun _ h=> .inl h
 have hJ':∀b,A' b→A' b:=fun _ h=>h
 have mono:∀{ρ:Rho} {v:Value} {x:AV},Rep w A ρ v x→Rep w A' ρ v x:=fun h=>h.mono (fun b hb _=>⟨hJ b hb,rfl⟩) (Nat.le_refl _) (fun _ _ h=>h)
 have rep:∀{v:Value} {x:AV},Rep w A ρ v x→Rep w A' ρ v (bT 2 c2 (bT 1 c1 (bT 0 c0 x))):=fun h=>
  Rep.frz (u:=u2) hJ' (.inr (.inr (.inr rfl))) k21 k23.lt (fun j hj=>(hu2 j hj).2.1) (fun j hj=>(hu2 j hj).1) (fun j hj=>mono ((hu2 j hj).2.2.closed (g2 _ (List.getElem_mem hj))))
   (Rep.frz (u:=u1) hJ' (.inr (.inr (.inl rfl))) k11 k13.lt (fun j hj=>(hu1 j hj).2.1) (fun j hj=>(hu1 j hj).1) (fun j hj=>mono ((hu1 j hj).2.2.closed (g1 _ (List.getElem_mem hj))))
     (Rep.frz (u:=u0) hJ (.inr (.inl rfl)) k01 k03.lt (fun j hj=>(hu0 j hj).2.1) (fun j hj=>(hu0 j hj).1) (fun j hj=>mono ((hu0 j hj).2.2.closed (g0 _ (List.getElem_mem hj)))) h))
 refine(h w A' (fun b'=>I b'∧b'≠b0∧b'≠b1∧b'≠b2) (fun _=>none) vs (by simpa using hsz) (fun j hj=>?_) (fun b' hb'=>?_) (fun b' hb'=>hI b' hb'.1) (fun j hj=>by simp at hj) (fun j p hp=>by cases hp) (fun i j b s s' h1 _=>by cases h1) (Hid.none (fun _ _ _=>by simp)) (hlaid.mono (fun b h _=>⟨.inl h,rfl⟩) (Nat.le_refl _))).mono ?_
 ·have hj':j<args.length:=by simpa using hj
  have:=(rep (hrep j hj')).closed (ρ':=fun _=>none) (hb _ (by simpa using List.mem_map.2 ⟨_,List.getElem_mem hj',rfl⟩))
  simpa using this
 ·rcases hb' with hb'|hb'|hb'|hb'
  ·exact⟨(hA b' hb').1,fun hn=>(hA b' hb').2 hn.1⟩
  ·subst hb';exact⟨hI _ k02,fun hn=>hn.2.1 rfl⟩
  ·subst hb';exact⟨hI _ k12,fun hn=>hn.2.2.1 rfl⟩
  ·subst hb';exact⟨hI _ k22,fun hn=>hn.2.2.2 rfl⟩
 ·rintro ex w' ⟨v,ρ',J',h1,h2,h3,h4,h5,h6,h7,h8,_⟩
  refine⟨v,ρ',J',h1,h2,fun b' hb'=>?_,?_,fun j hj=>by omega,h6,fun j hj=>?_,h8,Hid.none fun id H j k=>?_⟩
  ·obtain⟨q1,g2⟩:=h3 b' hb'
   refine⟨q1,?_⟩
   rcases g2 with(g2|g2|g2|g2)|g2|g2
   ·exact .inl g2
   ·subst g2;exact .inr (.inl k02)
   ·subst g2;exact .inr (.inl k12)
   ·subst g2;exact .inr (.inl k22)
   ·exact .inr (.inl g2.1)
   ·exact .inr (.inr g2)
  ·exact⟨h4.size,h4.os,h4.tape,h4.output,fun b' hb' hn=>h4.block b' hb' (fun hh=>hn hh.1)⟩
  ·obtain⟨b',s',g1,g2,g3,g4⟩:=h7 j hj
   exact⟨b',s',g1,g2,g3.imp (fun h=>h.1) id,g4⟩
  ·obtain⟨hlt,e⟩:=List.getElem?_eq_some_iff.1 k
   have:H∈trs objs':=kR.2 ⟨j,e▸List.getElem_mem hlt⟩
   rw[ht] at this;cases this
