/- Sym6 Sym7 Sym8 Sym9. No condition. -/
import Derived.Test.YtgmpdplpodemaaaGreatDoorSymG1
set_option linter.all false
namespace Go.Sy
section
def jK:AV->Option Int
 | .val (.int _ n)=>some n
 |_=>none
def bv(st:St)(d:Nat):Option Operand->Option Int
 |none=>some d
 |some x=>jK (st.op x)
section
variable {P:Program} {dst:Option Nat} {ty:TypeId} {pos:String} {af:Array Edge} {g:Option (Nat×Bool)} {nid:Nat} {st:St}
theorem iM{c:Ctx} {ρ:Rho} {D J:Nat->Prop} {a:Act} {w:World}(h:Sim c ρ D J st a w)(sl:Bool)(len cap:Nat)(lo hi:Option Operand)(l u:Int)(hl:bv st 0 lo=some l)(hu:bv st len hi=some u)
 (h1:0<=l) (h2:l<=u) (h3:u<=cap):(Instr.sliceBounds sl len cap (lo.map a.eval) (hi.map a.eval) none).run P w= .ok (l.toNat,u.toNat,cap) w:=by
 have hv:∀x:Operand,∀n:Int,bv st len (some x)=some n->∃k,a.eval x= .int k n:=by
  intro x n hx
  have hr:=h.op x
  simp only[bv] at hx
  unfold jK at hx
  split at hx
  ·rename_i k m hm;cases hx;rw[hm] at hr;exact⟨k,aG hr⟩
  ·cases hx
 have hv0:∀x:Operand,∀n:Int,bv st 0 (some x)=some n->∃k,a.eval x= .int k n:=λx n hx=>hv x n hx
 cases lo with
 |none=>
  simp[bv] at hl
  subst hl
  cases hi with
  |none=>simp[bv] at hu;subst hu;simp[Instr.sliceBounds]
  |some y=>
   obtain⟨k,hk⟩:=hv y u hu
   simp[Instr.sliceBounds,Instr.sliceBound,hk,asIntOf,show 0<=u by omega,h3]
 |some x=>
  obtain⟨k,hk⟩:=hv0 x l hl
  cases hi with
  |none=>simp[bv] at hu;subst hu;simp[Instr.sliceBounds,Instr.sliceBound,hk,asIntOf,h1,h2]
  |some y=>
   obtain⟨k',hk'⟩:=hv y u hu
   obtain⟨n,rfl⟩:∃n:Nat,u=n:=⟨u.toNat,omgz⟩
   have h3':n<=cap:=by omega
   simp[Instr.sliceBounds,Instr.sliceBound,hk,hk',asIntOf,h1,h2,h3']
theorem AU(t:TypeId)(x:Operand)(lo hi:Option Operand)(s:ByteArray)(l u:Int)(ht:si P t=true)(hx:st.op x= .val (.string s))(hl:bv st 0 lo=some l)(hu:bv st s.size hi=some u)
 (h1:0<=l) (h2:l<=u) (h3:u<=s.size):OpT P ⟨dst,.slice t x lo hi none,ty,pos,af,g⟩ nid 0 st ⟨.val (.string (s.extract l.toNat u.toNat)),[]⟩:= .pure λc ρ D J a w h=>by
 have e:=h.op x;rw[hx] at e
 have e:=aG e
 have hb:=iM (P:=P) h false s.size s.size lo hi l u hl hu h1 h2 h3
 have hty:=iL ht
 refine⟨.string (s.extract l.toNat u.toNat),?_,.val _⟩
 simp only[execOp,e,Instr.sliceAt,Sem.run_bind,run_underlying hty,Result.andThen_ok,Instr.slice,Option.map_none,Option.isSome_none,Bool.false_eq_true,if_false,hb,Sem.run_pure]
theorem AX(t e:TypeId)(x:Operand)(lo hi:Option Operand)(z:Bool)(cells:List AV)(len es:Nat)(l u:Int)(ht:jf P t=some e)(hs:siz P e=some es)(hx:st.op x= .isl z cells len)(hl:bv st 0 lo=some l)(hu:bv st len hi=some u)
 (h1:0<=l) (h2:l<=u) (h3:u<=len):
 OpT P ⟨dst,.slice t x lo hi none,ty,pos,af,g⟩ nid 0 st ⟨.isl z ((cells.drop (l.toNat*es)).take ((u.toNat-l.toNat)*es)) (u.toNat-l.toNat),[]⟩:= .pure λc ρ D J a w h=>by
 have hr:=h.op x;rw[hx] at hr
 have hty:=bg ht
 generalize hv:a.eval x=v at hr
 cases hr with
 |inil=>
  have hl0:l=0:=by have:u<=((0:Nat):Int):=h3;omega
  have hu0:u=0:=by have:u<=((0:Nat):Int):=h3;omega
  subst hl0;subst hu0
  have hb:=iM (P:=P) h true 0 0 lo hi 0 0 hl hu h1 h2 h3
  refine⟨.slice none 0 0,?_,by simpa using Rep.inil⟩
  simp only[execOp,hv,Instr.sliceAt,Sem.run_bind,run_underlying hty,Result.andThen_ok,Instr.slice,Option.map_none,hb,Sem.run_pure,dx hs]
  rfl
 |iemp ad cap=>
  have hl0:l=0:=by have:u<=((0:Nat):Int):=h3;omega
  have hu0:u=0:=by have:u<=((0:Nat):Int):=h3;omega
  subst hl0;subst hu0
  have hb:=iM (P:=P) h true 0 cap lo hi 0 0 hl hu h1 h2 omgz
  have e1:([].drop ((0:Int).toNat*es)).take (((0:Int).toNat-(0:Int).toNat)*es)=([]:List AV):=by simp
  rw[e1]
  by_cases hcl:cap=(0:Int).toNat
  ·refine⟨.slice (some ad) 0 (cap-(0:Int).toNat),?_,.iemp _ _⟩
   simp only[execOp,hv,Instr.sliceAt,Sem.run_bind,run_underlying hty,Result.andThen_ok,Instr.slice,Option.map_none,hb,Sem.run_pure,dx hs,if_pos hcl]
   rfl
  ·refine⟨.slice (some (ad.add ((0:Int).toNat*es))) 0 (cap-(0:Int).toNat),?_,.iemp _ _⟩
   simp only[execOp,hv,Instr.sliceAt,Sem.run_bind,run_underlying hty,Result.andThen_ok,Instr.slice,Option.map_none,hb,Sem.run_pure,dx hs,if_neg hcl,Option.map_some]
   rfl
 |isl b off _ cap _ f hb0 hc h0 h1' h2'=>
  have hb:=iM (P:=P) h true len cap lo hi l u hl hu h1 h2 omgz
  have hlen:((cells.drop (l.toNat*es)).take ((u.toNat-l.toNat)*es)).length<=cells.length-l.toNat*es:=by simp;omega
  have hget:∀j (hj:j<((cells.drop (l.toNat*es)).take ((u.toNat-l.toNat)*es)).length),((cells.drop (l.toNat*es)).take ((u.toNat-l.toNat)*es))[j]=cells[l.toNat*es+j]'(omgz):=by
   intro j hj;simp
  by_cases hcl:cap=l.toNat
  ·have hul:u.toNat-l.toNat=0:=by omega
   refine⟨.slice (some ⟨b,off,none⟩) (u.toNat-l.toNat) (cap-l.toNat),?_,?_⟩
   ·simp only[execOp,hv,Instr.sliceAt,Sem.run_bind,run_underlying hty,Result.andThen_ok,Instr.slice,Option.map_none,hb,Sem.run_pure,dx hs,if_pos hcl]
   ·rw[hul]
    exact .isl b off 0 _ _ f (λhne=>absurd (by simp) hne) omgz (λj hj=>by simp at hj) (λj hj=>by simp at hj) (λj hj=>by simp at hj)
  ·refine⟨.slice (some ⟨b,off+l.toNat*es,none⟩) (u.toNat-l.toNat) (cap-l.toNat),?_,?_⟩
   ·simp only[execOp,hv,Instr.sliceAt,Sem.run_bind,run_underlying hty,Result.andThen_ok,Instr.slice,Option.map_none,hb,Sem.run_pure,dx hs,if_neg hcl,Option.map_some,Addr.add_lit]
   ·refine .isl b (off+l.toNat*es) _ _ _ (λj=>f (l.toNat*es+j)) (λhne=>hb0 (λe=>hne (by rw[e];simp))) omgz (λj hj=>h0 _ omgz) (λj hj=>?_) (λj hj=>?_)
    ·rw[Nat.add_assoc];exact h1' _ omgz
    ·rw[hget j hj];exact h2' _ omgz
theorem Cv(t e:TypeId)(x:Operand)(lo hi:Option Operand)(id off len es:Nat)(l u:Int)(ht:jf P t=some e)(hs:siz P e=some es)(hx:st.op x= .sl id off len es)(hl:bv st 0 lo=some l)(hu:bv st len hi=some u)
 (h1:0<=l) (h2:l<=u) (h3:u<=len) (h4:l<len\/l=0):
 OpT P ⟨dst,.slice t x lo hi none,ty,pos,af,g⟩ nid 0 st ⟨.sl id (off+l.toNat*es) (u.toNat-l.toNat) es,[]⟩:= .pure λc ρ D J a w h=>by
 have hr:=h.op x;rw[hx] at hr
 have hty:=bg ht
 generalize hv:a.eval x=v at hr
 cases hr with
 |sl b s _ _ _ _ cap hρ hc hsz=>
  have hb:=iM (P:=P) h true len cap lo hi l u hl hu h1 h2 omgz
  refine⟨.slice (some ⟨b,off+l.toNat*es,none⟩) (u.toNat-l.toNat) (cap-l.toNat),?_,.sl b s id _ _ es (cap-l.toNat) hρ omgz ?_⟩
  ·simp only[execOp,hv,Instr.sliceAt,Sem.run_bind,run_underlying hty,Result.andThen_ok,Instr.slice,Option.map_none,hb,Sem.run_pure,dx hs]
   by_cases hcl:cap=l.toNat
   ·have:l.toNat=0:=by omega
    rw[if_pos hcl,this];simp
   ·rw[if_neg hcl];simp[Addr.add_lit]
  ·rw[Nat.add_assoc,<-Nat.add_mul,show l.toNat+(cap-l.toNat)=cap by omega];exact hsz
theorem AY(t e:TypeId)(x:Operand)(lo hi:Option Operand)(id off len es:Nat)(l u:Int)(ht:jf P t=some e)(hs:siz P e=some es)(hx:st.op x= .sl id off len es)(hl:bv st 0 lo=some l)(hu:bv st len hi=some u)
 (h1:0<=l) (h2:l=u) (h3:u<=len):
 OpT P ⟨dst,.slice t x lo hi none,ty,pos,af,g⟩ nid 0 st ⟨.isl false [] 0,[]⟩:= .pure λc ρ D J a w h=>by
 have hr:=h.op x;rw[hx] at hr
 have hty:=bg ht
 subst h2
 generalize hv:a.eval x=v at hr
 cases hr with
 |sl b s _ _ _ _ cap hρ hc hsz=>
  have hb:=iM (P:=P) h true len cap lo hi l l hl hu h1 (Int.le_refl _) omgz
  refine⟨.slice (some (if cap=l.toNat then⟨b,off,none⟩ else⟨b,off+l.toNat*es,none⟩)) 0 (cap-l.toNat),?_,?_⟩
  ·simp only[execOp,hv,Instr.sliceAt,Sem.run_bind,run_underlying hty,Result.andThen_ok,Instr.slice,Option.map_none,hb,Sem.run_pure,dx hs]
   by_cases hcl:cap=l.toNat
   ·simp[hcl]
   ·simp[hcl,Addr.add_lit]
  ·split<;>exact .isl b _ 0 _ [] (λ_=>undef) (λhne=>absurd rfl hne) omgz (λj hj=>by simp at hj) (λj hj=>by simp at hj) (λj hj=>by simp at hj)
theorem ObjRep.unfull{w:World} {J:Nat->Prop} {ρ:Rho} {b s:Nat} {cs:List AV} {e:TypeId}(h:ObjRep w J ρ b s (.full cs e)):ObjRep w J ρ b s (.cells cs e):=by
 obtain⟨c,hc,h1,h2,h3,h4⟩:=h
 exact⟨c,hc,h1,omgz,h3,h4⟩
def EC(off m es:Nat):Option aC->Option (List AV×Nat)
 |some (.cells cs _)=>some ((cs.drop off).take (m*es),m)
 |some (.full cs _)=>some ((cs.drop off).take (m*es),m)
 |_=>none
def gY(st:St):AV->Option (List AV×Nat)
 | .isl _ cells m=>some (cells,m)
 | .sl id off m es=>EC off m es (st.ob id)
 |_=>none
theorem tV{c:Ctx} {ρ:Rho} {D J:Nat->Prop} {a:Act} {w:World}(h:Sim c ρ D J st a w){x:AV} {v:Value}(hr:Rep w J ρ v x){cells:List AV} {m es:Nat}(hs:gY st x=some (cells,m))(hl:cells.length=m*es):
 (v= .slice none 0 0/\m=0/\cells=[])\/∃(ad:Addr) (cp:Nat) (news:List Value),v= .slice (some ad) m cp/\m<=cp/\news.length=m*es/\(∀j u,news[j]? =some u->w.cell? (ad.add j)=some u)/\(∀u∈news,Value.oneCell' u=true)/\
   ∀j (hj:j<cells.length),Rep w J ρ (news.getD j undef) cells[j]:=by
 have mk:∀(b off:Nat) (f:Nat->Value),(∀j,j<cells.length->w.cell? ⟨b,off+j,none⟩=some (f j)/\(f j).oneCell'=true)->(∀j (hj:j<cells.length),Rep w J ρ (f j) cells[j])->
  ∃news:List Value,news.length=m*es/\(∀j u,news[j]? =some u->w.cell? ((⟨b,off,none⟩:Addr).add j)=some u)/\(∀u∈news,Value.oneCell' u=true)/\∀j (hj:j<cells.length),Rep w J ρ (news.getD j undef) cells[j]:=by
  intro b off f h1 h2
  refine⟨(List.range cells.length).map f,by simp[hl],λj u hu=>?_,λu hu=>?_,λj hj=>?_⟩
  ·obtain⟨hj,rfl⟩:=List.getElem?_eq_some_iff.1 hu
   have hj':j<cells.length:=by simpa using hj
   rw[Addr.add_lit];simpa using(h1 j hj').1
  ·simp at hu;obtain⟨j,hj,rfl⟩:=hu;exact(h1 j hj).2
  ·have:((List.range cells.length).map f).getD j undef=f j:=by simp[List.getD_eq_getElem?_getD,hj]
   rw[this];exact h2 j hj
 cases hr with
 |inil=>simp[gY] at hs;exact .inl ⟨rfl,hs.2.symm,hs.1⟩
 |iemp ad cap=>
  simp only[gY,Option.some.injEq,Prod.mk.injEq] at hs
  obtain⟨rfl,rfl⟩:=hs
  exact .inr ⟨ad,cap,[],rfl,Nat.zero_le _,by simp,by simp,by simp,by simp⟩
 |isl b off len cap cs f hb hc h0 h1 h2=>
  simp only[gY,Option.some.injEq,Prod.mk.injEq] at hs
  obtain⟨rfl,rfl⟩:=hs
  obtain⟨news,k1,k2,k3,k4⟩:=mk b off f (λj hj=>⟨h1 j hj,h0 j hj⟩) (λj hj=>(h2 j hj).up)
  exact .inr ⟨_,cap,news,rfl,hc,k1,k2,k3,k4⟩
 |sl b s id off len es' cap hρ hc hsz=>
  simp only[gY] at hs
  unfold EC at hs
  split at hs
  ·rename_i cs e ho
   simp only[Option.some.injEq,Prod.mk.injEq] at hs
   obtain⟨rfl,rfl⟩:=hs
   obtain⟨b',s',hρ',hob,_⟩:=h.obj id _ ho
   rw[hρ] at hρ';cases hρ'
   obtain⟨f,hf⟩:=iA hob
   obtain⟨news,k1,k2,k3,k4⟩:=mk b off (λj=>f (off+j)) (λj hj=>by
    have:=hf (off+j) (by simp at hj;omega);exact⟨this.1,this.2.1⟩) (λj hj=>by
    have:=hf (off+j) (by simp at hj;omega);simpa using this.2.2)
   exact .inr ⟨_,cap,news,rfl,hc,k1,k2,k3,k4⟩
  ·rename_i cs e ho
   simp only[Option.some.injEq,Prod.mk.injEq] at hs
   obtain⟨rfl,rfl⟩:=hs
   obtain⟨b',s',hρ',hob,_⟩:=h.obj id _ ho
   rw[hρ] at hρ';cases hρ'
   obtain⟨f,hf⟩:=iA hob.unfull
   obtain⟨news,k1,k2,k3,k4⟩:=mk b off (λj=>f (off+j)) (λj hj=>by
    have:=hf (off+j) (by simp at hj;omega);exact⟨this.1,this.2.1⟩) (λj hj=>by
    have:=hf (off+j) (by simp at hj;omega);simpa using this.2.2)
   exact .inr ⟨_,cap,news,rfl,hc,k1,k2,k3,k4⟩
  ·cases hs
 |val v=>simp[gY] at hs
 |any v=>simp[gY] at hs
 |ipt=>simp[gY] at hs
 |pt=>simp[gY] at hs
 |mp=>simp[gY] at hs
 |yl=>simp[gY] at hs
 |agg=>simp[gY] at hs
 |tup=>simp[gY] at hs
 |fn=>simp[gY] at hs
theorem kD{zs:List Value}(h1:zs.all Value.oneCell'=true){z:Array Value}(hz:z=zs.toArray)(n:Nat):(Builtin.zeroCells z n).all Value.oneCell'=true:=by
 subst hz
 rw[Array.all_eq_true_iff_forall_mem]
 intro u hu
 obtain⟨j,hj,rfl⟩:=Array.getElem_of_mem hu
 rw[size_zeroCells] at hj
 have hpos:0<zs.length:=by
  rcases Nat.eq_zero_or_pos zs.length with h|h
  ·simp[h] at hj
  ·exact h
 have hm:j%zs.length<zs.length:=Nat.mod_lt _ hpos
 have:=List.all_eq_true.1 h1 _ (List.getElem_mem hm)
 simpa[Builtin.zeroCells,hm] using this
theorem l6{w:World} {J:Nat->Prop} {ρ:Rho} {vs:List Value} {avs:List AV}(extra:Array Value)(hx:extra.all Value.oneCell'=true)(hl:vs.length=avs.length)(h1:∀u∈vs,Value.oneCell' u=true)(h2:∀j (hj:j<avs.length),Rep w J ρ (vs.getD j undef) avs[j]):
 CRep w J ρ (vs.toArray++extra) avs:=by
 have hall:(vs.toArray++extra).all Value.oneCell'=true:=by
  rw[Array.all_eq_true_iff_forall_mem] at hx⊢
  intro u hu
  rcases Array.mem_append.1 hu with hu|hu
  ·exact h1 u (by simpa using hu)
  ·exact hx u hu
 refine⟨by simp;omega,λj hj=>?_,hall⟩
 have hj':j<vs.length:=by omega
 have e:(vs.toArray++extra).getD j undef=vs.getD j undef:=by
  simp[Array.getD_eq_getD_getElem?,List.getD_eq_getElem?_getD,Array.getElem?_append,hj']
 rw[e]
 refine⟨?_,h2 j hj⟩
 have:vs.getD j undef=vs[j]:=by simp[List.getD_eq_getElem?_getD,hj']
 rw[this];exact h1 _ (List.getElem_mem hj')
theorem yN(t:TypeId)(x y:Operand)(e:TypeId)(es by' m:Nat)(zs:List Value)(cells:List AV)(he:jf P t=some e)(hs:siz P e=some es)(hzs:jg P e=some zs)(hzl:zs.length=es)(hz1:zs.all Value.oneCell'=true)(hb:byt P e=some by')
 (hx:st.op x= .isl true [] 0) (hy:gY st (st.op y)=some (cells,m)) (hl:cells.length=m*es) (hm:0<m) (hbytes:m*by'<=140737488355328) (hm63:m<=9223372036854775807):
 OpT P ⟨dst,.call ⟨.builtin .append,#[x,y],#[t,t]⟩,ty,pos,af,g⟩ nid 1 st ⟨.sl nid 0 m es,[(nid,some (.cells cells e))]⟩:= .alloc λc ρ D J a w h=>by
 have e1:=h.op x;rw[hx] at e1
 obtain⟨i,z,hi,his,hz,hzc⟩:=kU hs hzs
 have hb':i.bytes=by':=by unfold byt at hb;simpa[hi] using hb
 generalize hv:a.eval x=v at e1
 rcases tV h (h.op y) hy hl with⟨_,h0,_⟩|⟨ad,cp,news,hyv,hmc,hnl,hnews,hone,hrep⟩
 ·omega
 have hv0:v= .slice none 0 0:=by
  generalize hxx:AV.isl true [] 0=xx at e1
  cases e1<;>simp at hxx
  rfl
 subst hv0
 have hr:=run_append_nil (P:=P) w t ty e i z (bg he) hi hz ad m cp news (by rw[his];exact hnl) hnews hm omgz (by rw[hb'];omega)
 have hge:=grownCap_ge w m 0 e
 obtain⟨A,hA⟩:∃A,A=news.toArray++Builtin.zeroCells z.cells (grownCap w m 0 e-m):=⟨_,rfl⟩
 rw[<-hA] at hr
 refine⟨.slice (some ⟨w.heap.size,0,none⟩) m (grownCap w m 0 e),w.drew.alloc (.cells A e),.cells A e,grownCap w m 0 e*es,?_,iF.drew w _,λρ' h1' h2'=>⟨.sl _ _ nid 0 m es _ h1' hge omgz,A,(iF.drew w _).new,?_,?_,?_⟩⟩
 ·simp[execOp,resolve,invoke,builtin,hv,hyv,hr]
 ·rw[hA]
  simp only[Array.size_append,List.size_toArray,size_zeroCells,hnl,hzc,hzl,<-Nat.add_mul]
  congr 1;omega
 ·rw[hl];exact Nat.mul_le_mul_right _ hge
 ·rw[hA] at*
  exact(l6 (J:=J) (ρ:=ρ') _ (kD hz1 hzc _) omgz hone (λj hj=>(hrep j hj).grew (iF.drew w _) h2')).2
theorem yO(t:TypeId)(x y:Operand)(e:TypeId)(id n es by' m:Nat)(zs:List Value)(cs cells:List AV)(he:jf P t=some e)(hs:siz P e=some es)(hzs:jg P e=some zs)(hzl:zs.length=es)(hz1:zs.all Value.oneCell'=true)(hb:byt P e=some by')
 (hx:st.op x= .sl id 0 n es) (ho:st.ob id=some (.cells cs e)) (hcs:cs.length=n*es) (hy:gY st (st.op y)=some (cells,m)) (hl:cells.length=m*es) (hbytes:(n+m)*by'<=140737488355328) (hm63:n+m<=9223372036854775807):
 OpT P ⟨dst,.call ⟨.builtin .append,#[x,y],#[t,t]⟩,ty,pos,af,g⟩ nid 1 st ⟨.sl nid 0 (n+m) es,[(nid,some (.cells (cs++cells) e)),(id,none)]⟩:=OpT.regrow ho λc ρ D J a w b s h hρ hob hJ=>by
 have e1:=h.op x;rw[hx] at e1
 obtain⟨i,z,hi,his,hz,hzc⟩:=kU hs hzs
 have hb':i.bytes=by':=by unfold byt at hb;simpa[hi] using hb
 generalize hv:a.eval x=v at e1
 cases e1 with
 |sl b' s' _ _ _ _ cap hρ' hc hsz=>
  rw[hρ] at hρ';cases hρ'
  obtain⟨arr,harr,has,hcr⟩:=hob
  have hcr':CRep w J ρ arr cs:=⟨by have:=hcr.1;omega,hcr.2⟩
  have hcl:(cs++cells).length=(n+m)*es:=by rw[List.length_append,hcs,hl,Nat.add_mul]
  -- room
  have room:∀news:List Value,news.length=m*es->(∀u∈news,Value.oneCell' u=true)->(∀j (hj:j<cells.length),Rep w J ρ (news.getD j undef) cells[j])->n+m<=cap->
   (execOp a.eval ⟨dst,.call ⟨.builtin .append,#[x,y],#[t,t]⟩,ty,pos,af,g⟩).run P w= .ok (.value (.slice (some ⟨b,0,none⟩) (n+m) cap)) (w.setRow b (arr.toList.take (n*es)++news++arr.toList.drop (n*es+news.length)).toArray)->
   ∃w' v b' s',(execOp a.eval ⟨dst,.call ⟨.builtin .append,#[x,y],#[t,t]⟩,ty,pos,af,g⟩).run P w= .ok (.value v) w'/\w.heap.size<=w'.heap.size/\w'.os=w.os/\w'.tape=w.tape/\w'.output=w.output/\(b'=b\/b'=w.heap.size)/\
   (∀k,k<w.heap.size->k≠b->w'.heap[k]? =w.heap[k]?)/\
   ∀ρ':Rho,ρ' nid=some (b',s')->(∀i p,ρ i=some p->ρ' i=some p)->(∀u y,Rep w J ρ u y->Rep w' J ρ' u y)->Rep w' J ρ' v (.sl nid 0 (n+m) es)/\ObjRep w' J ρ' b' s' (.cells (cs++cells) e):=by
   intro news hnl hone hrep hroom hr
   have hfit:n*es+news.length<=arr.size:=by
    rw[hnl,<-Nat.add_mul,has,<-hsz,Nat.zero_add];exact Nat.mul_le_mul_right _ hroom
   have hsp:=hcr'.splice (avs:=cells) (vs:=news) (off:=n*es) omgz (λj hj=>⟨by
    have hj':j<news.length:=by omega
    have:news.getD j undef=news[j]:=by simp[List.getD_eq_getElem?_getD,hj']
    rw[this];exact hone _ (List.getElem_mem hj'),hrep j hj⟩) omgz hfit
   have hspl:spl cs (n*es) cells=cs++cells:=by
    unfold spl
    rw[<-hcs,List.take_length,List.drop_eq_nil_of_le omgz,List.append_nil]
   rw[hspl] at hsp
   refine⟨_,_,b,s,hr,by simp,rfl,rfl,rfl,.inl rfl,λk _ hk=>setRow_other w b k _ hk,λρ' h1' h2' hi'=>⟨.sl b s nid 0 _ es cap h1' hroom hsz,_,setRow_heap w b arr _ e _ harr,?_,?_,?_⟩⟩
   ·rw[hsp.2];exact has
   ·have:=(hsp.1.imp hi').1;rw[hsp.2,has] at this;exact this
   ·exact(hsp.1.imp hi').2
  rcases tV h (h.op y) hy hl with⟨hy0,h0,hc0⟩|⟨ad,cp,news,hyv,hmc,hnl,hnews,hone,hrep⟩
  ·subst h0;subst hc0
   refine room [] (by simp) (by simp) (λj hj=>by simp at hj) omgz ?_
   have e2:(arr.toList.take (n*es)++([]:List Value)++arr.toList.drop (n*es+([]:List Value).length)).toArray=arr:=by simp
   rw[e2,setRow_self w b arr e (0,0) harr]
   simp[execOp,resolve,invoke,builtin,hv,hy0,Builtin.append_,run_underlying (bg he),sizeOf,typeInfo,hi,Builtin.lenOf,hc,Builtin.firstCells,storeCells]
  ·by_cases hroom:n+m<=cap
   ·refine room news hnl hone hrep hroom ?_
    have hr:=run_append_room (P:=P) w t ty e i (bg he) hi b n cap arr harr ad m cp news (by rw[his];exact hnl) hnews hone hroom (by rw[hnl,his,<-Nat.add_mul,has,<-hsz,Nat.zero_add];exact Nat.mul_le_mul_right _ hroom)
    rw[his] at hr
    simp[execOp,resolve,invoke,builtin,hv,hyv,hr]
   ·obtain⟨f,hf⟩:=iA (e:=e) (b:=b) (s:=s) ⟨arr,harr,has,hcr⟩
    have holds:∀j u,((List.range cs.length).map f)[j]? =some u->w.cell? ((⟨b,0,none⟩:Addr).add j)=some u:=by
     intro j u hu
     obtain⟨hj,rfl⟩:=List.getElem?_eq_some_iff.1 hu
     have hj':j<cs.length:=by simpa using hj
     rw[Addr.add_lit,Nat.zero_add];simpa using(hf j hj').1
    have hr:=run_append_grow (P:=P) w t ty e i z (bg he) hi hz ⟨b,0,none⟩ n cap ((List.range cs.length).map f) (by simp[hcs,his]) holds ad m cp news (by rw[his];exact hnl) hnews omgz omgz (growslice_fits omgz (by rw[hb'];exact hbytes))
    have hge:=grownCap_ge w (n+m) cap e
    obtain⟨A,hA⟩:∃A,A=((List.range cs.length).map f).toArray++news.toArray++Builtin.zeroCells z.cells (grownCap w (n+m) cap e-(n+m)):=⟨_,rfl⟩
    rw[<-hA] at hr
    refine⟨w.drew.alloc (.cells A e),.slice (some ⟨w.heap.size,0,none⟩) (n+m) (grownCap w (n+m) cap e),w.heap.size,grownCap w (n+m) cap e*es,?_,?_,rfl,rfl,rfl,.inr rfl,λk hk _=>(iF.drew w _).old hk,λρ' h1' h2' hi'=>⟨.sl _ _ nid 0 _ es (grownCap w (n+m) cap e) h1' hge omgz,A,(iF.drew w _).new,?_,?_,?_⟩⟩
    ·simp[execOp,resolve,invoke,builtin,hv,hyv,hr]
    ·simp
    ·rw[hA]
     simp only[Array.size_append,List.size_toArray,size_zeroCells,hnl,hzc,hzl,List.length_map,List.length_range,hcs,<-Nat.add_mul]
     congr 1;omega
    ·rw[hcl];exact Nat.mul_le_mul_right _ hge
    ·have hall:((List.range cs.length).map f).toArray++news.toArray=(((List.range cs.length).map f)++news).toArray:=by simp
     rw[hall] at hA
     rw[hA] at*
     refine(l6 (J:=J) (ρ:=ρ') _ (kD hz1 hzc _) (by simp;omega) (λu hu=>?_) (λj hj=>?_)).2
     ·rcases List.mem_append.1 hu with hu|hu
      ·simp at hu;obtain⟨j,hj,rfl⟩:=hu;exact(hf j hj).2.1
      ·exact hone u hu
     ·refine hi' _ _ ?_
      by_cases hjc:j<cs.length
      ·rw[List.getElem_append_left hjc]
       have:(((List.range cs.length).map f)++news).getD j undef=f j:=by
        rw[List.getD_eq_getElem?_getD,List.getElem?_append_left (by simpa using hjc)];simp[hjc]
       rw[this];exact(hf j hjc).2.2
      ·rw[List.getElem_append_right omgz]
       have:(((List.range cs.length).map f)++news).getD j undef=news.getD (j-cs.length) undef:=by
        rw[List.getD_eq_getElem?_getD,List.getElem?_append_right (by simp;omega)];simp[List.getD_eq_getElem?_getD]
       rw[this];exact hrep _ (by rw[List.length_append] at hj;omega)
end
end
section
section
variable {P:Program} {dst:Option Nat} {ty:TypeId} {pos:String} {af:Array Edge} {g:Option (Nat×Bool)} {nid:Nat} {st:St}
theorem Mq{w:World} {J:Nat->Prop} {ρ:Rho} {b s off:Nat} {cs avs:List AV} {e:TypeId} {vs:List Value}(h:ObjRep w J ρ b s (.cells cs e))(hl:vs.length=avs.length)
 (h1:∀u∈vs,Value.oneCell' u=true) (h2:∀j (hj:j<avs.length),Rep w J ρ (vs.getD j undef) avs[j]) (hs:off+avs.length<=cs.length):
 ∃w',(storeCells ⟨b,off,none⟩ vs).run P w= .ok () w'/\w'.heap.size=w.heap.size/\w'.os=w.os/\w'.tape=w.tape/\w'.output=w.output/\(∀k,k≠b->w'.heap[k]? =w.heap[k]?)/\
  ((∀u y,Rep w J ρ u y->Rep w' J ρ u y)->ObjRep w' J ρ b s (.cells (spl cs off avs) e)):=by
 obtain⟨arr,ha,hsz,hcr⟩:=h
 have hcr':CRep w J ρ arr cs:=⟨by have:=hcr.1;omega,hcr.2⟩
 have hst:=run_storeCells_at P b off e vs 0 arr w ha (by have:=hcr.1;omega) h1
 simp only[Nat.add_zero] at hst
 have hsp:=hcr'.splice (avs:=avs) (vs:=vs) (off:=off) hl (λj hj=>⟨by
  have hj':j<vs.length:=by omega
  have:vs.getD j undef=vs[j]:=by simp[List.getD_eq_getElem?_getD,hj']
  rw[this];exact h1 _ (List.getElem_mem hj'),h2 j hj⟩) omgz (by have:=hcr.1;omega)
 refine⟨_,hst,by simp,rfl,rfl,rfl,λk hk=>setRow_other w b k _ hk,λhi=>⟨_,setRow_heap w b arr _ e _ ha,by rw[hsp.2];exact hsz,?_,(hsp.1.imp hi).2⟩⟩
 have:=(hsp.1.imp hi).1;rw[hsp.2,hsz] at this;exact this
end
end
section
theorem OpT.at_{P:Program} {o:Oper} {nid k:Nat} {st:St} {e:Eff}(h:OpT P o nid k st e){c:Ctx} {ρ:Rho} {D J:Nat->Prop} {a:Act} {w:World}(hs:Sim c ρ D J st a w)(hf:∀i,nid<=i->i<nid+k->¬D i){r:Option Nat} {K:Act->World->Prop} {Q:Exit->Act->World->Prop}
 (hK:∀v w' ρ' J',OD c nid k st e ρ ρ' J J' w w' v->K (a.put o.dst v) w'):o.wpIn (fen r) 0 P a w K Q:=h c ρ D J a w hs hf r K Q hK
def Vp(c:Ctx)(Q:Exit->Nat->St->Prop):Exit->Act->World->Prop:=λe a w=>∃nid st ρ J,Sim c ρ (· <nid) J st a w/\Q e nid st
def AC(P:Program)(code:Code)(Q:Exit->Nat->St->Prop)(nid:Nat)(st:St):Prop:=
 ∀(c:Ctx) (ρ:Rho) (J:Nat->Prop) (a:Act) (w:World),Sim c ρ (· <nid) J st a w->code.wpIn (fen c.rd) 0 P (Vp c Q) a w
def AL(P:Program)(ops:Array Oper)(Q:Exit->Nat->St->Prop)(rest:List Oper)(nid:Nat)(st:St):Prop:=
 ∀(c:Ctx) (ρ:Rho) (J:Nat->Prop) (a:Act) (w:World),Sim c ρ (· <nid) J st a w->wpListIn (fen c.rd) 0 P ops (Vp c Q) rest a w
section
variable {P:Program} {Q:Exit->Nat->St->Prop} {nid:Nat} {st:St}
theorem bY(h:Q .normal nid st):AC P .skip Q nid st:=λc ρ J a w hs=>wpIn_skip ⟨nid,st,ρ,J,hs,h⟩
theorem dS(h:Q .ret nid st):AC P .ret Q nid st:=λc ρ J a w hs=>wpIn_ret ⟨nid,st,ρ,J,hs,h⟩
theorem bZ{id:Nat}(h:Q (.exit id) nid st):AC P (.exit id) Q nid st:=λc ρ J a w hs=>wpIn_exit ⟨nid,st,ρ,J,hs,h⟩
def Thn(K:Nat->St->Prop)(Q:Exit->Nat->St->Prop):Exit->Nat->St->Prop
 | .normal,n,s=>K n s
 |e,n,s=>Q e n s
theorem aT{K:Nat->St->Prop} {n:Nat} {s:St}(h:K n s):Thn K Q .normal n s:=h
theorem bG{K:Nat->St->Prop} {n i:Nat} {s:St}(h:Q (.exit i) n s):Thn K Q (.exit i) n s:=h
theorem cu{K:Nat->St->Prop} {n:Nat} {s:St}(h:Q .ret n s):Thn K Q .ret n s:=h
theorem dU{x y:Code}(h:AC P x (Thn (AC P y Q) Q) nid st):AC P (.seq x y) Q nid st:=λc ρ J a w hs=>wpIn_seq (wpIn_mono (h c ρ J a w hs) λe a w ⟨n,s,r,j,h1,h2⟩=>by
 cases e with
 |normal=>exact h2 c r j a w h1
 |_=>exact⟨n,s,r,j,h1,h2⟩)
theorem Vq{o:Operand} {x y:Code}(h:∃b,st.op o= .val (.bool b)/\(b=true->AC P x Q nid st)/\(b=false->AC P y Q nid st)):AC P (.cond o x y) Q nid st:=λc ρ J a w hs=>by
 obtain⟨b,hb,ht,hf⟩:=h
 have e:=hs.op o;rw[hb] at e
 exact wpIn_cond_split (aG e) (λe=>ht e c ρ J a w hs) (λe=>hf e c ρ J a w hs)
def Blk(i:Nat)(Q:Exit->Nat->St->Prop):Exit->Nat->St->Prop
 | .exit j,n,s=>if j=i then Q .normal n s else Q (.exit j) n s
 |e,n,s=>Q e n s
theorem aU{i n:Nat} {s:St}(h:Q .normal n s):Blk i Q .normal n s:=h
theorem cK{i n:Nat} {s:St}(h:Q .ret n s):Blk i Q .ret n s:=h
theorem bH{i n:Nat} {s:St}(h:Q .normal n s):Blk i Q (.exit i) n s:=by show if i=i then _ else _;rw[if_pos rfl];exact h
theorem bu{i j n:Nat} {s:St}(hne:Nat.beq j i=false)(h:Q (.exit j) n s):Blk i Q (.exit j) n s:=by
 show if j=i then _ else _
 rw[if_neg (λe=>by subst e;rw[Nat.beq_refl] at hne;cases hne)];exact h
theorem bI{i:Nat} {x:Code}(h:AC P x (Blk i Q) nid st):AC P (.block i x) Q nid st:=λc ρ J a w hs=>wpIn_block (wpIn_mono (h c ρ J a w hs) λe a w ⟨n,s,r,j,h1,h2⟩=>by
 cases e with
 |exit k=>
  simp only[Exit.inBlock,Blk] at h2⊢
  split
  ·rename_i hk;rw[if_pos hk] at h2;exact⟨n,s,r,j,h1,h2⟩
  ·rename_i hk;rw[if_neg hk] at h2;exact⟨n,s,r,j,h1,h2⟩
 |_=>exact⟨n,s,r,j,h1,h2⟩)
def ren(τ:Nat->Nat):AV->AV
 | .val v=> .val v
 | .isl z cs n=> .isl z cs n
 | .ipt cs k=> .ipt cs k
 | .sl id off len es=> .sl (τ id) off len es
 | .pt id off=> .pt (τ id) off
 | .mp id=> .mp (τ id)
 | .yl id=> .yl (τ id)
 | .agg cs=> .agg (cs.map (ren τ))
 | .tup cs=> .tup (cs.map (ren τ))
 | .fn f cs=> .fn f (cs.map (ren τ))
 | .any=> .any
def rD(τ:Nat->Nat):aC->aC
 | .cells cs e=> .cells (cs.map (ren τ)) e
 | .map ag n l=> .map ag n (l.map λx=>(x.1,ren τ x.2))
 | .full cs e=> .full (cs.map (ren τ)) e
 | .tr H j=> .tr H j
def bnd(n:Nat):AV->Prop
 | .sl id _ _ _=>id<n
 | .pt id _=>id<n
 | .mp id=>id<n
 | .yl id=>id<n
 | .agg cs=>∀x∈cs,bnd n x
 | .tup cs=>∀x∈cs,bnd n x
 | .fn _ cs=>∀x∈cs,bnd n x
 |_=>True
def Cw(n:Nat):aC->Prop
 | .cells cs _=>∀x∈cs,bnd n x
 | .map _ _ l=>∀x∈l,bnd n x.2
 | .full cs _=>∀x∈cs,bnd n x
 | .tr _ _=>True
theorem Rep.unren{w:World} {J:Nat->Prop} {ρ ρ0:Rho} {τ:Nat->Nat} {n:Nat} {v:Value} {y:AV}(h:Rep w J ρ v y)(hρ:∀id,id<n->ρ0 id=ρ (τ id)):
 ∀{x:AV},y=ren τ x->bnd n x->Rep w J ρ0 v x:=by
 have lists:∀{vs:Array Value} {cs ds:List AV},vs.size=cs.length->cs=ds.map (ren τ)->vs.size=ds.length:=by
  intro vs cs ds h1 h2;rw[h1,h2];simp
 induction h generalizing ρ0 with
 |val v=>intro x hx _;cases x<;>simp[ren] at hx;subst hx;exact .val _
 |any v=>intro x hx _;cases x<;>simp[ren] at hx;exact .any _
 |inil=>intro x hx _;cases x<;>simp[ren] at hx;obtain⟨rfl,rfl,rfl⟩:=hx;exact .inil
 |iemp a cap=>intro x hx _;cases x<;>simp[ren] at hx;obtain⟨rfl,rfl,rfl⟩:=hx;exact .iemp a cap
 |isl b off len cap cells u hb hc h0 h1 h2 ih=>intro x hx _;cases x<;>simp[ren] at hx;obtain⟨rfl,rfl,rfl⟩:=hx;exact .isl b off _ cap _ u hb hc h0 h1 h2
 |ipt b off k cells u hb h0 h1 h2 ih=>intro x hx _;cases x<;>simp[ren] at hx;obtain⟨rfl,rfl⟩:=hx;exact .ipt b off _ _ u hb h0 h1 h2
 |sl b s id off len es cap h hc hs=>intro x hx hb;cases x<;>simp[ren] at hx;obtain⟨rfl,rfl,rfl,rfl⟩:=hx;exact .sl b s _ _ _ _ cap (by rw[hρ _ (show _<n by simpa[bnd] using hb)];exact h) hc hs
 |pt b s id off h=>intro x hx hb;cases x<;>simp[ren] at hx;obtain⟨rfl,rfl⟩:=hx;exact .pt b s _ _ (by rw[hρ _ (show _<n by simpa[bnd] using hb)];exact h)
 |mp b s id h=>intro x hx hb;cases x<;>simp[ren] at hx;subst hx;exact .mp b s _ (by rw[hρ _ (show _<n by simpa[bnd] using hb)];exact h)
 |yl b s id h=>intro x hx hb;cases x<;>simp[ren] at hx;subst hx;exact .yl b s _ (by rw[hρ _ (show _<n by simpa[bnd] using hb)];exact h)
 |agg vs cs hs h ih=>
  intro x hx hb;cases x<;>simp[ren] at hx
  rename_i ds
  simp only[bnd] at hb
  refine .agg vs ds (lists hs hx) (λj hj=>?_)
  exact ih j (by rw[hx];simpa using hj) hρ (by simp[hx]) (hb _ (List.getElem_mem hj))
 |tup vs cs hs h ih=>
  intro x hx hb;cases x<;>simp[ren] at hx
  rename_i ds
  simp only[bnd] at hb
  refine .tup vs ds (lists hs hx) (λj hj=>?_)
  exact ih j (by rw[hx];simpa using hj) hρ (by simp[hx]) (hb _ (List.getElem_mem hj))
 |fn f vs cs hs h ih=>
  intro x hx hb;cases x<;>simp[ren] at hx
  obtain⟨rfl,hx⟩:=hx
  rename_i ds
  simp only[bnd] at hb
  refine .fn _ vs ds (lists hs hx) (λj hj=>?_)
  exact ih j (by rw[hx];simpa using hj) hρ (by simp[hx]) (hb _ (List.getElem_mem hj))
theorem ObjRep.unren{w:World} {J:Nat->Prop} {ρ ρ0:Rho} {τ:Nat->Nat} {n b s:Nat} {o:aC}(h:ObjRep w J ρ b s (rD τ o))(hρ:∀id,id<n->ρ0 id=ρ (τ id))(hb:Cw n o):ObjRep w J ρ0 b s o:=by
 cases o with
 |cells cs e=>
  obtain⟨c,hc,h1,h2,h3,h4⟩:=h
  refine⟨c,hc,h1,by simpa using h2,λj hj=>⟨(h3 j (by simpa using hj)).1,?_⟩,h4⟩
  exact(h3 j (by simpa using hj)).2.unren hρ (by simp) (hb _ (List.getElem_mem hj))
 |map ag kn l=>
  obtain⟨ms,k,hc,h1,h2⟩:=h
  refine⟨ms,k,hc,by simpa using h1,λj hj=>?_⟩
  have h3:=h2 j (by simpa using hj)
  have h4:=hb _ (List.getElem_mem hj)
  exact⟨by simpa using h3.1,h3.2.unren hρ (by simp) h4⟩
 |full cs e=>
  obtain⟨c,hc,h1,h2,h3,h4⟩:=h
  refine⟨c,hc,h1,by simpa using h2,λj hj=>⟨(h3 j (by simpa using hj)).1,?_⟩,h4⟩
  exact(h3 j (by simpa using hj)).2.unren hρ (by simp) (hb _ (List.getElem_mem hj))
 |tr H j=>exact h
structure Sub(σ:List Nat)(st0 st:St):Prop where
 n:st0.n=st.n
 env:∀p∈st0.env,p.2= .any\/st.ev p.1=ren (σ.getD · 0) p.2
 ebnd:∀p∈st0.env,bnd σ.length p.2
 obj:∀p∈st0.objs,∀o,p.2=some o->p.1<σ.length/\st.ob (σ.getD p.1 0)=some (rD (σ.getD · 0) o)/\Cw σ.length o
 inj:σ.Nodup
 m:st0.m=st.m
 pin:σ.take st.m=List.range st.m
theorem Sub.sim{σ:List Nat} {st0 st:St} {c:Ctx} {ρ:Rho} {D J:Nat->Prop} {a:Act} {w:World}(h:Sub σ st0 st)(hs:Sim c ρ D J st a w):
 Sim c (λi=>if i<σ.length then ρ (σ.getD i 0) else none) (· <σ.length) J st0 a w:=by
 have hρ:∀id,id<σ.length->(λi=>if i<σ.length then ρ (σ.getD i 0) else none) id=ρ (σ.getD id 0):=λid hid=>by simp[hid]
 have hob:∀id o,st0.ob id=some o->id<σ.length/\st.ob (σ.getD id 0)=some (rD (σ.getD · 0) o)/\Cw σ.length o:=by
  intro id o ho
  unfold St.ob at ho
  cases hl:aQ st0.objs id with
  |none=>simp[hl] at ho
  |some x=>rw[hl] at ho;exact h.obj _ (kT hl) o (by simpa using ho)
 refine⟨hs.defers,by rw[hs.tmps,h.n],?_,?_,?_,?_,hs.jok,hs.jlt,hs.ilt,?_,hs.kept,hs.hid_of (σ.getD · 0) (λid o ho=>?_) (λid id' H H' j j' h1 h2 e=>?_) (λb hb=> .inl hb),hs.laid⟩
 ·intro t
  unfold St.ev
  cases hl:aQ st0.env t with
  |none=>exact .any _
  |some x=>
   have hm:=kT hl
   rcases h.env _ hm with he|he
   ·simp only[Option.getD_some];simp only at he;rw[he];exact .any _
   ·have:=hs.env t
    simp only at he
    exact this.unren hρ he (h.ebnd _ hm)
 ·intro id o ho
  obtain⟨h1,h2,h3⟩:=hob id o ho
  obtain⟨b,s,k1,k2,k3,k4⟩:=hs.obj _ _ h2
  exact⟨b,s,(hρ id h1).trans k1,k2.unren hρ h3,k3,k4⟩
 ·intro id id' o o' b s s' ho ho' hr hr'
  obtain⟨h1,h2,_⟩:=hob id o ho
  obtain⟨h1',h2',_⟩:=hob id' o' ho'
  replace hr:=(hρ id h1).symm.trans hr;replace hr':=(hρ id' h1').symm.trans hr'
  have:=hs.inj _ _ _ _ b s s' h2 h2' hr hr'
  simp only[List.getD_eq_getElem?_getD,List.getElem?_eq_getElem h1,List.getElem?_eq_getElem h1',Option.getD_some] at this
  exact(List.getElem_inj h.inj).1 this
 ·intro id p hp
  refine Classical.byContradiction λhn=>?_
  have:(λi=>if i<σ.length then ρ (σ.getD i 0) else none) id=none:=if_neg hn
  have hx:=this.symm.trans hp
  cases hx
 ·intro j hj
  rw[h.m] at hj
  obtain⟨p,h1,h2⟩:=hs.pin j hj
  have hlen:st.m<=σ.length:=by have:=congrArg List.length h.pin;simp at this;omega
  have hj2:σ.getD j 0=j:=by
   have:=congrArg (·[j]?) h.pin
   simp only[List.getElem?_take_of_lt hj] at this
   rw[List.getElem?_range hj] at this
   simp[List.getD_eq_getElem?_getD,this]
  exact⟨p,h1,(hρ j omgz).trans (by rw[hj2];exact h2)⟩
 ·obtain⟨h1,h2,_⟩:=hob id o ho
  refine⟨_,h2,λH j e=>by subst e;rfl,hρ id h1⟩
 ·have g1:=(hob _ _ h1).1;have g2:=(hob _ _ h2).1
  simp only[List.getD_eq_getElem?_getD,List.getElem?_eq_getElem g1,List.getElem?_eq_getElem g2,Option.getD_some] at e
  exact(List.getElem_inj h.inj).1 e
theorem Vr{code:Code} {ι:Type}(σ:List Nat)(m:Nat)(I:ι->St)(μ:ι->Nat)(i0:ι)(hm:σ.length=m)(h0:Sub σ (I i0) st)
 (round:∀i,AC P code (Thn (λ_ s=>∃(σ':List Nat) (j:ι),σ'.length=m/\Sub σ' (I j) s/\μ j<μ i) Q) m (I i)):AC P (.loop code) Q nid st:=λc ρ J a w hs=>by
 refine wpIn_loop_ghost (λn a w=>∃i ρ J,Sim c ρ (· <m) J (I i) a w/\μ i=n) (μ i0) ⟨i0,_,J,hm▸h0.sim hs,rfl⟩ ?_
 rintro n a w ⟨i,ρ,J,hs,rfl⟩
 refine wpIn_mono (round i c ρ J a w hs) ?_
 rintro e a' w' ⟨nid',st',ρ',J',hs',hq⟩
 cases e with
 |normal=>
  obtain⟨σ',j,hl,hsub,hlt⟩:=hq
  exact⟨μ j,hlt,j,_,J',hl▸hsub.sim hs',rfl⟩
 |_=>exact⟨nid',st',ρ',J',hs',hq⟩
theorem dV{ops:Array Oper}(h:Q .normal nid st):AL P ops Q [] nid st:=λc ρ J a w hs=>wpListIn_nil ⟨nid,st,ρ,J,hs,h⟩
theorem Mr{id:Nat} {ops:Array Oper}(h:AL P ops Q ops.toList nid st):AC P (.region id ops false) Q nid st:=λc ρ J a w hs=>wpIn_region_list (h c ρ J a w hs)
theorem aJ{id:Nat} {l:List Oper}(h:AL P l.toArray Q l nid st):AC P (.region id l.toArray false) Q nid st:=Mr (by simpa using h)
def lu(n:Nat):Option Nat->Bool
 |some d=>d<n
 |none=>true
theorem yP{n:Nat} {dst:Option Nat}(h:lu n dst=true):∀d,dst=some d->d<n:=by
 intro d hd;subst hd;simpa[lu] using h
theorem ab1{ops:Array Oper} {rest:List Oper} {dst:Option Nat} {op:Op} {ty:TypeId} {pos:String} {af:Array Edge} {k:Nat} {e:Eff}
 (ho:OpT P ⟨dst,op,ty,pos,af,none⟩ nid k st e) (hd:lu st.n dst=true) (h:AL P ops Q rest (nid+k) (st.app dst e)):AL P ops Q (⟨dst,op,ty,pos,af,none⟩::rest) nid st:=λc ρ J a w hs=>by
 refine wpListIn_plain rfl λK hK=>ho.at_ hs (λi h1 h2 h3=>by omega) λv w' ρ' J' p=>hK _ _ ?_
 exact h c ρ' J' _ w' (hs.app p (yP hd) (λi hi=>by rcases hi with hi|hi<;>omega))
def rM(ops:Array Oper)(j:Nat):Option Nat:=(ops[j]?).bind (·.dst)
theorem sF{c:Ctx} {ρ:Rho} {D J:Nat->Prop} {a:Act} {w:World}(hs:Sim c ρ D J st a w){ops:Array Oper} {j t:Nat} {b:Bool}(ht:rM ops j=some t)(hb:st.ev t= .val (.bool b))(hn:t<st.n):yielded ops a.tmps j=some b:=by
 have:=hs.env t
 rw[hb] at this
 have e:=aG this
 have htn:t<a.tmps.size:=by rw[hs.tmps];exact hn
 have e':a.tmps[t]? =some (.bool b):=by
  rw[Array.getElem?_eq_getElem htn]
  simpa[Array.getD,htn] using e
 unfold yielded rM at*
 rw[ht,Option.bind_some,e']
def noV:AV:= .val undef
theorem ED{c:Ctx} {ρ:Rho} {D J:Nat->Prop} {a:Act} {w:World}(hs:Sim c ρ D J st a w){ops:Array Oper} {j t:Nat}(ht:rM ops j=some t)(hb:st.ev t=noV)(hn:t<st.n):yielded ops a.tmps j=none:=by
 have:=hs.env t
 rw[hb] at this
 have e:=aG this
 have htn:t<a.tmps.size:=by rw[hs.tmps];exact hn
 have e':a.tmps[t]? =some undef:=by
  rw[Array.getElem?_eq_getElem htn]
  simpa[Array.getD,htn] using e
 unfold yielded rM at*
 rw[ht,Option.bind_some,e']
 rfl
theorem Sim.skip{c:Ctx} {ρ:Rho} {D J:Nat->Prop} {a:Act} {w:World}(hs:Sim c ρ D J st a w)(dst:Option Nat)(hd:lu st.n dst=true):Sim c ρ D J (st.put dst noV) (a.put dst undef) w:=by
 have p:OD c 0 0 st ⟨noV,[]⟩ ρ ρ J J w w undef:=⟨Nat.le_refl _,rfl,rfl,rfl,λ_ _ _ _=>rfl,λ_ _ h=>h,λ_ _ h=> .inl h,λ_ h=>h,λ_ h=> .inl h,.val _,λid o h=>by simp[aQ] at h,λid id' o o' b s s' h=>by simp[aQ] at h,λh=>absurd h lX⟩
 have:=hs.app (dst:=dst) (D':=D) p (yP hd) (λi hi=>by rcases hi with hi|hi;exact hi;omega)
 have e:st.app dst ⟨noV,[]⟩=st.put dst noV:=by cases dst<;>rfl
 rw[e] at this;exact this
theorem Vs{ops:Array Oper} {rest:List Oper} {dst:Option Nat} {op:Op} {ty:TypeId} {pos:String} {af:Array Edge} {j t:Nat} {b:Bool}
 (ht:rM ops j=some t) (hb:st.ev t= .val (.bool !b)) (hn:t<st.n) (hd:lu st.n dst=true) (h:AL P ops Q rest nid (st.put dst noV)):AL P ops Q (⟨dst,op,ty,pos,af,some (j,b)⟩::rest) nid st:=λc ρ J a w hs=>by
 refine wpListIn_step λK hK=>?_
 have hy:=sF hs ht hb hn
 rw[if_neg (by simp[Region.wanted,hy])]
 exact⟨λ_ _=>trivial,hK _ _ (h c ρ J _ w (hs.skip dst hd))⟩
theorem OM{ops:Array Oper} {rest:List Oper} {dst:Option Nat} {op:Op} {ty:TypeId} {pos:String} {af:Array Edge} {j t:Nat} {b:Bool}
 (ht:rM ops j=some t) (hb:st.ev t=noV) (hn:t<st.n) (hd:lu st.n dst=true) (h:AL P ops Q rest nid (st.put dst noV)):AL P ops Q (⟨dst,op,ty,pos,af,some (j,b)⟩::rest) nid st:=λc ρ J a w hs=>by
 refine wpListIn_step λK hK=>?_
 have hy:=ED hs ht hb hn
 rw[if_neg (by simp[Region.wanted,hy])]
 exact⟨λ_ _=>trivial,hK _ _ (h c ρ J _ w (hs.skip dst hd))⟩
def gAV(b:Bool)(x:AV)(K1 K2:Prop):Prop:=(∃b',x= .val (.bool b')/\(b'=b->K1)/\(b'=(!b)->K2))\/(x=noV/\K2)
theorem ac6{b b':Bool} {K1 K2:Prop}:gAV b (.val (.bool b')) K1 K2=((b'=b->K1)/\(b'=(!b)->K2)):=by
 unfold gAV
 refine propext ⟨λh=>?_,λh=> .inl ⟨b',rfl,h⟩⟩
 rcases h with⟨b'',h1,h2⟩|⟨h1,h2⟩
 ·cases h1;exact h2
 ·cases h1
theorem g_no{b:Bool} {K1 K2:Prop}:gAV b noV K1 K2=K2:=by
 unfold gAV
 refine propext ⟨λh=>?_,λh=> .inr ⟨rfl,h⟩⟩
 rcases h with⟨b'',h1,h2⟩|⟨h1,h2⟩
 ·cases h1
 ·exact h2
def ACall(P:Program)(f:FuncId)(args:List AV)(objs:List aC)(m:Nat)(r:AV)(objs':List aC):Prop:=
 ∀(w:World) (A I:Nat->Prop) (ρ:Rho) (vs:Array Value),vs.size=args.length->(∀j (h:j<args.length),Rep w A ρ (vs.getD j undef) args[j])->
  (∀b,A b->b<w.heap.size/\¬I b)->(∀b,I b->b<w.heap.size)->
  (∀j (h:j<objs.length),∃b s,ρ j=some (b,s)/\I b/\ObjRep w A ρ b s objs[j])->(∀j p,ρ j=some p->j<objs.length)->
  (∀i j b s s',ρ i=some (b,s)->ρ j=some (b,s')->i=j)->Hid ⟨w,A,I,ρ,none,λH=>H∈trs objs⟩ A (λj=>objs[j]?) ρ w->Laid A w->
  Calls P f vs w λe w'=>∃v ρ' J',e= .returned v/\Rep w' J' ρ' v r/\(∀b,J' b->b<w'.heap.size/\(A b\/I b\/w.heap.size<=b))/\ah5 ⟨w,A,I,ρ,none,λH=>H∈trs objs⟩ w'/\
   (∀j,j<m->ρ' j=ρ j)/\(∀j p,ρ' j=some p->j<objs'.length)/\
   (∀j (h:j<objs'.length),∃b s,ρ' j=some (b,s)/\ObjRep w' J' ρ' b s objs'[j]/\(I b\/w.heap.size<=b)/\¬J' b)/\
   (∀i j b s s',ρ' i=some (b,s)->ρ' j=some (b,s')->i=j)/\Hid ⟨w,A,I,ρ,none,λH=>H∈trs objs⟩ J' (λj=>objs'[j]?) ρ' w'
def fK(P:Program)(st:St):ResultVar->Option AV
 | .tmp t=>some (st.ev t)
 | .cell x t=>match st.ev x with
   | .pt id off=>match st.ob id,jy P t,siz P t with
     |some (.cells cs _),some true,some n=>if off+n<=cs.length then some (.agg ((cs.drop off).take n)) else none
     |some (.cells cs _),some false,_=>cs[off]?
     |_,_,_=>none
   |_=>none
def dY(P:Program)(st:St)(rs:List ResultVar):Option AV:=match rs.mapM (fK P st) with
 |some [x]=>some x
 |some l=>some (.tup l)
 |none=>none
def yQ(tmps:Array Value):ResultVar->Sem Value
 | .tmp t=>pure (tmps.getD t undef)
 | .cell y t=>do loadVar t (<-asAddr (tmps.getD y undef))
theorem Ms{c:Ctx} {ρ:Rho} {D J:Nat->Prop} {a:Act} {w:World}(hs:Sim c ρ D J st a w){rv:ResultVar} {x:AV}(h:fK P st rv=some x):
 ∃v,(yQ a.tmps rv).run P w= .ok v w/\Rep w J ρ v x:=by
 cases rv with
 |tmp t=>simp only[fK,Option.some.injEq] at h;subst h;exact⟨_,rfl,hs.env t⟩
 |cell y t=>
  simp only[fK] at h
  have hy:=hs.env y
  split at h
  ·rename_i id off he
   rw[he] at hy
   generalize hv:a.tmps.getD y undef=v at hy
   cases hy with
   |pt b s _ _ hρ=>
    split at h
    ·rename_i cs e n h1 h2 h3
     split at h
     ·rename_i hle
      simp only[Option.some.injEq] at h;subst h
      obtain⟨b',s',hρ',hob,_⟩:=hs.obj _ _ h1
      rw[hρ] at hρ';cases hρ'
      obtain⟨u,hu⟩:=iA hob
      obtain⟨vs,hr,hrep⟩:=jJ (P:=P) (w:=w) (J:=J) (ρ:=ρ) (b:=b) (off:=off) (n:=n) (cs:=(cs.drop off).take n) (λj=>u (off+j)) (λj hj=>by
       simp at hj
       have:=hu (off+j) omgz
       exact⟨this.1,by simpa using this.2.2⟩) (by simp;omega)
      exact⟨.agg vs,by simp only[yQ,hv];simp[asAddr,loadVar,fq h2,dx h3,hr],hrep⟩
     ·cases h
    ·rename_i cs e z h1 h2
     obtain⟨b',s',hρ',hob,_⟩:=hs.obj _ _ h1
     rw[hρ] at hρ';cases hρ'
     obtain⟨u,hu⟩:=iA hob
     obtain⟨hlt,rfl⟩:=List.getElem?_eq_some_iff.1 h
     exact⟨u off,by simp only[yQ,hv];simp[asAddr,loadVar,fq h2,(hu off hlt).1],(hu off hlt).2.2⟩
    ·cases h
  ·cases h
theorem EE{c:Ctx} {ρ:Rho} {D J:Nat->Prop} {a:Act} {w:World}(hs:Sim c ρ D J st a w){fn:Func} {x:AV}(h:dY P st fn.results.toList=some x):
 ∃v,(results fn a.tmps).run P w= .ok v w/\Rep w J ρ v x:=by
 have key:∀(l:List ResultVar) (xs:List AV),l.mapM (fK P st)=some xs->∃vs:List Value,(l.mapM (yQ a.tmps)).run P w= .ok vs w/\
  vs.length=xs.length/\∀j (hj:j<xs.length),Rep w J ρ (vs.getD j undef) xs[j]:=by
  intro l
  induction l with
  |nil=>intro xs h;simp at h;subst h;exact⟨[],rfl,rfl,λj hj=>by simp at hj⟩
  |cons rv l ih=>
   intro xs h
   simp only[List.mapM_cons,Option.bind_eq_bind,Option.bind_eq_some_iff] at h
   obtain⟨y,hy,ys,hys,he⟩:=h
   simp at he;subst he
   obtain⟨v,h1,h2⟩:=Ms (P:=P) hs hy
   obtain⟨vs,h3,h4,h5⟩:=ih ys hys
   refine⟨v::vs,?_,by simp[h4],λj hj=>?_⟩
   ·rw[List.mapM_cons,Sem.run_bind,h1,Result.andThen_ok,Sem.run_bind,h3,Result.andThen_ok];rfl
   ·cases j with
    |zero=>simpa using h2
    |succ j=>simpa using h5 j (by simpa using hj)
 unfold dY at h
 cases hm:fn.results.toList.mapM (fK P st) with
 |none=>simp[hm] at h
 |some xs=>
  obtain⟨vs,h1,h2,h3⟩:=key _ _ hm
  have hrun:(results fn a.tmps).run P w= .ok (if h:vs.toArray.size=1 then vs.toArray[0] else .tuple vs.toArray) w:=by
   show(do let vs<-fn.results.mapM (yQ a.tmps);pure (if h:vs.size=1 then vs[0] else .tuple vs):Sem Value).run P w=_
   rw[Array.mapM_eq_mapM_toList,Sem.run_bind,Sem.run_map]
   rw[h1]
   simp only[Result.andThen_ok,Sem.run_pure]
  refine⟨_,hrun,?_⟩
  rw[hm] at h
  match xs,vs,h2,h3,h with
  |[x'],[v'],_,h3,h=>
   simp only[Option.some.injEq] at h;subst h
   simpa using h3 0 (by simp)
  |[],[],_,h3,h=>
   simp only[Option.some.injEq] at h;subst h
   exact .tup _ _ rfl (λj hj=>by simp at hj)
  |x1::x2::l,vs,h2,h3,h=>
   simp only[Option.some.injEq] at h;subst h
   have hne:¬vs.toArray.size=1:=by simp at h2⊢;omega
   rw[dif_neg hne]
   exact .tup _ _ (by simpa using h2) (λj hj=>by simpa[Array.getD_eq_getD_getElem?,List.getD_eq_getElem?_getD] using h3 j hj)
end
end
section
def idx{α:Type}:Nat->List α->List (Nat×α)
 |_,[]=>[]
 |k,x::l=>(k,x)::idx (k+1) l
theorem tY{α:Type}(l:List α):∀(k t:Nat),aQ (idx k l) t=if k<=t then l[t-k]? else none:=by
 induction l with
 |nil=>intro k t;simp[idx,aQ]
 |cons x l ih=>
  intro k t
  simp only[idx,aQ,ih]
  by_cases h:t=k
  ·subst h;simp
  ·rw[if_neg h]
   by_cases h2:k+1<=t
   ·rw[if_pos h2,if_pos omgz,show t-k=(t-(k+1))+1 by omega];simp
   ·rw[if_neg h2,if_neg omgz]
theorem JZ{α:Type} {l:List α} {k:Nat} {p:Nat×α}(h:p∈idx k l):k<=p.1/\l[p.1-k]? =some p.2:=by
 induction l generalizing k with
 |nil=>simp[idx] at h
 |cons x l ih=>
  simp only[idx,List.mem_cons] at h
  rcases h with rfl|h
  ·simp
  ·obtain⟨h1,h2⟩:=ih h
   exact⟨omgz,by rw[show p.1-k=(p.1-(k+1))+1 by omega];simpa using h2⟩
def oU(n m:Nat)(args:List AV)(objs:List aC):St:=⟨n,m,idx 0 args,(idx 0 objs).map λp=>(p.1,some p.2)⟩
theorem OO{α β:Type}(f:α->β)(l:List (Nat×α))(t:Nat):aQ (l.map λp=>(p.1,f p.2)) t=(aQ l t).map f:=by
 induction l with
 |nil=>rfl
 |cons x l ih=>simp only[List.map_cons,aQ,ih];split<;>rfl
theorem OP(n m:Nat)(args:List AV)(objs:List aC)(t:Nat):(oU n m args objs).ev t=(args[t]?).getD .any:=by
 simp[oU,St.ev,tY]
theorem pg(n m:Nat)(args:List AV)(objs:List aC)(t:Nat):(oU n m args objs).ob t=objs[t]? :=by
 simp only[oU,St.ob,OO,tY]
 cases h:objs[t]? <;>simp[h]
theorem Rep.closed{w:World} {J:Nat->Prop} {ρ ρ':Rho} {v:Value} {x:AV}(h:Rep w J ρ v x)(hn:bnd 0 x):Rep w J ρ' v x:=by
 induction h generalizing ρ' with
 |val v=>exact .val v
 |any v=>exact .any v
 |inil=>exact .inil
 |iemp a cap=>exact .iemp a cap
 |isl b off len cap cells u hb hc h0 h1 h2 ih=>exact .isl b off len cap cells u hb hc h0 h1 h2
 |ipt b off k cells u hb h0 h1 h2 ih=>exact .ipt b off k cells u hb h0 h1 h2
 |sl b s id off len es cap h hc hs=>simp[bnd] at hn
 |pt b s id off h=>simp[bnd] at hn
 |mp b s id h=>simp[bnd] at hn
 |yl b s id h=>simp[bnd] at hn
 |agg vs cs hs h ih=>simp only[bnd] at hn;exact .agg vs cs hs (λj hj=>ih j hj (hn _ (List.getElem_mem hj)))
 |tup vs cs hs h ih=>simp only[bnd] at hn;exact .tup vs cs hs (λj hj=>ih j hj (hn _ (List.getElem_mem hj)))
 |fn f vs cs hs h ih=>simp only[bnd] at hn;exact .fn f vs cs hs (λj hj=>ih j hj (hn _ (List.getElem_mem hj)))
def bP(id:Nat)(cs:List AV):AV->AV
 | .sl i off len es=>if i=id then .isl false ((cs.drop off).take (len*es)) len else .sl i off len es
 | .pt i off=>if i=id then .ipt cs off else .pt i off
 | .agg l=> .agg (l.map (bP id cs))
 | .tup l=> .tup (l.map (bP id cs))
 | .fn f l=> .fn f (l.map (bP id cs))
 | .val v=> .val v
 | .isl z l n=> .isl z l n
 | .ipt l k=> .ipt l k
 | .mp i=> .mp i
 | .yl i=> .yl i
 | .any=> .any
def w9(id:Nat)(cs:List AV):aC->aC
 | .cells l e=> .cells (l.map (bP id cs)) e
 | .map ag n l=> .map ag n (l.map λx=>(x.1,bP id cs x.2))
 | .full l e=> .full (l.map (bP id cs)) e
 | .tr H j=> .tr H j
def St.frz(id:Nat)(cs:List AV)(st:St):St:=⟨st.n,st.m,st.env.map (λp=>(p.1,bP id cs p.2)),(id,none)::st.objs.map λp=>(p.1,p.2.map (w9 id cs))⟩
def Frz(st st':St):Prop:=∀(c:Ctx) (ρ:Rho) (D J:Nat->Prop) (a:Act) (w:World),Sim c ρ D J st a w->∃J',Sim c ρ D J' st' a w
theorem Frz.refl(st:St):Frz st st:=λ_ _ _ J _ _ h=>⟨J,h⟩
theorem Frz.trans{st1 st2 st3:St}(h1:Frz st1 st2)(h2:Frz st2 st3):Frz st1 st3:=λc ρ D J a w h=>by
 obtain⟨J',h'⟩:=h1 c ρ D J a w h
 exact h2 c ρ D J' a w h'
theorem EF{β:Type}(f:β->β)(l:List (Nat×β))(t:Nat):aQ (l.map λp=>(p.1,f p.2)) t=(aQ l t).map f:=by
 induction l with
 |nil=>rfl
 |cons x l ih=>simp only[List.map_cons,aQ,ih];split<;>rfl
theorem Rep.frz{w:World} {J J':Nat->Prop} {ρ:Rho} {id b s:Nat} {cs:List AV} {u:Nat->Value}(hJ:∀b,J b->J' b)(hb:J' b)(hid:ρ id=some (b,s))(hlt:b<w.heap.size)(h0:∀j,j<cs.length->(u j).oneCell'=true)
 (h1:∀j,j<cs.length->w.cell? ⟨b,j,none⟩=some (u j)) (h2:∀j (h:j<cs.length),Rep w J' (λ_=>none) (u j) cs[j]) {v:Value} {x:AV} (h:Rep w J ρ v x):Rep w J' ρ v (bP id cs x):=by
 have mono:∀{ρ:Rho} {v:Value} {x:AV},Rep w J ρ v x->Rep w J' ρ v x:=λh=>h.mono (λb hb _=>⟨hJ b hb,rfl⟩) (Nat.le_refl _) (λ_ _ h=>h)
 induction h with
 |val v=>unfold bP;exact .val v
 |any v=>unfold bP;exact .any v
 |inil=>unfold bP;exact .inil
 |iemp a cap=>unfold bP;exact .iemp a cap
 |isl b off len cap cells u hb hc k0 k1 k2 ih=>unfold bP;exact mono (.isl b off len cap cells u hb hc k0 k1 k2)
 |ipt b off k cells u hb k0 k1 k2 ih=>unfold bP;exact mono (.ipt b off k cells u hb k0 k1 k2)
 |sl b' s' id' off len es cap h hc hs=>
  unfold bP
  split
  ·rename_i e;subst e
   rw[hid] at h;cases h
   refine .isl b off len cap _ (λi=>u (off+i)) (λ_=>⟨hb,hlt⟩) hc (λi hi=>?_) (λi hi=>?_) (λi hi=>?_)
   ·simp at hi;exact h0 _ omgz
   ·simp at hi;exact h1 _ omgz
   ·simp at hi
    have:=h2 (off+i) omgz
    simpa using this
  ·exact .sl b' s' id' off len es cap h hc hs
 |pt b' s' id' off h=>
  unfold bP
  split
  ·rename_i e;subst e
   rw[hid] at h;cases h
   have:=Rep.ipt (w:=w) (J:=J') (ρ:=by assumption) b 0 off cs u (λ_=>⟨hb,hlt⟩) h0 (λj hj=>by simpa using h1 j hj) h2
   simpa using this
  ·exact .pt b' s' id' off h
 |mp b s id h=>unfold bP;exact .mp b s id h
 |yl b s id h=>unfold bP;exact .yl b s id h
 |agg vs cs hs _ ih=>unfold bP;exact .agg vs _ (by simpa using hs) (λj hj=>by simpa using ih j (by simpa using hj) hid)
 |tup vs cs hs _ ih=>unfold bP;exact .tup vs _ (by simpa using hs) (λj hj=>by simpa using ih j (by simpa using hj) hid)
 |fn f vs cs hs _ ih=>unfold bP;exact .fn f vs _ (by simpa using hs) (λj hj=>by simpa using ih j (by simpa using hj) hid)
theorem Frz.one{st:St} {id:Nat} {cs:List AV} {e:TypeId}(ho:st.ob id=some (.cells cs e))(hc:∀x∈cs,bnd 0 x):Frz st (st.frz id cs):=by
 intro c ρ D J a w hs
 obtain⟨b,s,k1,k2,k3,k4⟩:=hs.obj _ _ ho
 obtain⟨u,hu⟩:=iA k2
 let J':Nat->Prop:=λb'=>J b'\/b'=b
 have hJ:∀b,J b->J' b:=λ_ h=> .inl h
 have mono:∀{ρ:Rho} {v:Value} {x:AV},Rep w J ρ v x->Rep w J' ρ v x:=λh=>h.mono (λb hb _=>⟨hJ b hb,rfl⟩) (Nat.le_refl _) (λ_ _ h=>h)
 have rep:∀{v:Value} {x:AV},Rep w J ρ v x->Rep w J' ρ v (bP id cs x):=λh=>
  Rep.frz (u:=u) hJ (.inr rfl) k1 k2.lt (λj hj=>(hu j hj).2.1) (λj hj=>(hu j hj).1) (λj hj=>mono ((hu j hj).2.2.closed (hc _ (List.getElem_mem hj)))) h
 have hob:∀id',(st.frz id cs).ob id'=if id'=id then none else(st.ob id').map (w9 id cs):=λid'=>by
  show(aQ ((id,none)::st.objs.map λp=>(p.1,p.2.map (w9 id cs))) id').join=_
  simp only[aQ]
  by_cases e:id'=id
  ·simp[e]
  ·rw[if_neg e,if_neg e,EF (f:=Option.map (w9 id cs))]
   unfold St.ob
   cases aQ st.objs id' with
   |none=>rfl
   |some o=>cases o<;>rfl
 refine⟨J',hs.defers.same (λD d1 d2=>⟨rfl,.inl d1⟩),hs.tmps,λt=>?_,λid' o hi=>?_,λi1 i2 o1 o2 b s s' g1 g2 g3 g4=>?_,hs.dom,λb' hb'=>?_,λb' hb'=>?_,hs.ilt,hs.pin,hs.kept,
  hs.hid_of (λi=>i) (λid' o hi=>?_) (λ_ _ _ _ _ _ _ _ e=>e) (λb' hb'=>?_),hs.laid.mono (λb h _=>⟨.inl h,rfl⟩) (Nat.le_refl _)⟩
 ·have:=rep (hs.env t)
  have e:(st.frz id cs).ev t=bP id cs (st.ev t):=by
   show(aQ (st.env.map λp=>(p.1,bP id cs p.2)) t).getD .any=_
   rw[EF]
   unfold St.ev
   cases aQ st.env t with
   |none=>simp[bP]
   |some v=>rfl
  rw[e];exact this
 ·rw[hob] at hi
  split at hi
  ·cases hi
  ·rename_i hne
   cases hk:st.ob id' with
   |none=>rw[hk] at hi;cases hi
   |some o0=>
    rw[hk] at hi;cases hi
    obtain⟨b',s',g1,g2,g3,g4⟩:=hs.obj _ _ hk
    refine⟨b',s',g1,?_,g3,?_⟩
    ·cases o0 with
     |cells l e=>
      obtain⟨c,q1,q2,q3,q4,q5⟩:=g2
      exact⟨c,q1,q2,by simpa using q3,λj hj=>⟨(q4 j (by simpa using hj)).1,by simpa using rep (q4 j (by simpa using hj)).2⟩,q5⟩
     |map ag kn l=>
      obtain⟨ms,cl,q1,q2,q3⟩:=g2
      exact⟨ms,cl,q1,by simpa using q2,λj hj=>⟨by simpa using(q3 j (by simpa using hj)).1,by simpa using rep (q3 j (by simpa using hj)).2⟩⟩
     |full l e=>
      obtain⟨c,q1,q2,q3,q4,q5⟩:=g2
      exact⟨c,q1,q2,by simpa using q3,λj hj=>⟨(q4 j (by simpa using hj)).1,by simpa using rep (q4 j (by simpa using hj)).2⟩,q5⟩
     |tr H j=>exact g2
    ·rintro(h|h)
     ·exact g4 h
     ·subst h;exact hne (hs.inj _ _ _ _ _ _ _ hk ho g1 k1)
 ·rw[hob] at g1 g2
  split at g1
  ·cases g1
  ·split at g2
   ·cases g2
   ·cases h1:st.ob i1 with
    |none=>rw[h1] at g1;cases g1
    |some x1=>cases h2:st.ob i2 with
     |none=>rw[h2] at g2;cases g2
     |some x2=>exact hs.inj _ _ _ _ _ _ _ h1 h2 g3 g4
 ·rcases hb' with h|h
  ·exact hs.jok _ h
  ·subst h;exact .inr k3
 ·rcases hb' with h|h
  ·exact hs.jlt _ h
  ·subst h;exact k2.lt
 ·rw[hob] at hi
  split at hi
  ·cases hi
  ·cases hk:st.ob id' with
   |none=>rw[hk] at hi;cases hi
   |some o0=>
    rw[hk] at hi;cases hi
    refine⟨o0,rfl,λH j e=>?_,rfl⟩
    cases o0<;>simp[w9] at e⊢
    exact e
 ·rcases hb' with h|h
  ·exact .inl h
  ·subst h;exact .inr ⟨id,_,s,ho,k1⟩
def Ends(P:Program)(fn:Func)(objs:List aC)(m:Nat)(r:AV)(objs':List aC)(e:Exit)(st:St):Prop:=
 (e= .normal\/e= .ret)/\∃(st':St) (σ:List Nat),Frz st st'/\Sub σ ⟨st'.n,st'.m,[],(idx 0 objs').map λp=>(p.1,some p.2)⟩ st'/\σ.length=objs'.length/\st'.m=m/\
   dY P st' fn.results.toList=some (ren (σ.getD · 0) r)/\bnd σ.length r
section
variable {P:Program}
def IsC(w:World)(b:Nat):Prop:=∃o:Obj,w.heap[b]? =some o/\o.isCells=true
theorem Rep.cut{w:World} {J:Nat->Prop} {ρ:Rho} {v:Value} {x:AV}(h:Rep w J ρ v x):Rep w (λb=>J b/\IsC w b) ρ v x:=by
 have key:∀{cells:List AV} {b off:Nat} {u:Nat->Value},(cells≠[]->J b/\b<w.heap.size)->(∀j,j<cells.length->w.cell? ⟨b,off+j,none⟩=some (u j))->cells≠[]->(J b/\IsC w b)/\b<w.heap.size:=by
  intro cells b off u hb h1 hne
  refine⟨⟨(hb hne).1,?_⟩,(hb hne).2⟩
  have:=h1 0 (List.length_pos_iff.2 hne)
  exact cells_of_cell this
 induction h with
 |val v=>exact .val v
 |any v=>exact .any v
 |inil=>exact .inil
 |iemp a cap=>exact .iemp a cap
 |isl b off len cap cells u hb hc h0 h1 h2 ih=>exact .isl b off len cap cells u (key hb h1) hc h0 h1 ih
 |ipt b off k cells u hb h0 h1 h2 ih=>exact .ipt b off k cells u (key hb h1) h0 h1 ih
 |sl b s id off len es cap h hc hs=>exact .sl b s id off len es cap h hc hs
 |pt b s id off h=>exact .pt b s id off h
 |mp b s id h=>exact .mp b s id h
 |yl b s id h=>exact .yl b s id h
 |agg vs cs hs h ih=>exact .agg vs cs hs ih
 |tup vs cs hs h ih=>exact .tup vs cs hs ih
 |fn f vs cs hs h ih=>exact .fn f vs cs hs ih
theorem ObjRep.imp{w:World} {J J':Nat->Prop} {ρ:Rho} {b s:Nat} {o:aC}(k:∀{v x},Rep w J ρ v x->Rep w J' ρ v x)(h:ObjRep w J ρ b s o):ObjRep w J' ρ b s o:=by
 cases o with
 |cells cs e=>obtain⟨c,h1,h2,h3,h4,h5⟩:=h;exact⟨c,h1,h2,h3,λj hj=>⟨(h4 j hj).1,k (h4 j hj).2⟩,h5⟩
 |map ag n l=>obtain⟨ms,cl,h1,h2,h3⟩:=h;exact⟨ms,cl,h1,h2,λj hj=>⟨(h3 j hj).1,k (h3 j hj).2⟩⟩
 |full cs e=>obtain⟨c,h1,h2,h3,h4,h5⟩:=h;exact⟨c,h1,h2,h3,λj hj=>⟨(h4 j hj).1,k (h4 j hj).2⟩,h5⟩
 |tr H j=>exact h
theorem J4{w:World} {b:Nat} {x:Option (List Deferred)}(h:IsC w b)(k:w.heap[b]? =some (.deferred x)):False:=by
 obtain⟨o,h1,h2⟩:=h;rw[h1] at k;cases k;cases h2
theorem Sim.shut{c:Ctx} {ρ:Rho} {D J:Nat->Prop} {st:St} {a:Act} {w:World} {x:Deferred} {ds:List Deferred}(hs:Sim c ρ D J st a w)(hd:a.defers=x::ds):
 ∃d,x=Mi d/\w.heap[d]? =some (.deferred (some []))/\∃J',Sim c ρ D J' st {a with defers:=ds} (w.putObj d (.deferred none)):=by
 obtain⟨⟨l,h1,h2,h3⟩,h4⟩:=hs.defers
 rw[hd] at h1
 cases l with
 |nil=>cases h1
 |cons d l=>
  obtain⟨e1,e2⟩:=List.cons.inj h1
  obtain⟨k1,k2,k3⟩:=h3 d List.mem_cons_self
  obtain⟨n1,n2⟩:=List.nodup_cons.1 h2
  have hg:w.grownBy (w.putObj d (.deferred none)) (some d):=grownBy_putObj' w d _
  have hg':=hg
  let J':Nat->Prop:=λb=>J b/\b≠d
  have cut:∀{v x},Rep w J ρ v x->Rep w J' ρ v x:=λh=>h.cut.mono (J':=J') (λb hb _=>⟨⟨hb.1,λe=>by subst e;exact J4 hb.2 k1⟩,rfl⟩) (Nat.le_refl _) (λ_ _ h=>h)
  have hJ:∀b,J' b->b<w.heap.size->J' b/\(w.putObj d (.deferred none)).heap[b]? =w.heap[b]? :=λb hb _=>⟨hb,World.putObj_heap_other hb.2⟩
  refine⟨d,e1,k1,J',⟨⟨l,e2,n2,λD hD=>?_⟩,λl hl=>absurd (hd.symm.trans (h4 l hl).1) (by simp)⟩,hs.tmps,λt=>(cut (hs.env t)).mono hJ hg.size (λ_ _ h=>h),λid o ho=>?_,hs.inj,hs.dom,λb hb=>hs.jok b hb.1,λb hb=>Nat.lt_of_lt_of_le (hs.jlt b hb.1) hg.size,hs.ilt,hs.pin,
   ⟨Nat.le_trans hs.kept.size hg.size,hs.kept.os,hs.kept.tape,hs.kept.output,λb hb hI=>?_⟩,?_,λg kd zs hg=>?_⟩
  ·obtain⟨q1,q2,q3⟩:=h3 D (List.mem_cons_of_mem _ hD)
   have hne:D≠d:=λe=>by subst e;exact n1 hD
   exact⟨(World.putObj_heap_other hne).trans q1,⟨q2,hne⟩,q3⟩
  ·obtain⟨b,s,q1,q2,q3,q4⟩:=hs.obj id o ho
   exact⟨b,s,q1,(q2.imp cut).mono hJ hg.size (λ_ _ h=>h) (World.putObj_heap_other (λe=>by subst e;exact q2.not_def k1)),q3,λh=>q4 h.1⟩
  ·exact(World.putObj_heap_other (λe=>by subst e;omega)).trans (hs.kept.block b hb hI)
  ·refine hs.hid.step (λi=>i) (λid H j h=>h) (λ_ _ _ _ _ _ _ _ e=>e) hg.size rfl rfl rfl (λb hb=>World.putObj_heap_other (λe=>by subst e;exact hb.2.2.1 k2)) (λb hb _=>World.putObj_heap_other (λe=>by subst e;omega))
    (λid H j h=>World.putObj_heap_other (λe=>?_)) (λb hb=>⟨Nat.lt_of_lt_of_le hb.1 hg.size,hb.2.1,λhj=>hb.2.2.1 hj.1,hb.2.2.2⟩) (λid H j h hx=>?_)
   ·obtain⟨s,r,g1,g2,g3,_⟩:=hs.nl h
    exact g3 (e▸k2)
   ·obtain⟨s,r,g1,_⟩:=hs.nl h
    exact hx.2.2.2 _ _ _ h g1
  ·obtain⟨q1,q2,q3⟩:=hs.laid g kd zs hg
   have hne:zs≠[]->g≠d:=λhz e=>by
    subst e
    exact J4 (cells_of_cell (q3 0 (List.length_pos_iff.2 hz))) k1
   have hz:zs≠[]:=Vm hg
   refine⟨⟨q1,hne hz⟩,Nat.lt_of_lt_of_le q2 hg'.size,λi hi=>?_⟩
   rw[World.cell?_of_block (w:=w) (a:=⟨g,i,none⟩) (World.putObj_heap_other (hne hz))];exact q3 i hi
theorem Sim.leave{F:Fence} {n:Nat} {fn:Func} {R:Ending->World->Prop} {c:Ctx} {ρ:Rho} {D:Nat->Prop} {st:St}:∀(ds:List Deferred) (a:Act) (w:World) (J:Nat->Prop),a.defers=ds->Sim c ρ D J st a w->
 (∀a' w' J,a'.tmps=a.tmps->Sim c ρ D J st a' w'->∃v,(results fn a'.tmps).run P w'= .ok v w'/\R (.returned v) w')->LeavesInM F n P fn a.tmps R ds .returning w:=by
 intro ds
 induction ds with
 |nil=>exact λa w J _ hs k=>k a w J rfl hs
 |cons x ds ih=>
  intro a w J hd hs k
  obtain⟨d,rfl,h1,J',h2⟩:=hs.shut hd
  exact⟨by simp,.inl ⟨d,_,rfl,run_takeDeferred h1,ih {a with defers:=ds} _ J' rfl h2 k⟩⟩
theorem ACall.enter{f:FuncId} {fn:Func} {code:Code} {args:List AV} {objs:List aC} {m:Nat} {r:AV} {objs':List aC}(hf:P.funcs[f]? =some fn)(hb:fn.body=some code)(hn:args.length<=fn.ntmps)(hm:m<=objs.length)
 (h:AC P code (λe _ st=>Ends P fn objs m r objs' e st) objs.length (oU fn.ntmps m args objs)):ACall P f args objs m r objs':=by
 intro w A I ρ vs hvs hargs hA hI hobj hdom hinj hhid hlaid
 refine(o9 (r:=none) (n:=0)).1 (callsIn_of_wp_marks hf hb trivial ?_ rfl)
 let c:Ctx:=⟨w,A,I,ρ,none,λH=>H∈trs objs⟩
 have hsim:Sim c ρ (· <objs.length) A (oU fn.ntmps m args objs) {tmps:=vs++Array.replicate (fn.ntmps-vs.size) undef,defers:=[]} w:=by
  refine⟨Marks.nil (λl h=>(by cases h)),?_,?_,?_,?_,λid p hp=>hdom id p hp,λb hb=> .inl hb,λb hb=>(hA b hb).1,hI,?_,⟨Nat.le_refl _,rfl,rfl,rfl,λ_ _ _=>rfl⟩,?_,hlaid⟩
  ·show(vs++Array.replicate (fn.ntmps-vs.size) undef).size=fn.ntmps
   simp;omega
  ·intro t
   rw[OP]
   by_cases ht:t<args.length
   ·rw[List.getElem?_eq_getElem ht]
    have:(vs++Array.replicate (fn.ntmps-vs.size) undef).getD t undef=vs.getD t undef:=by
     have htv:t<vs.size:=by omega
     simp[Array.getD_eq_getD_getElem?,Array.getElem?_append,htv]
    show Rep w A ρ ((vs++Array.replicate (fn.ntmps-vs.size) undef).getD t undef) args[t]
    rw[this];exact hargs t ht
   ·rw[List.getElem?_eq_none omgz];exact .any _
  ·intro id o ho
   rw[pg] at ho
   obtain⟨hlt,rfl⟩:=List.getElem?_eq_some_iff.1 ho
   obtain⟨b,s,h1,h2,h3⟩:=hobj id hlt
   exact⟨b,s,h1,h3,.inl h2,λhj=>(hA b hj).2 h2⟩
  ·intro id id' o o' b s s' _ _ h1 h2;exact hinj id id' b s s' h1 h2
  ·intro j hj
   have hj:j<m:=hj
   obtain⟨b,s,h1,_⟩:=hobj j omgz
   exact⟨_,h1,h1⟩
  ·rw[show(oU fn.ntmps m args objs).ob=λj=>objs[j]? from funext (pg _ _ _ _)];exact hhid
 refine wpIn_mono (h c ρ A _ w hsim) ?_
 rintro e a' w' ⟨nid,st0,ρ',J0,hs0,he,st,σ,hfrz,hsub,hl,ht,hr,hbn⟩
 obtain⟨J',hs⟩:=hfrz _ _ _ _ _ _ hs0
 have hres:bodyPostM (fen none) 0 P fn (λe w'=>∃v ρ' J',e= .returned v/\Rep w' J' ρ' v r/\(∀b,J' b->b<w'.heap.size/\(A b\/I b\/w.heap.size<=b))/\ah5 ⟨w,A,I,ρ,none,λH=>H∈trs objs⟩ w'/\
  (∀j,j<m->ρ' j=ρ j)/\(∀j p,ρ' j=some p->j<objs'.length)/\
  (∀j (h:j<objs'.length),∃b s,ρ' j=some (b,s)/\ObjRep w' J' ρ' b s objs'[j]/\(I b\/w.heap.size<=b)/\¬J' b)/\
  (∀i j b s s',ρ' i=some (b,s)->ρ' j=some (b,s')->i=j)/\Hid ⟨w,A,I,ρ,none,λH=>H∈trs objs⟩ J' (λj=>objs'[j]?) ρ' w') .ret a' w':=by
  refine Sim.leave (R:=_) a'.defers a' w' J' rfl hs (λa' w' J' _ hs=>?_)
  obtain⟨v,hrun,hrep⟩:=EE hs hr
  have hs0:=hsub.sim hs
  refine⟨v,hrun,v,(λi=>if i<σ.length then ρ' (σ.getD i 0) else none),J',rfl,hrep.unren (n:=σ.length) (λid hid=>if_pos hid) rfl hbn,λb hb=>⟨hs.jlt b hb,hs.jok b hb⟩,?_,?_,?_,?_,?_,?_⟩
  ·exact⟨hs.kept.size,hs.kept.os,hs.kept.tape,hs.kept.output,hs.kept.block⟩
  ·intro j hj
   obtain⟨p,h1,h2⟩:=hs0.pin j (by show j<st.m;omega)
   exact h2.trans h1.symm
  ·intro j p hp;rw[<-hl];exact hs0.dom j p hp
  ·intro j hj
   have ho:(⟨st.n,st.m,[],(idx 0 objs').map λp=>(p.1,some p.2)⟩:St).ob j=some objs'[j]:=by
    have:=pg st.n st.m [] objs' j
    simp only[oU,idx] at this
    rw[this,List.getElem?_eq_getElem hj]
   obtain⟨b,s,h1,h2,h3,h4⟩:=hs0.obj j _ ho
   exact⟨b,s,h1,h2,h3,h4⟩
  ·intro i j b s s' h1 h2
   have hi:=hs0.dom i _ h1;have hj:=hs0.dom j _ h2
   have hob:∀k,k<σ.length->∃o,(⟨st.n,st.m,[],(idx 0 objs').map λp=>(p.1,some p.2)⟩:St).ob k=some o:=by
    intro k hk
    have:=pg st.n st.m [] objs' k
    simp only[oU,idx] at this
    rw[this,List.getElem?_eq_getElem omgz];exact⟨_,rfl⟩
   obtain⟨o,ho⟩:=hob i hi
   obtain⟨o',ho'⟩:=hob j hj
   exact hs0.inj i j o o' b s s' ho ho' h1 h2
  ·have:=hs0.hid
   rw[show(⟨st.n,st.m,[],(idx 0 objs').map λp=>(p.1,some p.2)⟩:St).ob=λj=>objs'[j]? from funext (pg st.n st.m [] objs')] at this
   exact this
 rcases he with rfl|rfl
 ·exact hres
 ·exact hres
theorem Rep.ren{w:World} {J:Nat->Prop} {ρ ρ':Rho} {τ:Nat->Nat}(hρ:∀id p,ρ id=some p->ρ' (τ id)=some p){v:Value} {x:AV}(h:Rep w J ρ v x):Rep w J ρ' v (Sy.ren τ x):=by
 induction h generalizing ρ' τ with
 |val v=>simp only[Sy.ren];exact .val v
 |any v=>simp only[Sy.ren];exact .any v
 |inil=>simp only[Sy.ren];exact .inil
 |iemp a cap=>simp only[Sy.ren];exact .iemp a cap
 |isl b off len cap cells u hb hc h0 h1 h2 ih=>simp only[Sy.ren];exact .isl b off len cap cells u hb hc h0 h1 h2
 |ipt b off k cells u hb h0 h1 h2 ih=>simp only[Sy.ren];exact .ipt b off k cells u hb h0 h1 h2
 |sl b s id off len es cap h hc hs=>simp only[Sy.ren];exact .sl b s _ off len es cap (hρ _ _ h) hc hs
 |pt b s id off h=>simp only[Sy.ren];exact .pt b s _ off (hρ _ _ h)
 |mp b s id h=>simp only[Sy.ren];exact .mp b s _ (hρ _ _ h)
 |yl b s id h=>simp only[Sy.ren];exact .yl b s _ (hρ _ _ h)
 |agg vs cs hs h ih=>
  simp only[Sy.ren]
  exact .agg vs _ (by simpa using hs) (λj hj=>by simpa using ih j (by simpa using hj) hρ)
 |tup vs cs hs h ih=>
  simp only[Sy.ren]
  exact .tup vs _ (by simpa using hs) (λj hj=>by simpa using ih j (by simpa using hj) hρ)
 |fn f vs cs hs h ih=>
  simp only[Sy.ren]
  exact .fn f vs _ (by simpa using hs) (λj hj=>by simpa using ih j (by simpa using hj) hρ)
theorem ObjRep.ren{w:World} {J:Nat->Prop} {ρ ρ':Rho} {τ:Nat->Nat}(hρ:∀id p,ρ id=some p->ρ' (τ id)=some p){b s:Nat} {o:aC}(h:ObjRep w J ρ b s o):ObjRep w J ρ' b s (rD τ o):=by
 cases o with
 |cells cs e=>
  obtain⟨c,hc,h1,h2,h3,h4⟩:=h
  exact⟨c,hc,h1,by simpa using h2,λj hj=>by
   have:=h3 j (by simpa using hj)
   exact⟨this.1,by simpa using this.2.ren hρ⟩,h4⟩
 |map ag kn l=>
  obtain⟨ms,k,hc,h1,h2⟩:=h
  exact⟨ms,k,hc,by simpa using h1,λj hj=>by
   have:=h2 j (by simpa using hj)
   exact⟨by simpa using this.1,by simpa using this.2.ren hρ⟩⟩
 |full cs e=>
  obtain⟨c,hc,h1,h2,h3,h4⟩:=h
  exact⟨c,hc,h1,by simpa using h2,λj hj=>by
   have:=h3 j (by simpa using hj)
   exact⟨this.1,by simpa using this.2.ren hρ⟩,h4⟩
 |tr H j=>exact h
def noImm:AV->Prop
 | .isl _ cs _=>cs=[]
 | .ipt cs _=>cs=[]
 | .agg cs=>∀x∈cs,noImm x
 | .tup cs=>∀x∈cs,noImm x
 | .fn _ cs=>∀x∈cs,noImm x
 |_=>True
def l7:aC->Prop
 | .cells cs _=>∀x∈cs,noImm x
 | .map _ _ l=>∀x∈l,noImm x.2
 | .full cs _=>∀x∈cs,noImm x
 | .tr _ _=>True
theorem Rep.noImm{w:World} {J J':Nat->Prop} {ρ:Rho} {v:Value} {x:AV}(h:Rep w J ρ v x)(hn:Sy.noImm x):Rep w J' ρ v x:=by
 induction h with
 |val v=>exact .val v
 |any v=>exact .any v
 |inil=>exact .inil
 |iemp a cap=>exact .iemp a cap
 |isl b off len cap cells u hb hc h0 h1 h2 ih=>
  have:cells=[]:=by simpa[Sy.noImm] using hn
  subst this
  exact .isl b off len cap [] u (λh=>absurd rfl h) hc (λj hj=>by simp at hj) (λj hj=>by simp at hj) (λj hj=>by simp at hj)
 |ipt b off k cells u hb h0 h1 h2 ih=>
  have:cells=[]:=by simpa[Sy.noImm] using hn
  subst this
  exact .ipt b off k [] u (λh=>absurd rfl h) (λj hj=>by simp at hj) (λj hj=>by simp at hj) (λj hj=>by simp at hj)
 |sl b s id off len es cap h hc hs=>exact .sl b s _ off len es cap h hc hs
 |pt b s id off h=>exact .pt b s _ off h
 |mp b s id h=>exact .mp b s _ h
 |yl b s id h=>exact .yl b s _ h
 |agg vs cs hs h ih=>simp only[Sy.noImm] at hn;exact .agg vs cs hs (λj hj=>ih j hj (hn _ (List.getElem_mem hj)))
 |tup vs cs hs h ih=>simp only[Sy.noImm] at hn;exact .tup vs cs hs (λj hj=>ih j hj (hn _ (List.getElem_mem hj)))
 |fn f vs cs hs h ih=>simp only[Sy.noImm] at hn;exact .fn f vs cs hs (λj hj=>ih j hj (hn _ (List.getElem_mem hj)))
theorem ObjRep.noImm{w:World} {J J':Nat->Prop} {ρ:Rho} {b s:Nat} {o:aC}(h:ObjRep w J ρ b s o)(hn:l7 o):ObjRep w J' ρ b s o:=by
 cases o with
 |cells cs e=>
  obtain⟨c,hc,h1,h2,h3,h4⟩:=h
  exact⟨c,hc,h1,h2,λj hj=>⟨(h3 j hj).1,(h3 j hj).2.noImm (hn _ (List.getElem_mem hj))⟩,h4⟩
 |map ag kn l=>
  obtain⟨ms,k,hc,h1,h2⟩:=h
  exact⟨ms,k,hc,h1,λj hj=>⟨(h2 j hj).1,(h2 j hj).2.noImm (hn _ (List.getElem_mem hj))⟩⟩
 |full cs e=>
  obtain⟨c,hc,h1,h2,h3,h4⟩:=h
  exact⟨c,hc,h1,h2,λj hj=>⟨(h3 j hj).1,(h3 j hj).2.noImm (hn _ (List.getElem_mem hj))⟩,h4⟩
 |tr H j=>exact h
def rF:List Nat->Nat->Nat
 |[],_=>0
 |a::l,i=>if i=a then 0 else rF l i+1
def mM:List Nat->Nat->Bool
 |[],_=>false
 |a::l,i=>if i=a then true else mM l i
theorem EG:∀{σ:List Nat} {i:Nat},mM σ i=true->rF σ i<σ.length/\σ.getD (rF σ i) 0=i
 |[],_,h=>by simp[mM] at h
 |a::l,i,h=>by
  simp only[rF]
  by_cases e:i=a
  ·simp[e]
  ·simp only[mM,if_neg e] at h
   obtain⟨h1,h2⟩:=EG h
   rw[if_neg e]
   exact⟨by simpa using h1,by simpa[List.getD_eq_getElem?_getD] using h2⟩
theorem yR:∀{σ:List Nat} {i:Nat},mM σ i=false->i ∉ σ
 |[],_,_=>by simp
 |a::l,i,h=>by
  simp only[mM] at h
  split at h
  ·cases h
  ·rename_i e;simp only[List.mem_cons,not_or];exact⟨e,yR h⟩
def dfz(st:St)(σ:List Nat):Nat->AV->AV
 |0,_=> .any
 |k+1,.sl id off len es=>if mM σ id=true then .any else match(aQ st.objs id).join with
  |some (.cells cs _)=> .isl false (((cs.drop off).take (len*es)).map (dfz st σ k)) len
  |_=> .any
 |k+1,.pt id off=>if mM σ id=true then .any else match(aQ st.objs id).join with
  |some (.cells cs _)=> .ipt (cs.map (dfz st σ k)) off
  |_=> .any
 |_+1,.mp _=> .any
 |_+1,.yl _=> .any
 |k+1,.agg l=> .agg (l.map (dfz st σ k))
 |k+1,.tup l=> .tup (l.map (dfz st σ k))
 |k+1,.fn f l=> .fn f (l.map (dfz st σ k))
 |_+1,.val v=> .val v
 |_+1,.isl z l n=> .isl z l n
 |_+1,.ipt l n=> .ipt l n
 |_+1,.any=> .any
def toA(st:St)(σ:List Nat)(fz:Bool):Nat->AV->AV
 |0,_=> .any
 |k+1,.sl id off len es=>if mM σ id=true then .sl (rF σ id) off len es else if fz=true then dfz st σ k (.sl id off len es) else .any
 |k+1,.pt id off=>if mM σ id=true then .pt (rF σ id) off else if fz=true then dfz st σ k (.pt id off) else .any
 |_+1,.mp id=>if mM σ id=true then .mp (rF σ id) else .any
 |_+1,.yl id=>if mM σ id=true then .yl (rF σ id) else .any
 |k+1,.agg l=> .agg (l.map (toA st σ fz k))
 |k+1,.tup l=> .tup (l.map (toA st σ fz k))
 |k+1,.fn f l=> .fn f (l.map (toA st σ fz k))
 |_+1,.val v=> .val v
 |_+1,.isl z l n=> .isl z l n
 |_+1,.ipt l n=> .ipt l n
 |_+1,.any=> .any
def toO(st:St)(σ:List Nat)(fz:Bool):aC->aC
 | .cells cs e=> .cells (cs.map (toA st σ fz 8)) e
 | .map ag n l=> .map ag n (l.map λx=>(x.1,toA st σ fz 8 x.2))
 | .full cs e=> .full (cs.map (toA st σ fz 8)) e
 | .tr H j=> .tr H j
section
variable {c:Ctx} {ρ ρc:Rho} {D J A:Nat->Prop} {st:St} {a:Act} {w:World} {σ:List Nat} {fz:Bool}
theorem J5(hs:Sim c ρ D J st a w)(hJ:∀b,J b->b<w.heap.size->A b)(hA:∀id o b s,st.ob id=some o->ρ id=some (b,s)->id ∉ σ->b<w.heap.size->A b):
 ∀(k:Nat) (v:Value) (x:AV),Rep w J ρ v x->Rep w A (λ_=>none) v (dfz st σ k x):=by
 intro k
 induction k with
 |zero=>intro v x _;unfold dfz;exact .any _
 |succ k ih=>
  intro v x h
  have mono:∀{ρ:Rho} {v:Value} {x:AV},Rep w J ρ v x->Rep w A ρ v x:=λh=>h.mono (λb hb hlt=>⟨hJ b hb hlt,rfl⟩) (Nat.le_refl _) (λ_ _ h=>h)
  cases h with
  |val v=>unfold dfz;exact .val v
  |any v=>unfold dfz;exact .any v
  |inil=>unfold dfz;exact .inil
  |iemp a cap=>unfold dfz;exact .iemp a cap
  |isl b off len cap cells u hb hc h0 h1 h2=>unfold dfz;exact mono (.isl b off len cap cells u hb hc h0 h1 h2)
  |ipt b off k cells u hb h0 h1 h2=>unfold dfz;exact mono (.ipt b off k cells u hb h0 h1 h2)
  |mp=>unfold dfz;exact .any _
  |yl=>unfold dfz;exact .any _
  |agg vs cs hs' h=>unfold dfz;exact .agg vs _ (by simpa using hs') (λj hj=>by have:=ih _ _ (h j (by simpa using hj));simpa using this)
  |tup vs cs hs' h=>unfold dfz;exact .tup vs _ (by simpa using hs') (λj hj=>by have:=ih _ _ (h j (by simpa using hj));simpa using this)
  |fn f vs cs hs' h=>unfold dfz;exact .fn f vs _ (by simpa using hs') (λj hj=>by have:=ih _ _ (h j (by simpa using hj));simpa using this)
  |sl b s id off len es cap h hc hsz=>
   unfold dfz
   split
   ·exact .any _
   ·rename_i hn
    split
    ·rename_i cs e ho
     have ho':st.ob id=some (.cells cs e):=ho
     obtain⟨b',s',k1,k2,_⟩:=hs.obj _ _ ho'
     rw[h] at k1;cases k1
     obtain⟨u,hu⟩:=iA k2
     have hid:id ∉ σ:=yR (by simpa using hn)
     refine .isl b off len cap _ (λi=>u (off+i)) (λ_=>⟨hA _ _ _ _ ho' h hid k2.lt,k2.lt⟩) hc (λi hi=>?_) (λi hi=>?_) (λi hi=>?_)
     ·simp at hi;exact(hu (off+i) omgz).2.1
     ·simp at hi;exact(hu (off+i) omgz).1
     ·simp at hi
      have:=ih _ _ (hu (off+i) omgz).2.2
      simpa using this
    ·exact .any _
  |pt b s id off h=>
   unfold dfz
   split
   ·exact .any _
   ·rename_i hn
    split
    ·rename_i cs e ho
     have ho':st.ob id=some (.cells cs e):=ho
     obtain⟨b',s',k1,k2,_⟩:=hs.obj _ _ ho'
     rw[h] at k1;cases k1
     obtain⟨u,hu⟩:=iA k2
     have hid:id ∉ σ:=yR (by simpa using hn)
     have:=Rep.ipt (w:=w) (J:=A) (ρ:=λ_=>none) b 0 off (cs.map (dfz st σ k)) u (λ_=>⟨hA _ _ _ _ ho' h hid k2.lt,k2.lt⟩) (λi hi=>?_) (λi hi=>?_) (λi hi=>?_)
     ·simpa using this
     ·simp at hi;exact(hu i hi).2.1
     ·simp at hi;simpa using(hu i hi).1
     ·simp at hi
      have:=ih _ _ (hu i hi).2.2
      simpa using this
    ·exact .any _
theorem xz(hs:Sim c ρ D J st a w)(hρ:∀id,mM σ id=true->ρc (rF σ id)=ρ id)(hJ:∀b,J b->b<w.heap.size->A b)(hA:fz=true->∀id o b s,st.ob id=some o->ρ id=some (b,s)->id ∉ σ->b<w.heap.size->A b):
 ∀(k:Nat) (v:Value) (x:AV),Rep w J ρ v x->Rep w A ρc v (toA st σ fz k x):=by
 intro k
 induction k with
 |zero=>intro v x _;unfold toA;exact .any _
 |succ k ih=>
  intro v x h
  have mono:∀{v:Value} {x:AV},Rep w J (λ_=>none) v x->Rep w A ρc v x:=λh=>(h.up (ρ:=ρc)).mono (λb hb hlt=>⟨hJ b hb hlt,rfl⟩) (Nat.le_refl _) (λ_ _ h=>h)
  cases h with
  |val v=>unfold toA;exact .val v
  |any v=>unfold toA;exact .any v
  |inil=>unfold toA;exact .inil
  |iemp a cap=>unfold toA;exact .iemp a cap
  |isl b off len cap cells u hb hc h0 h1 h2=>unfold toA;exact mono (.isl b off len cap cells u hb hc h0 h1 h2)
  |ipt b off k cells u hb h0 h1 h2=>unfold toA;exact mono (.ipt b off k cells u hb h0 h1 h2)
  |mp b s id h=>
   unfold toA
   split
   ·rename_i hn;exact .mp b s _ ((hρ id hn).trans h)
   ·exact .any _
  |yl b s id h=>
   unfold toA
   split
   ·rename_i hn;exact .yl b s _ ((hρ id hn).trans h)
   ·exact .any _
  |agg vs cs hs' h=>unfold toA;exact .agg vs _ (by simpa using hs') (λj hj=>by have:=ih _ _ (h j (by simpa using hj));simpa using this)
  |tup vs cs hs' h=>unfold toA;exact .tup vs _ (by simpa using hs') (λj hj=>by have:=ih _ _ (h j (by simpa using hj));simpa using this)
  |fn f vs cs hs' h=>unfold toA;exact .fn f vs _ (by simpa using hs') (λj hj=>by have:=ih _ _ (h j (by simpa using hj));simpa using this)
  |sl b s id off len es cap h hc hsz=>
   unfold toA
   split
   ·rename_i hn;exact .sl b s _ off len es cap ((hρ id hn).trans h) hc hsz
   ·split
    ·rename_i hf;exact(J5 hs hJ (hA hf) k _ _ (.sl b s id off len es cap h hc hsz)).up
    ·exact .any _
  |pt b s id off h=>
   unfold toA
   split
   ·rename_i hn;exact .pt b s _ off ((hρ id hn).trans h)
   ·split
    ·rename_i hf;exact(J5 hs hJ (hA hf) k _ _ (.pt b s id off h)).up
    ·exact .any _
theorem Vt(hs:Sim c ρ D J st a w)(hρ:∀id,mM σ id=true->ρc (rF σ id)=ρ id)(hJ:∀b,J b->b<w.heap.size->A b)(hA:fz=true->∀id o b s,st.ob id=some o->ρ id=some (b,s)->id ∉ σ->b<w.heap.size->A b)
 {b s:Nat} {o:aC} (h:ObjRep w J ρ b s o):ObjRep w A ρc b s (toO st σ fz o):=by
 cases o with
 |cells cs e=>
  obtain⟨c,hc,h1,h2,h3,h4⟩:=h
  exact⟨c,hc,h1,by simpa using h2,λj hj=>by
   have:=h3 j (by simpa using hj)
   exact⟨this.1,by simpa using xz hs hρ hJ hA 8 _ _ this.2⟩,h4⟩
 |map ag kn l=>
  obtain⟨ms,k,hc,h1,h2⟩:=h
  exact⟨ms,k,hc,by simpa using h1,λj hj=>by
   have:=h2 j (by simpa using hj)
   exact⟨by simpa using this.1,by simpa using xz hs hρ hJ hA 8 _ _ this.2⟩⟩
 |full cs e=>
  obtain⟨c,hc,h1,h2,h3,h4⟩:=h
  exact⟨c,hc,h1,by simpa using h2,λj hj=>by
   have:=h3 j (by simpa using hj)
   exact⟨this.1,by simpa using xz hs hρ hJ hA 8 _ _ this.2⟩,h4⟩
 |tr H j=>exact h
end
def eX(σ:List Nat)(m nid:Nat)(j:Nat):Nat:=if j<m then σ.getD j 0 else nid+(j-m)
def eP(σ:List Nat)(m nid:Nat)(objs':List aC):List (Nat×Option aC):=
 (idx 0 objs').map (λp=>(eX σ m nid p.1,some (rD (eX σ m nid) p.2)))++(σ.drop m).map λi=>(i,none)
def ol(P:Program)(f:FuncId):Bool:=match P.funcs[f]? with
 |some fn=>fn.name != "runtime.NumGoroutine" &&fn.body.isSome
 |none=>false
theorem yS{f:FuncId}(h:ol P f=true)(vs:Array Value)(w:World):(callFunc f vs).run P w= .ok (.enter f vs) w:=by
 unfold ol at h
 split at h
 ·rename_i fn hf
  simp only[Bool.and_eq_true,bne_iff_ne,ne_eq] at h
  have h2:fn.body.isNone=false:=by cases hb:fn.body<;>simp[hb] at h⊢
  have h3:fn.body≠none:=by intro e;simp[e] at h2
  simp[callFunc,hf,h.1,h3]
 ·cases h
theorem Bt{o:Oper} {nid:Nat} {st:St} {f:FuncId} {xvs:List AV}
 {cargs:List AV} {cobjs:List aC} {m:Nat} {r:AV} {cobjs':List aC} (hc:ACall P f cargs cobjs m r cobjs') (σ:List Nat) (fz:Bool) (hm:m<=cobjs.length) (hm':m<=cobjs'.length)
 (hexec:∀(c:Ctx) (ρ:Rho) (D J:Nat->Prop) (a:Act) (w:World),Sim c ρ D J st a w->∃vs:Array Value,(execOp a.eval o).run P w= .ok (.enter f vs) w/\vs.size=xvs.length/\∀j (h:j<xvs.length),Rep w J ρ (vs.getD j undef) xvs[j])
 (hσ:σ.length=cobjs.length) (hnd:σ.Nodup) (hlt:∀i∈σ,i<nid)
 (hob:∀j (h:j<cobjs.length),∃o,st.ob (σ.getD j 0)=some o/\cobjs[j]=toO st σ fz o)
 (hargs:cargs=xvs.map (toA st σ fz 8))
 (hfz:fz=true->noImm r/\∀j (h:j<cobjs'.length),l7 cobjs'[j]) (htr:trs cobjs'=trs cobjs):
 OpT P o nid (cobjs'.length-m) st ⟨ren (eX σ m nid) r,eP σ m nid cobjs'⟩:=by
 intro c ρ D J a w hs hD _ K Q hK
 obtain⟨vs,hrun,hvl,hvr⟩:=hexec c ρ D J a w hs
 -- the callee's view
 let ρc:Rho:=λj=>if j<σ.length then ρ (σ.getD j 0) else none
 let T:Prop:=∃H,H∈trs cobjs
 let X:Nat->Prop:=Xm c J st.ob ρ w
 let I:Nat->Prop:=λb=>(∃j s,j<σ.length/\ρ (σ.getD j 0)=some (b,s))\/(T/\X b)
 let A:Nat->Prop:=λb=>(J b\/(fz=true/\∃id o s,st.ob id=some o/\ρ id=some (b,s)/\id ∉ σ))/\b<w.heap.size
 have hmem:∀j,j<σ.length->σ.getD j 0∈σ:=λj hj=>by simp[List.getD_eq_getElem?_getD,hj]
 have hown:∀j,j<σ.length->∃o b s,st.ob (σ.getD j 0)=some o/\ρ (σ.getD j 0)=some (b,s)/\ObjRep w J ρ b s o/\¬J b:=λj hj=>by
  obtain⟨o,h1,_⟩:=hob j omgz
  obtain⟨b,s,k1,k2,_,k3⟩:=hs.obj _ _ h1
  exact⟨_,b,s,h1,k1,k2,k3⟩
 have hτ:∀id,id<σ.length->ρc id=ρ (σ.getD id 0):=λid hid=>if_pos hid
 have hτ':∀id,mM σ id=true->ρc (rF σ id)=ρ id:=λid hn=>by
  obtain⟨h1,h2⟩:=EG hn
  rw[hτ _ h1,h2]
 have hJA:∀b,J b->b<w.heap.size->A b:=λb hb hlt=>⟨.inl hb,hlt⟩
 have hOA:fz=true->∀id o b s,st.ob id=some o->ρ id=some (b,s)->id ∉ σ->b<w.heap.size->A b:=λhf id o b s h1 h2 h3 h4=>⟨.inr ⟨hf,id,o,s,h1,h2,h3⟩,h4⟩
 have hlen:xvs.length=cargs.length:=by rw[hargs];simp
 have hargv:∀j (h:j<cargs.length),Rep w A ρc (vs.getD j undef) cargs[j]:=by
  intro j hj
  subst hargs
  have:=xz (fz:=fz) hs hτ' hJA hOA 8 _ _ (hvr j (by simpa using hj))
  simpa using this
 -- the call
 have hA:∀b,A b->b<w.heap.size/\¬I b:=by
  rintro b ⟨h1,h2⟩
  refine⟨h2,?_⟩
  rintro(⟨j,s,hj,hr⟩|⟨_,hx⟩)
  ·obtain⟨o,b',s',k1,k2,k3,k4⟩:=hown j hj
   rw[hr] at k2;cases k2
   rcases h1 with h1|⟨_,id,o2,s2,q1,q2,q3⟩
   ·exact k4 h1
   ·have:=hs.inj _ _ _ _ b s s2 k1 q1 hr q2
    exact q3 (this▸hmem j hj)
  ·rcases h1 with h1|⟨_,id,o2,s2,q1,q2,q3⟩
   ·exact hx.2.2.1 h1
   ·exact hx.2.2.2 _ _ _ q1 q2
 have hI:∀b,I b->b<w.heap.size:=by
  rintro b (⟨j,s,hj,hr⟩|⟨_,hx⟩)
  ·obtain⟨o,b',s',k1,k2,k3,k4⟩:=hown j hj
   rw[hr] at k2;cases k2;exact k3.lt
  ·exact hx.1
 have hIc:∀b,I b->(c.I b\/c.w0.heap.size<=b)/\¬J b:=by
  rintro b (⟨j,s,hj,hr⟩|⟨_,hx⟩)
  ·obtain⟨o,h1,_⟩:=hob j omgz
   obtain⟨b',s',k1,_,k2,k3⟩:=hs.obj _ _ h1
   rw[hr] at k1;cases k1;exact⟨k2,k3⟩
  ·exact⟨hx.2.1,hx.2.2.1⟩
 have hρc:∀{j p},ρc j=some p->j<σ.length:=λ{j p} h=>by
  refine Classical.byContradiction λhn=>?_
  have:ρc j=none:=if_neg hn
  rw[this] at h;cases h
 have htr0:∀{j H k},cobjs[j]? =some (.tr H k)->j<σ.length/\st.ob (σ.getD j 0)=some (.tr H k)/\T:=λ{j H k} h=>by
  obtain⟨h1,h2⟩:=List.getElem?_eq_some_iff.1 h
  obtain⟨o,h3,h4⟩:=hob j h1
  refine⟨omgz,?_,H,mO.2 ⟨k,h2▸List.getElem_mem h1⟩⟩
  rw[h3]
  rw[h2] at h4
  cases o<;>simp[toO] at h4⊢
  exact⟨h4.1.symm,h4.2.symm⟩
 have hσinj:∀{i j},i<σ.length->j<σ.length->σ.getD i 0=σ.getD j 0->i=j:=λ{i j} hi hj this=>by
  simp only[List.getD_eq_getElem?_getD,List.getElem?_eq_getElem hi,List.getElem?_eq_getElem hj,Option.getD_some] at this
  exact(List.getElem_inj hnd).1 this
 have hentry:Hid ⟨w,A,I,ρc,none,λH=>H∈trs cobjs⟩ A (λj=>cobjs[j]?) ρc w:=by
  refine⟨λi j H H' k k' h1 h2=>?_,λj H k h=>?_⟩
  ·obtain⟨g1,g2,_⟩:=htr0 h1;obtain⟨g3,g4,_⟩:=htr0 h2
   exact hσinj g1 g3 (hs.hid.one _ _ _ _ _ _ g2 g4)
  ·obtain⟨g1,g2,g3⟩:=htr0 h
   obtain⟨k1,k2,_⟩:=hs.hid.on _ _ _ g2
   obtain⟨s,r,q1,q2,q3,q4⟩:=hs.nl g2
   have hB:∀b,H.B b->¬I b:=λb hb hi=>by
    have:=k2 b hb
    rcases(hIc b hi).1 with h|h
    ·exact this.2 h
    ·omega
   refine⟨H.keep k1 (Nat.le_refl _) rfl rfl rfl (λ_ _=>rfl) (λb hb=>⟨hb.1,.inl (.inr ⟨g3,hb⟩),λha=>(hA b ha).2 (.inr ⟨g3,hb⟩),λi o s' hi hr=>?_⟩) (λb hb=>⟨hb.1,λhB'=>?_,λe=>?_⟩),λb hb=>⟨Nat.lt_of_lt_of_le (k2 b hb).1 hs.kept.size,hB b hb⟩,mO.2 ⟨k,List.mem_of_getElem? h⟩⟩
   ·have hi':=hρc hr
    obtain⟨o,b',s',q1,q2,_⟩:=hown i hi'
    rw[hτ i hi'] at hr
    exact hb.2.2.2 _ _ _ q1 hr
   ·rcases hb.2.1 with h|h
    ·exact hB b hB' h
    ·have:=hb.1;have h:w.heap.size<=b:=h;omega
   ·subst e;exact hb.2.2.2 j _ s h ((hτ j g1).trans q1)
 have hcall:=hc w A I ρc vs (by rw[hvl];exact hlen) hargv hA hI (λj hj=>by
  obtain⟨o,h1,h2⟩:=hob j hj
  obtain⟨b,s,k1,k2,_,k3⟩:=hs.obj _ _ h1
  exact⟨b,s,(hτ j omgz).trans k1,.inl ⟨j,s,omgz,k1⟩,h2▸Vt (fz:=fz) hs hτ' hJA hOA k2⟩) (λj p hj=>by
  refine Classical.byContradiction λhn=>?_
  have:ρc j=none:=if_neg omgz
  rw[this] at hj;cases hj) (λi j b s s' h1 h2=>by
  have hi:i<σ.length:=by
   refine Classical.byContradiction λhn=>?_
   have:ρc i=none:=if_neg hn
   rw[this] at h1;cases h1
  have hj:j<σ.length:=by
   refine Classical.byContradiction λhn=>?_
   have:ρc j=none:=if_neg hn
   rw[this] at h2;cases h2
  rw[hτ i hi] at h1;rw[hτ j hj] at h2
  obtain⟨o,b1,s1,k1,_⟩:=hown i hi
  obtain⟨o',b2,s2,k2,_⟩:=hown j hj
  have:=hs.inj _ _ _ _ b s s' k1 k2 h1 h2
  simp only[List.getD_eq_getElem?_getD,List.getElem?_eq_getElem hi,List.getElem?_eq_getElem hj,Option.getD_some] at this
  exact(List.getElem_inj hnd).1 this) hentry (hs.laid.mono (λb hb hlt=>⟨hJA b hb hlt,rfl⟩) (Nat.le_refl _))
 refine GX hrun (Calls.mono hcall ?_)
 rintro e w' ⟨v,ρ',J',rfl,hv,hJ',hkept,hpin,hdom',hobj',hinj',hhid'⟩
 refine⟨v,rfl,?_⟩
 -- back at the caller
 let ρn:Rho:=λi=>if nid<=i/\i<nid+(cobjs'.length-m) then ρ' (i-nid+m) else ρ i
 let Jn:Nat->Prop:=λb=>J b\/(J' b/\(I b\/w.heap.size<=b))
 have hfresh:∀i p,ρ i=some p->¬(nid<=i/\i<nid+(cobjs'.length-m)):=λi p hi hcon=>hD i hcon.1 hcon.2 (hs.dom i p hi)
 have hρmono:∀i p,ρ i=some p->ρn i=some p:=λi p hi=>by
  show(if nid<=i/\i<nid+(cobjs'.length-m) then ρ' (i-nid+m) else ρ i)=some p
  rw[if_neg (hfresh i p hi)];exact hi
 have hout:∀j p,ρ' j=some p->ρn (eX σ m nid j)=some p:=by
  intro j p hj
  have hjl:=hdom' j p hj
  unfold eX
  by_cases h1:j<m
  ·rw[if_pos h1]
   have:=hpin j h1
   rw[hj,hτ j omgz] at this
   exact hρmono _ _ this.symm
  ·rw[if_neg h1]
   show(if nid<=nid+(j-m)/\nid+(j-m)<nid+(cobjs'.length-m) then ρ' (nid+(j-m)-nid+m) else ρ (nid+(j-m)))=some p
   rw[if_pos omgz,show nid+(j-m)-nid+m=j by omega];exact hj
 have hsame:∀b,b<w.heap.size->¬I b->w'.heap[b]? =w.heap[b]? :=λb hb hn=>hkept.block b hb hn
 have conv:∀{v x},Rep w' J' ρ' v x->(fz=true->noImm x)->Rep w' Jn ρn v (ren (eX σ m nid) x):=by
  intro v x h hn
  refine Rep.ren hout ?_
  cases hfz':fz with
  |true=>exact h.noImm (hn hfz')
  |false=>
   refine h.mono (J:=J') (J':=Jn) (λb hb _=>⟨?_,rfl⟩) (Nat.le_refl _) (λ_ _ h=>h)
   rcases(hJ' b hb).2 with h1|h1
   ·rcases h1.1 with h1|⟨h1,_⟩
    ·exact .inl h1
    ·rw[hfz'] at h1;cases h1
   ·exact .inr ⟨hb,h1⟩
 have convO:∀{b s o},ObjRep w' J' ρ' b s o->(fz=true->l7 o)->ObjRep w' Jn ρn b s (rD (eX σ m nid) o):=by
  intro b s o h hn
  refine ObjRep.ren hout ?_
  cases hfz':fz with
  |true=>exact h.noImm (hn hfz')
  |false=>
   refine h.mono (J:=J') (J':=Jn) (λb hb _=>⟨?_,rfl⟩) (Nat.le_refl _) (λ_ _ h=>h) rfl
   rcases(hJ' b hb).2 with h1|h1
   ·rcases h1.1 with h1|⟨h1,_⟩
    ·exact .inl h1
    ·rw[hfz'] at h1;cases h1
   ·exact .inr ⟨hb,h1⟩
 have hkeys:∀i∈σ,i∈(eP σ m nid cobjs').map (·.1):=by
  intro i hi
  obtain⟨j,hj,rfl⟩:=List.getElem_of_mem hi
  simp only[eP,List.map_append,List.mem_append,List.map_map]
  by_cases h1:j<m
  ·left
   refine List.mem_map.2 ⟨(j,cobjs'[j]'(omgz)),?_,by simp[eX,h1,List.getD_eq_getElem?_getD,hj]⟩
   refine kT ?_
   rw[tY];simp
  ·right
   refine List.mem_map.2 ⟨σ[j],?_,rfl⟩
   rw[List.mem_iff_getElem]
   exact⟨j-m,by simp;omega,by simp;congr 1;omega⟩
 have hlook:∀id o,aQ (eP σ m nid cobjs') id=some (some o)->∃j,∃(h:j<cobjs'.length),id=eX σ m nid j/\o=rD (eX σ m nid) cobjs'[j]:=by
  intro id o ho
  have:=kT ho
  simp only[eP,List.mem_append,List.mem_map] at this
  rcases this with⟨p,hp,he⟩|⟨p,hp,he⟩
  ·obtain⟨_,h2⟩:=JZ hp
   simp only[Nat.sub_zero] at h2
   obtain⟨hlt,h3⟩:=List.getElem?_eq_some_iff.1 h2
   simp only[Prod.mk.injEq,Option.some.injEq] at he
   exact⟨p.1,hlt,he.1.symm,by rw[h3];exact he.2.symm⟩
  ·simp at he
 have htrIn:T->vE (eP σ m nid cobjs'):=by
  rintro⟨H,hH⟩
  rw[<-htr] at hH
  obtain⟨k,hk⟩:=mO.1 hH
  obtain⟨j,hj,e⟩:=List.getElem_of_mem hk
  refine⟨(eX σ m nid j,some (rD (eX σ m nid) cobjs'[j])),?_,H,k,by rw[e];rfl⟩
  simp only[eP,List.mem_append]
  refine .inl (List.mem_map.2 ⟨(j,cobjs'[j]),kT ?_,rfl⟩)
  rw[tY];simp
 have htr':∀{id H k},aQ (eP σ m nid cobjs') id=some (some (.tr H k))->∃j,∃(h:j<cobjs'.length),id=eX σ m nid j/\cobjs'[j]= .tr H k:=λ{id H k} h=>by
  obtain⟨j,hj,h1,h2⟩:=hlook id _ h
  refine⟨j,hj,h1,?_⟩
  revert h2
  cases cobjs'[j]<;>simp[rD]
  intro a b;exact⟨a.symm,b.symm⟩
 have hT':vE (eP σ m nid cobjs')->T:=by
  rintro⟨p,hp,H,k,e⟩
  simp only[eP,List.mem_append,List.mem_map] at hp
  rcases hp with⟨q,hq,he⟩|⟨q,hq,he⟩
  ·obtain⟨_,h2⟩:=JZ hq
   simp only[Nat.sub_zero] at h2
   obtain⟨hlt,h3⟩:=List.getElem?_eq_some_iff.1 h2
   have h4:q.2= .tr H k:=by
    rw[<-he] at e
    revert e
    cases q.2<;>simp[rD]
   refine⟨H,?_⟩
   rw[<-htr]
   exact mO.2 ⟨k,h4▸h3▸List.getElem_mem hlt⟩
  ·rw[<-he] at e;cases e
 have hkmem:∀{id},id∈(eP σ m nid cobjs').map (·.1)->∀{o},(aQ (eP σ m nid cobjs') id).join=some o->aQ (eP σ m nid cobjs') id=some (some o):=λ{id} _ {o} h=>by
  cases hl:aQ (eP σ m nid cobjs') id with|none=>simp[hl] at h|some x=>rw[hl] at h;simpa using h
 refine hK v w' ρn Jn ⟨hkept.size,hkept.os,hkept.tape,hkept.output,?_,hρmono,?_,λb hb=> .inl hb,?_,conv hv (λh=>(hfz h).1),?_,?_,?_⟩
 ·intro b hb hne hnx
  refine hsame b hb ?_
  rintro(⟨j,s,hj,hr⟩|⟨hT,hx⟩)
  ·obtain⟨o,b',s',k1,k2,_⟩:=hown j hj
   exact hne (σ.getD j 0) o s (hkeys _ (hmem j hj)) k1 hr
  ·exact hnx (htrIn hT) hx
 ·intro i p hi
  by_cases hr:nid<=i/\i<nid+(cobjs'.length-m)
  ·exact .inr hr
  ·refine .inl ?_
   have:ρn i=ρ i:=if_neg hr
   rw[this] at hi;exact hi
 ·intro b hb
  rcases hb with hb|⟨h1,(⟨j,s,hj,hr⟩|⟨hT,hx⟩)|h2⟩
  ·exact .inl hb
  ·obtain⟨o,b',s',k1,k2,_⟩:=hown j hj
   exact .inr (.inr ⟨σ.getD j 0,o,s,hkeys _ (hmem j hj),k1,hr⟩)
  ·exact .inr (.inl ⟨.inr ⟨htrIn hT,hx⟩,(hJ' b h1).1⟩)
  ·exact .inr (.inl ⟨.inl h2,(hJ' b h1).1⟩)
 ·intro id o ho
  obtain⟨j,hj,rfl,rfl⟩:=hlook id o ho
  obtain⟨b,s,k1,k2,k3,k4⟩:=hobj' j hj
  refine⟨b,s,hout _ _ k1,convO k2 (λh=>(hfz h).2 j hj),?_,?_⟩
  ·rintro(h1|⟨h1,_⟩)
   ·rcases k3 with k3|k3
    ·exact(hIc b k3).2 h1
    ·have:=hs.jlt b h1;omega
   ·exact k4 h1
  ·rcases k3 with(⟨i,s2,hi,hr⟩|⟨hT,hx⟩)|k3
   ·obtain⟨o,b',s',q1,q2,_⟩:=hown i hi
    exact .inr ⟨σ.getD i 0,o,s2,hkeys _ (hmem i hi),q1,hr⟩
   ·exact .inl (.inr ⟨htrIn hT,hx⟩)
   ·exact .inl (.inl k3)
 ·intro id id' o o' b s s' h1 h2 h3 h4
  obtain⟨j,hj,rfl,rfl⟩:=hlook id o h1
  obtain⟨j',hj',rfl,rfl⟩:=hlook id' o' h2
  obtain⟨b1,s1,k1,_⟩:=hobj' j hj
  obtain⟨b2,s2,k2,_⟩:=hobj' j' hj'
  have e1:=hout _ _ k1;rw[h3] at e1;cases e1
  have e2:=hout _ _ k2;rw[h4] at e2;cases e2
  rw[hinj' j j' b _ _ k1 k2]
 ·intro hup
  have hT:=hT' hup
  obtain⟨H0,hH0⟩:=hT
  -- the caller's only one is handed over
  have hone:∀{id H k},st.ob id=some (.tr H k)->id∈(eP σ m nid cobjs').map (·.1):=λ{id H k} h=>by
   obtain⟨k0,hk0⟩:=mO.1 hH0
   obtain⟨j,hj,e⟩:=List.getElem_of_mem hk0
   obtain⟨g1,g2,_⟩:=htr0 (j:=j) (H:=H0) (k:=k0) (by rw[List.getElem?_eq_getElem hj,e])
   rw[hs.hid.one _ _ _ _ _ _ h g2]
   exact hkeys _ (hmem j g1)
  have hin:∀{id H k},(st.app none ⟨ren (eX σ m nid) r,eP σ m nid cobjs'⟩).ob id=some (.tr H k)->∃j,∃(h:j<cobjs'.length),id=eX σ m nid j/\cobjs'[j]= .tr H k:=λ{id H k} h=>by
   rw[St.ob_app] at h
   split at h
   ·rename_i hk;exact htr' (hkmem hk h)
   ·rename_i hk;exact absurd (hone h) hk
  refine⟨λid id' H H' k k' h1 h2=>?_,λid H k h=>?_⟩
  ·obtain⟨j,hj,rfl,e1⟩:=hin h1
   obtain⟨j',hj',rfl,e2⟩:=hin h2
   rw[hhid'.one j j' H H' k k' (by rw[List.getElem?_eq_getElem hj,e1]) (by rw[List.getElem?_eq_getElem hj',e2])]
  ·obtain⟨j,hj,rfl,e1⟩:=hin h
   obtain⟨k1,_⟩:=hhid'.on j H k (by rw[List.getElem?_eq_getElem hj,e1])
   have hB:(∀b,H.B b->b<c.w0.heap.size/\¬c.I b)/\c.tr H:=by
    have:H∈trs cobjs:=by rw[<-htr];exact mO.2 ⟨k,e1▸List.getElem_mem hj⟩
    obtain⟨k0,hk0⟩:=mO.1 this
    obtain⟨i,hi,e⟩:=List.getElem_of_mem hk0
    obtain⟨g1,g2,_⟩:=htr0 (j:=i) (H:=H) (k:=k0) (by rw[List.getElem?_eq_getElem hi,e])
    exact(hs.hid.on _ _ _ g2).2
   refine⟨H.keep k1 (Nat.le_refl _) rfl rfl rfl (λ_ _=>rfl) (λb hb=>?_) (λb hb=>⟨hb.1,λhB'=>?_,λe=>?_⟩),hB⟩
   ·obtain⟨g1,g2,g3,g4⟩:=hb
    refine⟨g1,?_,?_,λid o s ho hr=>?_⟩
    ·rcases g2 with g2|g2
     ·exact(hIc b g2).1
     ·have:=hs.kept.size;exact .inr (Nat.le_trans this g2)
    ·rintro(h1|⟨h1,_⟩)
     ·rcases g2 with g2|g2
      ·exact(hIc b g2).2 h1
      ·have:=hs.jlt b h1;have g2:w.heap.size<=b:=g2;omega
     ·exact g3 h1
    ·rw[St.ob_app] at ho
     split at ho
     ·rename_i hk
      obtain⟨i,hi,rfl,rfl⟩:=hlook id o (hkmem hk ho)
      obtain⟨b1,s1,q1,_⟩:=hobj' i hi
      have e1:=hout _ _ q1;rw[hr] at e1;cases e1
      exact g4 i _ _ (List.getElem?_eq_getElem hi) q1
     ·rename_i hk
      obtain⟨b1,s1,q1,q2,_⟩:=hs.obj id o ho
      have e1:=hρmono _ _ q1;rw[hr] at e1;cases e1
      rcases g2 with(⟨i,s2,hi,hr2⟩|⟨_,hx⟩)|g2
      ·obtain⟨o2,b',s',p1,p2,_⟩:=hown i hi
       exact hk (by rw[hs.inj _ _ _ _ _ _ _ ho p1 q1 hr2];exact hkeys _ (hmem i hi))
      ·exact hx.2.2.2 _ _ _ ho q1
      ·have:=q2.lt;have g2:w.heap.size<=b:=g2;omega
   ·have:=hB.1 b hB'
    rcases hb.2.1 with h|h
    ·exact this.2 h
    ·omega
   ·obtain⟨b1,s1,q1,⟨q2,_⟩,_⟩:=e1▸hobj' j hj
    subst q2;subst e
    exact hb.2.2.2 _ _ _ h (hout _ _ q1)
theorem OQ{dst:Option Nat} {ty:TypeId} {pos:String} {af:Array Edge} {g:Option (Nat×Bool)} {nid:Nat} {st:St} {f:FuncId} {xs:Array Operand} {tys:Array TypeId}
 {cargs:List AV} {cobjs:List aC} {m:Nat} {r:AV} {cobjs':List aC} (hc:ACall P f cargs cobjs m r cobjs') (σ:List Nat) (fz:Bool) (hp:ol P f=true) (hm:m<=cobjs.length) (hm':m<=cobjs'.length)
 (hσ:σ.length=cobjs.length) (hnd:σ.Nodup) (hlt:∀i∈σ,i<nid)
 (hob:∀j (h:j<cobjs.length),∃o,st.ob (σ.getD j 0)=some o/\cobjs[j]=toO st σ fz o)
 (hargs:cargs=xs.toList.map λx=>toA st σ fz 8 (st.op x))
 (hfz:fz=true->noImm r/\∀j (h:j<cobjs'.length),l7 cobjs'[j]) (htr:trs cobjs'=trs cobjs):
 OpT P ⟨dst,.call ⟨.value (.func f),xs,tys⟩,ty,pos,af,g⟩ nid (cobjs'.length-m) st ⟨ren (eX σ m nid) r,eP σ m nid cobjs'⟩:=by
 refine Bt (xvs:=xs.toList.map λx=>st.op x) hc σ fz hm hm' (λc ρ D J a w hs=>⟨xs.map a.eval,?_,by simp,λj hj=>?_⟩) hσ hnd hlt hob (by rw[hargs,List.map_map];rfl) hfz htr
 ·simp[execOp,resolve,Act.eval,Deferred.ofValue,invoke,yS hp]
 ·have hj':j<xs.size:=by simpa using hj
  have:=hs.op xs[j]
  simpa[Array.getD,hj'] using this
end
end
