/- Sym4 Sym5 Sym6 Sym7 Sym8. No condition. -/
import Derived.Test.YtgmpdplpodemaaaGreatDoorSymG1
set_option linter.all false
namespace Go.Sy
section
structure gP(w w':World)(o:Obj):Prop where
 heap:w'.heap=w.heap.push o
 os:w'.os=w.os
 tape:w'.tape=w.tape
 output:w'.output=w.output
theorem gP.alloc(w:World)(o:Obj):gP w (w.alloc o) o:=⟨rfl,rfl,rfl,rfl⟩
theorem gP.drew(w:World)(o:Obj):gP w (w.drew.alloc o) o:=⟨rfl,rfl,rfl,rfl⟩
theorem gP.old{w w':World} {o:Obj}(h:gP w w' o){b:Nat}(hb:b<w.heap.size):w'.heap[b]? =w.heap[b]? :=by
 rw[h.heap,Array.getElem?_push,if_neg (by omega)]
theorem gP.size{w w':World} {o:Obj}(h:gP w w' o):w'.heap.size=w.heap.size+1:=by rw[h.heap,Array.size_push]
theorem gP.new{w w':World} {o:Obj}(h:gP w w' o):w'.heap[w.heap.size]? =some o:=by rw[h.heap];simp
def Rho.add(ρ:Rho)(id b s:Nat):Rho:=fun i=>if i=id then some (b,s) else ρ i
theorem Rho.add_mono{ρ:Rho} {id b s:Nat}(h:ρ id=none):∀i p,ρ i=some p→(ρ.add id b s) i=some p:=by
 intro i p hi;unfold Rho.add;split
 ·rename_i e;subst e;rw[h] at hi;cases hi
 ·exact hi
theorem Rep.grew{w w':World} {J:Nat→Prop} {ρ ρ':Rho} {o:Obj}(g:gP w w' o)(hρ:∀i p,ρ i=some p→ρ' i=some p){v:Value} {x:AV}(h:Rep w J ρ v x):Rep w' J ρ' v x:=by
 refine h.mono (J:=J) (J':=J) ?_ (by rw[g.size];omega) hρ
 exact fun b hb hlt=>⟨hb,g.old hlt⟩
section
variable {P:Program} {dst:Option Nat} {ty:TypeId} {pos:String} {af:Array Edge} {g:Option (Nat×Bool)} {nid:Nat} {st:St}
theorem OpT.alloc{o:Oper} {x:AV} {ob:aC}
 (h:∀(c:Ctx) (ρ:Rho) (D J:Nat→Prop) (a:Act) (w:World),Sim c ρ D J st a w→∃v w' obj s,(execOp a.eval o).run P w= .ok (.value v) w'∧gP w w' obj∧
   ∀ρ':Rho,ρ' nid=some (w.heap.size,s)→(∀i p,ρ i=some p→ρ' i=some p)→Rep w' J ρ' v x∧ObjRep w' J ρ' w.heap.size s ob)
 (ht:ob.isTr=false:=by rfl):OpT P o nid 1 st ⟨x,[(nid,some ob)]⟩:=by
 intro c ρ D J a w hs hD _ K Q hK
 obtain⟨v,w',obj,s,hr,hg,hrep⟩:=h c ρ D J a w hs
 have hn:ρ nid=none:=by
  cases hp:ρ nid with
  |none=>rfl
  |some p=>exact absurd (hs.dom nid p hp) (hD nid (Nat.le_refl _) (by omega))
 have hmono:=Rho.add_mono (b:=w.heap.size) (s:=s) hn
 have hnew:(ρ.add nid w.heap.size s) nid=some (w.heap.size,s):=by simp[Rho.add]
 obtain⟨h1,h2⟩:=hrep _ hnew hmono
 refine kE hr ?_
 refine hK v w' (ρ.add nid w.heap.size s) J ⟨by rw[hg.size];omega,hg.os,hg.tape,hg.output,fun b hb _ _=>hg.old hb,hmono,?_,fun _ h=>h,fun _ h=> .inl h,h1,?_,?_,fun h=>absurd h (oz ht kC)⟩
 ·intro i p hi
  unfold Rho.add at hi
  split at hi
  ·rename_i e;exact .inr (by omega)
  ·exact .inl hi
 ·intro id o' ho
  simp only[aS] at ho
  split at ho
  ·rename_i e;subst e;cases ho
   exact⟨w.heap.size,s,hnew,h2,fun hj=>by have:=hs.jlt _ hj;omega,.inl (.inl (Nat.le_refl _))⟩
  ·cases ho
 ·intro id id' o1 o2 b s1 s2 h1 h2 _ _
  simp only[aS] at h1 h2
  split at h1
  ·split at h2
   ·omega
   ·cases h2
  ·cases h1
theorem OpT.modify{o:Oper} {x:AV} {id:Nat} {o0 o1:aC}(ho:st.ob id=some o0)
 (h:∀(c:Ctx) (ρ:Rho) (D J:Nat→Prop) (a:Act) (w:World) (b s:Nat),Sim c ρ D J st a w→ρ id=some (b,s)→ObjRep w J ρ b s o0→¬J b→
   ∃nx w' v,(execOp a.eval o).run P w= .ok nx w'∧(nx= .value v∨nx= .skip∧v=undef)∧w'.heap.size=w.heap.size∧w'.os=w.os∧w'.tape=w.tape∧w'.output=w.output∧
    (∀k,k≠b→w'.heap[k]? =w.heap[k]?)∧((∀u y,Rep w J ρ u y→Rep w' J ρ u y)→Rep w' J ρ v x∧ObjRep w' J ρ b s o1))
 (ht:o1.isTr=false:=by rfl):OpT P o nid 0 st ⟨x,[(id,some o1)]⟩:=by
 intro c ρ D J a w hs hD _ K Q hK
 obtain⟨b,s,hρ,hob,_,hnJ⟩:=hs.obj id o0 ho
 obtain⟨nx,w',v,hr,hnx,hsz,hos,htp,hout,hoth,hrep⟩:=h c ρ D J a w b s hs hρ hob hnJ
 obtain⟨h1,h2⟩:=hrep (fun u y hu=>hu.mono (J:=J) (J':=J) (fun k hk _=>⟨hk,hoth k (fun e=>hnJ (e▸hk))⟩) (by omega) (fun _ _ h=>h))
 have hpost:LG c nid 0 st ⟨x,[(id,some o1)]⟩ ρ ρ J J w w' v:=by
  refine⟨by omega,hos,htp,hout,?_,fun _ _ h=>h,fun _ _ h=> .inl h,fun _ h=>h,fun _ h=> .inl h,h1,?_,?_,fun h=>absurd h (oz ht kC)⟩
  ·intro k hk hne _
   exact hoth k (fun e=>hne id o0 s (by simp[Eff.keys]) ho (e▸hρ))
  ·intro i o' hi
   simp only[aS] at hi
   split at hi
   ·rename_i e;subst e;cases hi
    exact⟨b,s,hρ,h2,hnJ,.inr ⟨i,o0,s,by simp[Eff.keys],ho,hρ⟩⟩
   ·cases hi
  ·intro i i' o1 o2 b s1 s2 h1 h2 _ _
   simp only[aS] at h1 h2
   split at h1
   ·split at h2
    ·omega
    ·cases h2
   ·cases h1
 rcases hnx with rfl|⟨rfl,rfl⟩
 ·exact kE hr (hK v w' ρ J hpost)
 ·exact zU hr (hK undef w' ρ J hpost)
theorem OpT.regrow{o:Oper} {x:AV} {id:Nat} {o0 o1:aC}(ho:st.ob id=some o0)
 (h:∀(c:Ctx) (ρ:Rho) (D J:Nat→Prop) (a:Act) (w:World) (b s:Nat),Sim c ρ D J st a w→ρ id=some (b,s)→ObjRep w J ρ b s o0→¬J b→
   ∃w' v b' s',(execOp a.eval o).run P w= .ok (.value v) w'∧w.heap.size≤w'.heap.size∧w'.os=w.os∧w'.tape=w.tape∧w'.output=w.output∧(b'=b∨b'=w.heap.size)∧
    (∀k,k<w.heap.size→k≠b→w'.heap[k]? =w.heap[k]?)∧
    ∀ρ':Rho,ρ' nid=some (b',s')→(∀i p,ρ i=some p→ρ' i=some p)→(∀u y,Rep w J ρ u y→Rep w' J ρ' u y)→Rep w' J ρ' v x∧ObjRep w' J ρ' b' s' o1)
 (ht:o1.isTr=false:=by rfl):OpT P o nid 1 st ⟨x,[(nid,some o1),(id,none)]⟩:=by
 intro c ρ D J a w hs hD _ K Q hK
 obtain⟨b,s,hρ,hob,_,hnJ⟩:=hs.obj id o0 ho
 obtain⟨w',v,b',s',hr,hsz,hos,htp,hout,hbb,hoth,hrep⟩:=h c ρ D J a w b s hs hρ hob hnJ
 have hn:ρ nid=none:=by
  cases hp:ρ nid with
  |none=>rfl
  |some p=>exact absurd (hs.dom nid p hp) (hD nid (Nat.le_refl _) (by omega))
 have hmono:=Rho.add_mono (b:=b') (s:=s') hn
 have hnew:(ρ.add nid b' s') nid=some (b',s'):=by simp[Rho.add]
 obtain⟨h1,h2⟩:=hrep _ hnew hmono (fun u y hu=>hu.mono (J:=J) (J':=J) (fun k hk hlt=>⟨hk,hoth k hlt (fun e=>hnJ (e▸hk))⟩) hsz hmono)
 refine kE hr ?_
 refine hK v w' (ρ.add nid b' s') J ⟨hsz,hos,htp,hout,?_,hmono,?_,fun _ h=>h,fun _ h=> .inl h,h1,?_,?_,fun h=>absurd h (oz ht (kD kC))⟩
 ·intro k hk hne _
  exact hoth k hk (fun e=>hne id o0 s (by simp[Eff.keys]) ho (e▸hρ))
 ·intro i p hi
  unfold Rho.add at hi
  split at hi
  ·rename_i e;exact .inr (by omega)
  ·exact .inl hi
 ·intro i o' hi
  simp only[aS] at hi
  split at hi
  ·rename_i e;subst e;cases hi
   refine⟨b',s',hnew,h2,?_,?_⟩
   ·rcases hbb with rfl|rfl
    ·exact hnJ
    ·intro hj;have:=hs.jlt _ hj;omega
   ·rcases hbb with rfl|rfl
    ·exact .inr ⟨id,o0,s,by simp[Eff.keys],ho,hρ⟩
    ·exact .inl (.inl (Nat.le_refl _))
  ·split at hi
   ·cases hi
   ·cases hi
 ·intro i i' o1 o2 b s1 s2 h1 h2 _ _
  simp only[aS] at h1 h2
  split at h1
  ·split at h2
   ·omega
   ·split at h2<;>cases h2
  ·split at h1<;>cases h1
def AV.parts:AV→Option (List AV)
 | .agg cs=>some cs
 | .tup _| .any=>none
 | .val v=>if v.oneCell' then some [.val v] else none
 |x=>some [x]
theorem oF{w:World} {J:Nat→Prop} {ρ:Rho} {v:Value} {x:AV} {cs:List AV}(h:Rep w J ρ v x)(hc:x.parts=some cs)(hs:cs.all AV.scalar=true):
 v.cells.size=cs.length∧∀j (hj:j<cs.length),(v.cells.getD j undef).oneCell'=true∧Rep w J ρ (v.cells.getD j undef) cs[j]:=by
 have one:∀{v:Value} {x:AV},Rep w J ρ v x→x.scalar=true→v.cells= #[v]→cs=[x]→v.cells.size=cs.length∧∀j (hj:j<cs.length),(v.cells.getD j undef).oneCell'=true∧Rep w J ρ (v.cells.getD j undef) cs[j]:=by
  intro v x h hx hv hcs
  subst hcs
  rw[hv]
  refine⟨rfl,fun j hj=>?_⟩
  have:j=0:=by simpa using hj
  subst this
  exact⟨h.oneCell hx,h⟩
 cases h with
 |agg vs _ h1 h2=>
  simp only[AV.parts,Option.some.injEq] at hc
  subst hc
  refine⟨h1,fun j hj=>⟨(h2 j hj).oneCell ?_,h2 j hj⟩⟩
  exact List.all_eq_true.1 hs _ (List.getElem_mem hj)
 |val v=>
  simp only[AV.parts] at hc
  split at hc
  ·rename_i hv
   simp only[Option.some.injEq] at hc
   exact one (.val v) hv (by cases v<;>first|rfl|cases hv) hc.symm
  ·cases hc
 |any v=>cases hc
 |tup=>cases hc
 |inil=>simp only[AV.parts,Option.some.injEq] at hc;exact one .inil rfl rfl hc.symm
 |iemp a cap=>simp only[AV.parts,Option.some.injEq] at hc;exact one (.iemp a cap) rfl rfl hc.symm
 |isl b off len cap cells u hb hcc h0 h1 h2=>simp only[AV.parts,Option.some.injEq] at hc;exact one (.isl b off len cap cells u hb hcc h0 h1 h2) rfl rfl hc.symm
 |ipt b off k cells u hb h0 h1 h2=>simp only[AV.parts,Option.some.injEq] at hc;exact one (.ipt b off k cells u hb h0 h1 h2) rfl rfl hc.symm
 |sl b s id off len es cap h hcc hs'=>simp only[AV.parts,Option.some.injEq] at hc;exact one (.sl b s id off len es cap h hcc hs') rfl rfl hc.symm
 |pt b s id off h=>simp only[AV.parts,Option.some.injEq] at hc;exact one (.pt b s id off h) rfl rfl hc.symm
 |mp b s id h=>simp only[AV.parts,Option.some.injEq] at hc;exact one (.mp b s id h) rfl rfl hc.symm
 |yl b s id h=>simp only[AV.parts,Option.some.injEq] at hc;exact one (.yl b s id h) rfl rfl hc.symm
 |fn f vs cs' h1 h2=>simp only[AV.parts,Option.some.injEq] at hc;exact one (.fn f vs cs' h1 h2) rfl rfl hc.symm
def CRep(w:World)(J:Nat→Prop)(ρ:Rho)(c:Array Value)(cs:List AV):Prop:=cs.length≤c.size∧(∀j (h:j<cs.length),(c.getD j undef).oneCell'=true∧Rep w J ρ (c.getD j undef) cs[j])∧c.all Value.oneCell'=true
def spl{α:Type}(cs:List α)(off:Nat)(vs:List α):List α:=cs.take off++(vs++cs.drop (off+vs.length))
theorem Ri{α:Type}(cs:List α)(off:Nat)(v:α)(h:off<cs.length):spl cs off [v]=cs.set off v:=by
 unfold spl;rw[List.set_eq_take_append_cons_drop,if_pos h];rfl
theorem CRep.splice{w:World} {J:Nat→Prop} {ρ:Rho} {c:Array Value} {cs avs:List AV} {vs:List Value} {off:Nat}(h:CRep w J ρ c cs)(hl:vs.length=avs.length)
 (hv:∀j (hj:j<avs.length),(vs.getD j undef).oneCell'=true∧Rep w J ρ (vs.getD j undef) avs[j]) (ho:off≤cs.length) (hs:off+vs.length≤c.size):
 CRep w J ρ (c.toList.take off++vs++c.toList.drop (off+vs.length)).toArray (spl cs off avs)∧(c.toList.take off++vs++c.toList.drop (off+vs.length)).toArray.size=c.size:=by
 have hsz:(c.toList.take off++vs++c.toList.drop (off+vs.length)).toArray.size=c.size:=by simp;omega
 have h1:=h.1
 have hall:(c.toList.take off++vs++c.toList.drop (off+vs.length)).toArray.all Value.oneCell'=true:=by
  have hc:=h.2.2
  rw[Array.all_eq_true_iff_forall_mem] at hc⊢
  intro u hu
  simp only[List.mem_toArray,List.mem_append] at hu
  rcases hu with(hu|hu)|hu
  ·exact hc u (by simpa using List.mem_of_mem_take hu)
  ·obtain⟨j,hj,rfl⟩:=List.getElem_of_mem hu
   have:=(hv j (by omega)).1
   simpa[List.getD_eq_getElem?_getD,hj] using this
  ·exact hc u (by simpa using List.mem_of_mem_drop hu)
 refine⟨⟨by rw[hsz];simp[spl];omega,fun j hj=>?_,hall⟩,hsz⟩
 have hj':j<off+(avs.length+(cs.length-(off+avs.length))):=by
  simp[spl] at hj;omega
 have hto:off≤c.toList.length:=by simp;omega
 have eA:(c.toList.take off++vs++c.toList.drop (off+vs.length)).toArray.getD j undef=if j<off then c.getD j undef else if j<off+vs.length then vs.getD (j-off) undef else c.getD j undef:=by
  simp only[Array.getD_eq_getD_getElem?,List.getElem?_toArray,List.append_assoc]
  by_cases h1:j<off
  ·rw[if_pos h1,List.getElem?_append_left (by simp;omega),List.getElem?_take_of_lt h1];simp
  ·rw[if_neg h1,List.getElem?_append_right (by simp;omega)]
   simp only[List.length_take,Nat.min_eq_left hto]
   by_cases h2:j<off+vs.length
   ·rw[if_pos h2,List.getElem?_append_left (by omega)];simp[List.getD_eq_getElem?_getD]
   ·rw[if_neg h2,List.getElem?_append_right (by omega),List.getElem?_drop]
    rw[show off+vs.length+(j-off-vs.length)=j by omega];simp
 have eB:∀y,(spl cs off avs)[j]? =some y→(if j<off then cs[j]? else if j<off+avs.length then avs[j-off]? else cs[j]?)=some y:=by
  intro y
  unfold spl
  by_cases h1:j<off
  ·rw[if_pos h1,List.getElem?_append_left (by simp;omega),List.getElem?_take_of_lt h1];exact id
  ·rw[if_neg h1,List.getElem?_append_right (by simp;omega)]
   simp only[List.length_take,Nat.min_eq_left ho]
   by_cases h2:j<off+avs.length
   ·rw[if_pos h2,List.getElem?_append_left (by omega)];exact id
   ·rw[if_neg h2,List.getElem?_append_right (by omega),List.getElem?_drop]
    rw[show off+avs.length+(j-off-avs.length)=j by omega];exact id
 rw[eA]
 have hB:=eB _ (List.getElem?_eq_getElem hj)
 generalize(spl cs off avs)[j]=y at hB
 by_cases h1:j<off
 ·rw[if_pos h1] at hB⊢
  obtain⟨hlt,rfl⟩:=List.getElem?_eq_some_iff.1 hB
  exact h.2.1 j hlt
 ·rw[if_neg h1] at hB⊢
  rw[←hl] at hB
  by_cases h2:j<off+vs.length
  ·rw[if_pos h2] at hB⊢
   obtain⟨hlt,rfl⟩:=List.getElem?_eq_some_iff.1 hB
   exact hv _ hlt
  ·rw[if_neg h2] at hB⊢
   obtain⟨hlt,rfl⟩:=List.getElem?_eq_some_iff.1 hB
   exact h.2.1 j hlt
theorem CRep.imp{w w':World} {J:Nat→Prop} {ρ ρ':Rho} {c:Array Value} {cs:List AV}(h:CRep w J ρ c cs)(hi:∀u y,Rep w J ρ u y→Rep w' J ρ' u y):CRep w' J ρ' c cs:=
 ⟨h.1,fun j hj=>⟨(h.2.1 j hj).1,hi _ _ (h.2.1 j hj).2⟩,h.2.2⟩
def iM(P:Program)(t:TypeId):Option (List Value):=((P.info? t).bind (·.zero)).map (·.cells.toList)
theorem mr{w:World} {t:TypeId} {zs:List Value}(h:iM P t=some zs):∃z,(zeroValue t).run P w= .ok z w∧z.cells=zs.toArray:=by
 unfold iM at h
 cases hi:P.info? t with
 |none=>simp[hi] at h
 |some i=>
  cases hz:i.zero with
  |none=>simp[hi,hz] at h
  |some z=>
   simp[hi,hz] at h
   exact⟨z,by simp[zeroValue,typeInfo,hi,hz],by rw[←h]⟩
theorem y5{w:World} {J:Nat→Prop} {ρ:Rho}(vs:List Value)(h:vs.all Value.oneCell'=true):CRep w J ρ vs.toArray (vs.map ofV):=by
 refine⟨by simp,fun j hj=>?_,by simpa using h⟩
 have hj':j<vs.length:=by simpa using hj
 have e:vs.toArray.getD j undef=vs[j]:=by simp[Array.getD,hj']
 rw[e]
 exact⟨List.all_eq_true.1 h _ (List.getElem_mem hj'),by simpa using mq vs[j]⟩
theorem kF{w:World}(e:TypeId)(c:Array Value):(newRow e c).run P w= .ok ⟨w.heap.size,0,none⟩ (w.alloc (.cells c e)):=by
 rfl
theorem JD(e:TypeId)(zs:List Value)(hz:iM P e=some zs)(h1:zs.all Value.oneCell'=true):
 OpT P ⟨dst,.alloc e,ty,pos,af,g⟩ nid 1 st ⟨.pt nid 0,[(nid,some (.cells (zs.map ofV) e))]⟩:= .alloc fun c ρ D J a w h=>by
 obtain⟨z,hr,hc⟩:=mr (w:=w) hz
 refine⟨.pointer (some ⟨w.heap.size,0,none⟩),w.alloc (.cells zs.toArray e),.cells zs.toArray e,zs.length,?_,gP.alloc w _,fun ρ' h1' h2'=>⟨.pt _ _ nid 0 h1',zs.toArray,(gP.alloc w _).new,rfl,(y5 (J:=J) (ρ:=ρ') zs h1)⟩⟩
 simp[execOp,Instr.alloc,hr,newVar,hc,kF]
theorem Rj(e:TypeId)(x:Operand)(cs:List AV)(hx:(st.op x).parts=some cs)(hs:cs.all AV.scalar=true):
 OpT P ⟨dst,.box e x,ty,pos,af,g⟩ nid 1 st ⟨.pt nid 0,[(nid,some (.cells cs e))]⟩:= .alloc fun c ρ D J a w h=>by
 obtain⟨h1,h2⟩:=oF (h.op x) hx hs
 refine⟨.pointer (some ⟨w.heap.size,0,none⟩),w.alloc (.cells (a.eval x).cells e),.cells (a.eval x).cells e,cs.length,?_,gP.alloc w _,fun ρ' h1' h2'=>⟨.pt _ _ nid 0 h1',(a.eval x).cells,(gP.alloc w _).new,h1,Nat.le_refl _,fun j hj=>⟨(h2 j hj).1,(h2 j hj).2.grew (gP.alloc w _) h2'⟩,?all⟩⟩
 ·simp[execOp,Instr.box,newVar,kF]
 ·rw[Array.all_eq_true_iff_forall_mem]
  intro u hu
  obtain⟨j,hj,rfl⟩:=Array.getElem_of_mem hu
  have:=(h2 j (by omega)).1
  simpa[Array.getD,hj] using this
theorem JE(t:TypeId)(x y:Operand)(id off n:Nat)(cs vs:List AV)(e:TypeId)(hx:st.op x= .pt id off)(ho:st.ob id=some (.cells cs e))(hy:(st.op y).parts=some vs)(hs:vs.all AV.scalar=true)
 (hz:siz P t=some n) (hn:vs.length=n) (hlt:off+n≤cs.length):
 OpT P ⟨dst,.store t x y,ty,pos,af,g⟩ nid 0 st ⟨.any,[(id,some (.cells (spl cs off vs) e))]⟩:=OpT.modify ho fun c ρ D J a w b s h hρ hob hJ=>by
 obtain⟨arr,ha,hsz,hcr⟩:=hob
 obtain⟨h1,h2⟩:=oF (h.op y) hy hs
 have hxv:=h.op x
 rw[hx] at hxv
 generalize hv:a.eval x=v at hxv
 cases hxv with
 |pt b' s' _ _ hρ'=>
  rw[hρ] at hρ';cases hρ'
  have hcr':CRep w J ρ arr cs:=⟨by have:=hcr.1;omega,hcr.2⟩
  have hcells:∀v∈(a.eval y).cells.toList,v.oneCell'=true:=by
   intro u hu
   obtain⟨j,hj,rfl⟩:=List.getElem_of_mem hu
   have hj':j<vs.length:=by rw[←h1];simpa using hj
   have:=(h2 j hj').1
   simpa[Array.getD,h1,hj'] using this
  have hlen:(a.eval y).cells.toList.length=vs.length:=by simpa using h1
  have hst:=run_storeCells_at P b off e (a.eval y).cells.toList 0 arr w ha (by have:=hcr.1;omega) hcells
  simp only[Nat.add_zero] at hst
  have hsp:=hcr'.splice (avs:=vs) (vs:=(a.eval y).cells.toList) (off:=off) hlen (fun j hj=>by
   have:=h2 j hj
   rwa [show(a.eval y).cells.toList.getD j undef=(a.eval y).cells.getD j undef by simp[List.getD_eq_getElem?_getD,Array.getD_eq_getD_getElem?]]) (by omega) (by have:=hcr.1;omega)
  refine⟨.skip,w.setRow b (arr.toList.take off++(a.eval y).cells.toList++arr.toList.drop (off+(a.eval y).cells.toList.length)).toArray,undef,?_,.inr ⟨rfl,rfl⟩,?_,?_,?_,?_,?_,fun hi=>⟨.any _,_,setRow_heap w b arr _ e _ ha,?_,?_,?_⟩⟩
  ·simp only[execOp,hv,Instr.storeAt,Instr.sureAddr,storeVar,Sem.run_bind,Sem.run_pure,Result.andThen_ok,cK hz,h1,hn,ne_eq,not_true,if_false]
   rw[hst];rfl
  ·simp
  ·rfl
  ·rfl
  ·rfl
  ·intro k hk;exact setRow_other w b k _ hk
  ·rw[hsp.2];exact hsz
  ·have:=(hsp.1.imp hi).1;rw[hsp.2,hsz] at this;exact this
  ·exact(hsp.1.imp hi).2
end
end
section
def qR(P:Program)(t:TypeId):Option (List (Nat×Nat)):=match P.underlying t with
 |some (.struct fs)=>fs.toList.mapM fun f=>(siz P f.type).map fun n=>(f.offset,n)
 |_=>none
def VRep(w:World)(J:Nat→Prop)(ρ:Rho)(c:Array Value)(cs:List AV):Prop:=c.size=cs.length∧∀j (h:j<cs.length),Rep w J ρ (c.getD j undef) cs[j]
theorem VRep.set{w:World} {J:Nat→Prop} {ρ:Rho} {c:Array Value} {cs:List AV}(h:VRep w J ρ c cs)(i:Nat){v:Value} {x:AV}(hv:Rep w J ρ v x):VRep w J ρ (c.setIfInBounds i v) (cs.set i x):=by
 refine⟨by simpa using h.1,fun j hj=>?_⟩
 have hj':j<cs.length:=by simpa using hj
 have hjc:j<c.size:=by rw[h.1];exact hj'
 have:=h.2 j hj'
 rw[List.getElem_set]
 by_cases e:i=j
 ·subst e;simpa[Array.getD_eq_getD_getElem?,Array.getElem?_setIfInBounds,hjc] using hv
 ·rw[if_neg e];simpa[Array.getD_eq_getD_getElem?,Array.getElem?_setIfInBounds,e] using this
def jZ(cs:List AV)(off:Nat):List AV→List AV
 |[]=>cs
 |v::vs=>jZ (cs.set off v) (off+1) vs
def jE(place:Nat→Option (Nat×Nat))(cells:List AV):List (Nat×AV)→Option (List AV)
 |[]=>some cells
 |(i,x)::rest=>
  match place i,x.parts with
  |some (off,size),some vs=>if vs.length=size∧off+size≤cells.length∧vs.all AV.scalar=true then jE place (jZ cells off vs) rest else none
  |_,_=>none
theorem Cc{w:World} {J:Nat→Prop} {ρ:Rho}(vs:List AV):∀(us:List Value) (k off:Nat) (c:Array Value) (cs:List AV),VRep w J ρ c cs→us.length=vs.length→(∀j (hj:j<vs.length),Rep w J ρ (us.getD j undef) vs[j])→
 VRep w J ρ ((us.zipIdx k).foldl (fun cs (x:Value×Nat)=>cs.setIfInBounds (off+x.2) x.1) c) (jZ cs (off+k) vs):=by
 induction vs with
 |nil=>intro us k off c cs h hl _;cases us with|nil=>exact h|cons=>simp at hl
 |cons v vs ih=>
  intro us k off c cs h hl hr
  cases us with
  |nil=>simp at hl
  |cons u us=>
   simp only[List.zipIdx_cons,List.foldl_cons,jZ]
   have:=ih us (k+1) off (c.setIfInBounds (off+k) u) (cs.set (off+k) v) (h.set _ (by have:=hr 0 (by simp);simpa using this)) (by simpa using hl) (fun j hj=>by have:=hr (j+1) (by simpa using hj);simpa using this)
   rw[←Nat.add_assoc] at this
   exact this
theorem wW{w:World} {J:Nat→Prop} {ρ:Rho}(place:Nat→Option (Nat×Nat))(ps:List (Nat×AV)):∀(qs:List (Nat×Value)) (c:Array Value) (cs out:List AV),VRep w J ρ c cs→jE place cs ps=some out→
 qs.map (·.1)=ps.map (·.1)→(∀j (hj:j<ps.length),Rep w J ρ ((qs.map (·.2)).getD j undef) ps[j].2)→∃c',Instr.fill place c qs=some c'∧VRep w J ρ c' out:=by
 induction ps with
 |nil=>intro qs c cs out h ho hk _;cases qs with
  |nil=>simp only[jE,Option.some.injEq] at ho;subst ho;exact⟨c,rfl,h⟩
  |cons=>simp at hk
 |cons p ps ih=>
  intro qs c cs out h ho hk hr
  cases qs with
  |nil=>simp at hk
  |cons q qs=>
   obtain⟨i,x⟩:=p
   obtain⟨i',v⟩:=q
   simp only[List.map_cons,List.cons.injEq] at hk
   obtain⟨rfl,hk⟩:=hk
   simp only[jE] at ho
   split at ho
   ·rename_i off size vs hp hx
    split at ho
    ·rename_i hc
     obtain⟨h1,h2,h3⟩:=hc
     have hv:Rep w J ρ v x:=by have:=hr 0 (by simp);simpa using this
     obtain⟨hs,hp'⟩:=oF hv hx h3
     have hsz:v.cells.size=size:=by omega
     have hle:¬(off+v.cells.size>c.size):=by rw[hsz,h.1];omega
     have hrep:=Cc (w:=w) (J:=J) (ρ:=ρ) vs v.cells.toList 0 off c cs h (by simpa using hs) (fun j hj=>by
      have:=(hp' j hj).2
      rwa [show v.cells.toList.getD j undef=v.cells.getD j undef by simp[List.getD_eq_getElem?_getD,Array.getD_eq_getD_getElem?]])
     have hfold:v.cells.zipIdx.foldl (fun cs (x:Value×Nat)=>cs.setIfInBounds (off+x.2) x.1) c=(v.cells.toList.zipIdx 0).foldl (fun cs (x:Value×Nat)=>cs.setIfInBounds (off+x.2) x.1) c:=by
      rw[←Array.foldl_toList,Array.toList_zipIdx]
     rw[←hfold] at hrep
     obtain⟨c',hf,hv'⟩:=ih qs _ _ out hrep ho hk (fun j hj=>by have:=hr (j+1) (by simpa using hj);simpa using this)
     refine⟨c',?_,hv'⟩
     simp only[Instr.fill,hp]
     rw[if_neg (by simp[hsz];rw[←hsz];omega)]
     exact hf
    ·cases ho
   ·cases ho
section
variable {P:Program} {dst:Option Nat} {ty:TypeId} {pos:String} {af:Array Edge} {g:Option (Nat×Bool)} {nid:Nat} {st:St}
theorem EB{w:World} {t:TypeId} {l:List (Nat×Nat)}(h:qR P t=some l):∃fs,P.underlying t=some (.struct fs)∧((fs.mapM fun f=>do pure (f.offset,←sizeOf f.type):Sem (Array (Nat×Nat)))).run P w= .ok l.toArray w:=by
 unfold qR at h
 split at h
 ·rename_i fs hu
  refine⟨fs,hu,?_⟩
  rw[Array.mapM_eq_mapM_toList]
  generalize fs.toList=L at h
  have key:∀(L:List Field) (l:List (Nat×Nat)),L.mapM (fun f=>(siz P f.type).map fun n=>(f.offset,n))=some l→(L.mapM (fun f=>Functor.map (Prod.mk f.offset) (sizeOf f.type):Field→Sem (Nat×Nat))).run P w= .ok l w:=by
   intro L
   induction L with
   |nil=>intro l h;simp at h;subst h;rfl
   |cons f L ih=>
    intro l h
    simp only[List.mapM_cons,Option.bind_eq_bind,Option.bind_eq_some_iff] at h
    obtain⟨p,hp,q,hq,he⟩:=h
    cases hs:siz P f.type with
    |none=>simp[hs] at hp
    |some n=>
     simp[hs] at hp
     simp at he
     subst hp;subst he
     simp[List.mapM_cons,cK hs,ih q hq]
  simp[key L l h]
 ·cases h
theorem JF(t:TypeId)(ps:Array (Nat×Operand))(zs:List Value)(pl:List (Nat×Nat))(out:List AV)(hz:iM P t=some zs)(hp:qR P t=some pl)
 (hf:jE (pl[·]?) (zs.map ofV) (ps.toList.map fun p=>(p.1,st.op p.2))=some out):OpT P ⟨dst,.build t ps,ty,pos,af,g⟩ nid 0 st ⟨.agg out,[]⟩:= .pure fun c ρ D J a w h=>by
 obtain⟨z,hr,hc⟩:=mr (w:=w) hz
 obtain⟨fs,hu,hpl⟩:=EB (w:=w) hp
 have h0:VRep w J ρ z.cells (zs.map ofV):=by
  rw[hc]
  refine⟨by simp,fun j hj=>?_⟩
  have hj':j<zs.length:=by simpa using hj
  simpa[Array.getD,hj'] using mq zs[j]
 obtain⟨c',hfill,hv⟩:=wW (w:=w) (J:=J) (ρ:=ρ) (pl[·]?) (ps.toList.map fun p=>(p.1,st.op p.2)) (ps.toList.map fun p=>(p.1,a.eval p.2)) z.cells _ out h0 hf (by simp) (fun j hj=>by
  have hj':j<ps.toList.length:=by simpa using hj
  have:=h.op ps.toList[j].2
  simpa[List.getD_eq_getElem?_getD,List.getElem?_map,List.getElem?_eq_getElem hj'] using this)
 refine⟨.agg c',?_,.agg _ _ hv.1 hv.2⟩
 simp only[execOp,Instr.build,Sem.run_bind,hr,Result.andThen_ok,run_underlying hu,hpl]
 have e1:(Array.map (fun x=>(x.1,a.eval x.2)) ps).toList=List.map (fun p=>(p.1,a.eval p.2)) ps.toList:=by simp
 have e2:(fun x:Nat=>pl.toArray[x]?)=(fun x:Nat=>pl[x]?):=by funext x;simp
 simp[e1,e2,hfill]
def dU(zs:List Value)(n:Nat):List AV:=(List.replicate n (zs.map ofV)).flatten
theorem gu(zs:List Value)(n:Nat):(dU zs n).length=n*zs.length:=by simp[dU]
theorem Ce{α:Type}(l:List α)(n:Nat):∀j,j<n*l.length→((List.replicate n l).flatten)[j]? =l[j%l.length]? :=by
 induction n with
 |zero=>intro j hj;simp at hj
 |succ n ih=>
  intro j hj
  rw[List.replicate_succ,List.flatten_cons]
  by_cases h:j<l.length
  ·rw[List.getElem?_append_left h,Nat.mod_eq_of_lt h]
  ·rw[List.getElem?_append_right (by omega),ih (j-l.length) (by rw[Nat.add_mul,Nat.one_mul] at hj;omega)]
   rw[Nat.mod_eq_sub_mod (a:=j) (by omega)]
theorem oG{w:World} {J:Nat→Prop} {ρ:Rho} {z:Array Value} {zs:List Value}(hz:z=zs.toArray)(h1:zs.all Value.oneCell'=true)(n:Nat):CRep w J ρ (madeCells z (n*zs.length)) (dU zs n):=by
 subst hz
 have hall:(madeCells zs.toArray (n*zs.length)).all Value.oneCell'=true:=by
  rw[Array.all_eq_true_iff_forall_mem]
  intro u hu
  obtain⟨j,hj,rfl⟩:=Array.getElem_of_mem hu
  rw[size_madeCells] at hj
  have hpos:0<zs.length:=by
   rcases Nat.eq_zero_or_pos zs.length with h|h
   ·rw[h] at hj;simp at hj
   ·exact h
  have hm:j%zs.length<zs.length:=Nat.mod_lt _ hpos
  have:=List.all_eq_true.1 h1 _ (List.getElem_mem hm)
  simpa[madeCells,hm] using this
 refine⟨by rw[gu,size_madeCells];exact Nat.le_refl _,fun j hj=>?_,hall⟩
 rw[gu] at hj
 have hpos:0<zs.length:=by
  rcases Nat.eq_zero_or_pos zs.length with h|h
  ·rw[h] at hj;simp at hj
  ·exact h
 have hm:j%zs.length<zs.length:=Nat.mod_lt _ hpos
 have e:(madeCells zs.toArray (n*zs.length)).getD j undef=zs[j%zs.length]:=by
  simp[madeCells,Array.getD_eq_getD_getElem?,hj,hm]
 have e2:(dU zs n)[j]? =some (ofV zs[j%zs.length]):=by
  unfold dU
  rw[Ce _ _ _ (by simpa using hj)]
  simp[hm]
 rw[e]
 refine⟨List.all_eq_true.1 h1 _ (List.getElem_mem hm),?_⟩
 obtain⟨_,e3⟩:=List.getElem?_eq_some_iff.1 e2
 rw[e3]
 exact mq _
theorem jN{e:TypeId} {es:Nat} {zs:List Value}(h1:siz P e=some es)(h2:iM P e=some zs):∃i z,P.info? e=some i∧i.size=es∧i.zero=some z∧z.cells=zs.toArray:=by
 unfold siz at h1;unfold iM at h2
 cases hi:P.info? e with
 |none=>simp[hi] at h1
 |some i=>
  simp[hi] at h1 h2
  obtain⟨z,hz,rfl⟩:=h2
  exact⟨i,z,rfl,h1,hz,by simp⟩
theorem yH(t:TypeId)(l c':Operand)(e:TypeId)(es by':Nat)(zs:List Value)(kl kc:IntKind)(n:Int)(he:iL P t=some e)(hs:siz P e=some es)(hzs:iM P e=some zs)(hzl:zs.length=es)(h1:zs.all Value.oneCell'=true)
 (hb:byt P e=some by') (hl:st.op l= .val (.int kl n)) (hc:st.op c'= .val (.int kc n)) (h0:0≤n) (hn:n≤9223372036854775807) (hbytes:(by':Int)*n≤281474976710656):
 OpT P ⟨dst,.makeSlice t l c',ty,pos,af,g⟩ nid 1 st ⟨.sl nid 0 n.toNat es,[(nid,some (.cells (dU zs n.toNat) e))]⟩:= .alloc fun c ρ D J a w h=>by
 have e1:=h.op l;have e2:=h.op c'
 rw[hl] at e1;rw[hc] at e2
 have e1:=aG e1;have e2:=aG e2
 obtain⟨i,z,hi,his,hz,hzc⟩:=jN hs hzs
 have hb':i.bytes=by':=by unfold byt at hb;simpa[hi] using hb
 have hr:=run_make (P:=P) w t e i z (aV he) hi hz kl kc n n h0 (Int.le_refl _) (by rw[hb'];exact hbytes) hn
 have hcr:=fun ρ':Rho=>oG (w:=w.alloc (.cells (madeCells z.cells (n.toNat*i.size)) e)) (J:=J) (ρ:=ρ') hzc h1 n.toNat
 refine⟨.slice (some ⟨w.heap.size,0,none⟩) n.toNat n.toNat,_,_,n.toNat*es,?_,gP.alloc w (.cells (madeCells z.cells (n.toNat*i.size)) e),fun ρ' h1' h2'=>⟨.sl _ _ nid 0 n.toNat es n.toNat h1' (Nat.le_refl _) (by omega),madeCells z.cells (n.toNat*i.size),(gP.alloc w _).new,?_,?_,?_⟩⟩
 ·simp[execOp,e1,e2,hr]
 ·rw[size_madeCells,his]
 ·have:=(hcr ρ').1;rw[size_madeCells,hzl] at this;exact this
 ·rw[his,←hzl]
  have:=(hcr ρ').2
  rw[his,←hzl] at this
  exact this
theorem wX(t:TypeId)(len:Nat)(ps:Array (Nat×Operand))(e:TypeId)(es:Nat)(zs:List Value)(out:List AV)(he:iL P t=some e)(hs:siz P e=some es)(hzs:iM P e=some zs)(hzl:zs.length=es)(h1:zs.all Value.oneCell'=true)
 (hsmall:len*es≤16777216) (hf:jE (fun i=>some (i*es,es)) (dU zs len) (ps.toList.map fun p=>(p.1,st.op p.2))=some out) (hout:out.all AV.scalar=true) (hol:out.length=len*es):
 OpT P ⟨dst,.buildSlice t len ps,ty,pos,af,g⟩ nid 1 st ⟨.sl nid 0 len es,[(nid,some (.cells out e))]⟩:= .alloc fun c ρ D J a w h=>by
 obtain⟨i,z,hi,his,hz,hzc⟩:=jN hs hzs
 have hcr:=oG (w:=w) (J:=J) (ρ:=ρ) hzc h1 len
 have h0:VRep w J ρ (madeCells z.cells (len*es)) (dU zs len):=⟨by rw[size_madeCells,gu,hzl],fun j hj=>by have:=(hcr.2.1 j hj).2;rwa [hzl] at this⟩
 obtain⟨c',hfill,hv⟩:=wW (w:=w) (J:=J) (ρ:=ρ) _ (ps.toList.map fun p=>(p.1,st.op p.2)) (ps.toList.map fun p=>(p.1,a.eval p.2)) _ _ out h0 hf (by simp) (fun j hj=>by
  have hj':j<ps.toList.length:=by simpa using hj
  have:=h.op ps.toList[j].2
  simpa[List.getD_eq_getElem?_getD,List.getElem?_map,List.getElem?_eq_getElem hj'] using this)
 refine⟨.slice (some ⟨w.heap.size,0,none⟩) len len,w.alloc (.cells c' e),.cells c' e,len*es,?_,gP.alloc w _,fun ρ' h1' h2'=>⟨.sl _ _ nid 0 len es len h1' (Nat.le_refl _) (by omega),c',(gP.alloc w _).new,by rw[hv.1,hol],by rw[hol];exact Nat.le_refl _,fun j hj=>?_,?all⟩⟩
 ·have hsm:¬(len*es>2^24):=by omega
  have e1:(Array.map (fun x=>(x.1,a.eval x.2)) ps).toList=List.map (fun p=>(p.1,a.eval p.2)) ps.toList:=by simp
  have hzv:(zeroValue e).run P w= .ok z w:=by simp[zeroValue,typeInfo,hi,hz]
  simp only[execOp,Instr.buildSlice,Sem.run_bind,run_underlying (aV he),Result.andThen_ok,cK hs,if_neg hsm,Sem.run_pure,e1]
  by_cases h00:len*es=0
  ·have hm:(Array.range (len*es)).map (fun x=>(#[]:Array Value)[x%(#[]:Array Value).size]!)=madeCells z.cells (len*es):=by
    unfold madeCells;rw[h00];simp
   rw[if_pos h00]
   simp only[Sem.run_bind,Sem.run_pure,Result.andThen_ok,hm,hfill,kF]
  ·rw[if_neg h00]
   have hm:(Array.range (len*es)).map (fun x=>z.cells[x%z.cells.size]!)=madeCells z.cells (len*es):=rfl
   simp only[Sem.run_bind,hzv,Sem.run_pure,Result.andThen_ok,hm,hfill,kF]
 ·have:=hv.2 j hj
  have hsc:=List.all_eq_true.1 hout _ (List.getElem_mem hj)
  exact⟨this.oneCell hsc,this.grew (gP.alloc w _) h2'⟩
 ·rw[Array.all_eq_true_iff_forall_mem]
  intro u hu
  obtain⟨j,hj,rfl⟩:=Array.getElem_of_mem hu
  have hj':j<out.length:=by rw[←hv.1];exact hj
  have:=hv.2 j hj'
  have hsc:=List.all_eq_true.1 hout _ (List.getElem_mem hj')
  have:=this.oneCell hsc
  simpa[Array.getD,hj] using this
end
end
section
def jg:AV→Option Int
 | .val (.int _ n)=>some n
 |_=>none
def bq(st:St)(d:Nat):Option Operand→Option Int
 |none=>some d
 |some x=>jg (st.op x)
section
variable {P:Program} {dst:Option Nat} {ty:TypeId} {pos:String} {af:Array Edge} {g:Option (Nat×Bool)} {nid:Nat} {st:St}
theorem ic{c:Ctx} {ρ:Rho} {D J:Nat→Prop} {a:Act} {w:World}(h:Sim c ρ D J st a w)(sl:Bool)(len cap:Nat)(lo hi:Option Operand)(l u:Int)(hl:bq st 0 lo=some l)(hu:bq st len hi=some u)
 (h1:0≤l) (h2:l≤u) (h3:u≤cap):(Instr.sliceBounds sl len cap (lo.map a.eval) (hi.map a.eval) none).run P w= .ok (l.toNat,u.toNat,cap) w:=by
 have hv:∀x:Operand,∀n:Int,bq st len (some x)=some n→∃k,a.eval x= .int k n:=by
  intro x n hx
  have hr:=h.op x
  simp only[bq] at hx
  unfold jg at hx
  split at hx
  ·rename_i k m hm;cases hx;rw[hm] at hr;exact⟨k,aG hr⟩
  ·cases hx
 have hv0:∀x:Operand,∀n:Int,bq st 0 (some x)=some n→∃k,a.eval x= .int k n:=fun x n hx=>hv x n hx
 cases lo with
 |none=>
  simp[bq] at hl
  subst hl
  cases hi with
  |none=>simp[bq] at hu;subst hu;simp[Instr.sliceBounds]
  |some y=>
   obtain⟨k,hk⟩:=hv y u hu
   simp[Instr.sliceBounds,Instr.sliceBound,hk,asIntOf,show 0≤u by omega,h3]
 |some x=>
  obtain⟨k,hk⟩:=hv0 x l hl
  cases hi with
  |none=>simp[bq] at hu;subst hu;simp[Instr.sliceBounds,Instr.sliceBound,hk,asIntOf,h1,h2]
  |some y=>
   obtain⟨k',hk'⟩:=hv y u hu
   obtain⟨n,rfl⟩:∃n:Nat,u=n:=⟨u.toNat,by omega⟩
   have h3':n≤cap:=by omega
   simp[Instr.sliceBounds,Instr.sliceBound,hk,hk',asIntOf,h1,h2,h3']
theorem yI(t:TypeId)(x:Operand)(lo hi:Option Operand)(s:ByteArray)(l u:Int)(ht:qo P t=true)(hx:st.op x= .val (.string s))(hl:bq st 0 lo=some l)(hu:bq st s.size hi=some u)
 (h1:0≤l) (h2:l≤u) (h3:u≤s.size):OpT P ⟨dst,.slice t x lo hi none,ty,pos,af,g⟩ nid 0 st ⟨.val (.string (s.extract l.toNat u.toNat)),[]⟩:= .pure fun c ρ D J a w h=>by
 have e:=h.op x;rw[hx] at e
 have e:=aG e
 have hb:=ic (P:=P) h false s.size s.size lo hi l u hl hu h1 h2 h3
 have hty:=gZ ht
 refine⟨.string (s.extract l.toNat u.toNat),?_,.val _⟩
 simp only[execOp,e,Instr.sliceAt,Sem.run_bind,run_underlying hty,Result.andThen_ok,Instr.slice,Option.map_none,Option.isSome_none,Bool.false_eq_true,if_false,hb,Sem.run_pure]
theorem yJ(t e:TypeId)(x:Operand)(lo hi:Option Operand)(z:Bool)(cells:List AV)(len es:Nat)(l u:Int)(ht:iL P t=some e)(hs:siz P e=some es)(hx:st.op x= .isl z cells len)(hl:bq st 0 lo=some l)(hu:bq st len hi=some u)
 (h1:0≤l) (h2:l≤u) (h3:u≤len):
 OpT P ⟨dst,.slice t x lo hi none,ty,pos,af,g⟩ nid 0 st ⟨.isl z ((cells.drop (l.toNat*es)).take ((u.toNat-l.toNat)*es)) (u.toNat-l.toNat),[]⟩:= .pure fun c ρ D J a w h=>by
 have hr:=h.op x;rw[hx] at hr
 have hty:=aV ht
 generalize hv:a.eval x=v at hr
 cases hr with
 |inil=>
  have hl0:l=0:=by have:u≤((0:Nat):Int):=h3;omega
  have hu0:u=0:=by have:u≤((0:Nat):Int):=h3;omega
  subst hl0;subst hu0
  have hb:=ic (P:=P) h true 0 0 lo hi 0 0 hl hu h1 h2 h3
  refine⟨.slice none 0 0,?_,by simpa using Rep.inil⟩
  simp only[execOp,hv,Instr.sliceAt,Sem.run_bind,run_underlying hty,Result.andThen_ok,Instr.slice,Option.map_none,hb,Sem.run_pure,cK hs]
  rfl
 |iemp ad cap=>
  have hl0:l=0:=by have:u≤((0:Nat):Int):=h3;omega
  have hu0:u=0:=by have:u≤((0:Nat):Int):=h3;omega
  subst hl0;subst hu0
  have hb:=ic (P:=P) h true 0 cap lo hi 0 0 hl hu h1 h2 (by omega)
  have e1:([].drop ((0:Int).toNat*es)).take (((0:Int).toNat-(0:Int).toNat)*es)=([]:List AV):=by simp
  rw[e1]
  by_cases hcl:cap=(0:Int).toNat
  ·refine⟨.slice (some ad) 0 (cap-(0:Int).toNat),?_,.iemp _ _⟩
   simp only[execOp,hv,Instr.sliceAt,Sem.run_bind,run_underlying hty,Result.andThen_ok,Instr.slice,Option.map_none,hb,Sem.run_pure,cK hs,if_pos hcl]
   rfl
  ·refine⟨.slice (some (ad.add ((0:Int).toNat*es))) 0 (cap-(0:Int).toNat),?_,.iemp _ _⟩
   simp only[execOp,hv,Instr.sliceAt,Sem.run_bind,run_underlying hty,Result.andThen_ok,Instr.slice,Option.map_none,hb,Sem.run_pure,cK hs,if_neg hcl,Option.map_some]
   rfl
 |isl b off _ cap _ f hb0 hc h0 h1' h2'=>
  have hb:=ic (P:=P) h true len cap lo hi l u hl hu h1 h2 (by omega)
  have hlen:((cells.drop (l.toNat*es)).take ((u.toNat-l.toNat)*es)).length≤cells.length-l.toNat*es:=by simp;omega
  have hget:∀j (hj:j<((cells.drop (l.toNat*es)).take ((u.toNat-l.toNat)*es)).length),((cells.drop (l.toNat*es)).take ((u.toNat-l.toNat)*es))[j]=cells[l.toNat*es+j]'(by omega):=by
   intro j hj;simp
  by_cases hcl:cap=l.toNat
  ·have hul:u.toNat-l.toNat=0:=by omega
   refine⟨.slice (some ⟨b,off,none⟩) (u.toNat-l.toNat) (cap-l.toNat),?_,?_⟩
   ·simp only[execOp,hv,Instr.sliceAt,Sem.run_bind,run_underlying hty,Result.andThen_ok,Instr.slice,Option.map_none,hb,Sem.run_pure,cK hs,if_pos hcl]
   ·rw[hul]
    exact .isl b off 0 _ _ f (fun hne=>absurd (by simp) hne) (by omega) (fun j hj=>by simp at hj) (fun j hj=>by simp at hj) (fun j hj=>by simp at hj)
  ·refine⟨.slice (some ⟨b,off+l.toNat*es,none⟩) (u.toNat-l.toNat) (cap-l.toNat),?_,?_⟩
   ·simp only[execOp,hv,Instr.sliceAt,Sem.run_bind,run_underlying hty,Result.andThen_ok,Instr.slice,Option.map_none,hb,Sem.run_pure,cK hs,if_neg hcl,Option.map_some,Addr.add_lit]
   ·refine .isl b (off+l.toNat*es) _ _ _ (fun j=>f (l.toNat*es+j)) (fun hne=>hb0 (fun e=>hne (by rw[e];simp))) (by omega) (fun j hj=>h0 _ (by omega)) (fun j hj=>?_) (fun j hj=>?_)
    ·rw[Nat.add_assoc];exact h1' _ (by omega)
    ·rw[hget j hj];exact h2' _ (by omega)
theorem z8(t e:TypeId)(x:Operand)(lo hi:Option Operand)(id off len es:Nat)(l u:Int)(ht:iL P t=some e)(hs:siz P e=some es)(hx:st.op x= .sl id off len es)(hl:bq st 0 lo=some l)(hu:bq st len hi=some u)
 (h1:0≤l) (h2:l≤u) (h3:u≤len) (h4:l<len∨l=0):
 OpT P ⟨dst,.slice t x lo hi none,ty,pos,af,g⟩ nid 0 st ⟨.sl id (off+l.toNat*es) (u.toNat-l.toNat) es,[]⟩:= .pure fun c ρ D J a w h=>by
 have hr:=h.op x;rw[hx] at hr
 have hty:=aV ht
 generalize hv:a.eval x=v at hr
 cases hr with
 |sl b s _ _ _ _ cap hρ hc hsz=>
  have hb:=ic (P:=P) h true len cap lo hi l u hl hu h1 h2 (by omega)
  refine⟨.slice (some ⟨b,off+l.toNat*es,none⟩) (u.toNat-l.toNat) (cap-l.toNat),?_,.sl b s id _ _ es (cap-l.toNat) hρ (by omega) ?_⟩
  ·simp only[execOp,hv,Instr.sliceAt,Sem.run_bind,run_underlying hty,Result.andThen_ok,Instr.slice,Option.map_none,hb,Sem.run_pure,cK hs]
   by_cases hcl:cap=l.toNat
   ·have:l.toNat=0:=by omega
    rw[if_pos hcl,this];simp
   ·rw[if_neg hcl];simp[Addr.add_lit]
  ·rw[Nat.add_assoc,←Nat.add_mul,show l.toNat+(cap-l.toNat)=cap by omega];exact hsz
theorem yK(t e:TypeId)(x:Operand)(lo hi:Option Operand)(id off len es:Nat)(l u:Int)(ht:iL P t=some e)(hs:siz P e=some es)(hx:st.op x= .sl id off len es)(hl:bq st 0 lo=some l)(hu:bq st len hi=some u)
 (h1:0≤l) (h2:l=u) (h3:u≤len):
 OpT P ⟨dst,.slice t x lo hi none,ty,pos,af,g⟩ nid 0 st ⟨.isl false [] 0,[]⟩:= .pure fun c ρ D J a w h=>by
 have hr:=h.op x;rw[hx] at hr
 have hty:=aV ht
 subst h2
 generalize hv:a.eval x=v at hr
 cases hr with
 |sl b s _ _ _ _ cap hρ hc hsz=>
  have hb:=ic (P:=P) h true len cap lo hi l l hl hu h1 (Int.le_refl _) (by omega)
  refine⟨.slice (some (if cap=l.toNat then⟨b,off,none⟩ else⟨b,off+l.toNat*es,none⟩)) 0 (cap-l.toNat),?_,?_⟩
  ·simp only[execOp,hv,Instr.sliceAt,Sem.run_bind,run_underlying hty,Result.andThen_ok,Instr.slice,Option.map_none,hb,Sem.run_pure,cK hs]
   by_cases hcl:cap=l.toNat
   ·simp[hcl]
   ·simp[hcl,Addr.add_lit]
  ·split<;>exact .isl b _ 0 _ [] (fun _=>undef) (fun hne=>absurd rfl hne) (by omega) (fun j hj=>by simp at hj) (fun j hj=>by simp at hj) (fun j hj=>by simp at hj)
theorem ObjRep.unfull{w:World} {J:Nat→Prop} {ρ:Rho} {b s:Nat} {cs:List AV} {e:TypeId}(h:ObjRep w J ρ b s (.full cs e)):ObjRep w J ρ b s (.cells cs e):=by
 obtain⟨c,hc,h1,h2,h3,h4⟩:=h
 exact⟨c,hc,h1,by omega,h3,h4⟩
def Cf(off m es:Nat):Option aC→Option (List AV×Nat)
 |some (.cells cs _)=>some ((cs.drop off).take (m*es),m)
 |some (.full cs _)=>some ((cs.drop off).take (m*es),m)
 |_=>none
def gy(st:St):AV→Option (List AV×Nat)
 | .isl _ cells m=>some (cells,m)
 | .sl id off m es=>Cf off m es (st.ob id)
 |_=>none
theorem qU{c:Ctx} {ρ:Rho} {D J:Nat→Prop} {a:Act} {w:World}(h:Sim c ρ D J st a w){x:AV} {v:Value}(hr:Rep w J ρ v x){cells:List AV} {m es:Nat}(hs:gy st x=some (cells,m))(hl:cells.length=m*es):
 (v= .slice none 0 0∧m=0∧cells=[])∨∃(ad:Addr) (cp:Nat) (news:List Value),v= .slice (some ad) m cp∧m≤cp∧news.length=m*es∧(∀j u,news[j]? =some u→w.cell? (ad.add j)=some u)∧(∀u∈news,Value.oneCell' u=true)∧
   ∀j (hj:j<cells.length),Rep w J ρ (news.getD j undef) cells[j]:=by
 have mk:∀(b off:Nat) (f:Nat→Value),(∀j,j<cells.length→w.cell? ⟨b,off+j,none⟩=some (f j)∧(f j).oneCell'=true)→(∀j (hj:j<cells.length),Rep w J ρ (f j) cells[j])→
  ∃news:List Value,news.length=m*es∧(∀j u,news[j]? =some u→w.cell? ((⟨b,off,none⟩:Addr).add j)=some u)∧(∀u∈news,Value.oneCell' u=true)∧∀j (hj:j<cells.length),Rep w J ρ (news.getD j undef) cells[j]:=by
  intro b off f h1 h2
  refine⟨(List.range cells.length).map f,by simp[hl],fun j u hu=>?_,fun u hu=>?_,fun j hj=>?_⟩
  ·obtain⟨hj,rfl⟩:=List.getElem?_eq_some_iff.1 hu
   have hj':j<cells.length:=by simpa using hj
   rw[Addr.add_lit];simpa using(h1 j hj').1
  ·simp at hu;obtain⟨j,hj,rfl⟩:=hu;exact(h1 j hj).2
  ·have:((List.range cells.length).map f).getD j undef=f j:=by simp[List.getD_eq_getElem?_getD,hj]
   rw[this];exact h2 j hj
 cases hr with
 |inil=>simp[gy] at hs;exact .inl ⟨rfl,hs.2.symm,hs.1⟩
 |iemp ad cap=>
  simp only[gy,Option.some.injEq,Prod.mk.injEq] at hs
  obtain⟨rfl,rfl⟩:=hs
  exact .inr ⟨ad,cap,[],rfl,Nat.zero_le _,by simp,by simp,by simp,by simp⟩
 |isl b off len cap cs f hb hc h0 h1 h2=>
  simp only[gy,Option.some.injEq,Prod.mk.injEq] at hs
  obtain⟨rfl,rfl⟩:=hs
  obtain⟨news,k1,k2,k3,k4⟩:=mk b off f (fun j hj=>⟨h1 j hj,h0 j hj⟩) (fun j hj=>(h2 j hj).up)
  exact .inr ⟨_,cap,news,rfl,hc,k1,k2,k3,k4⟩
 |sl b s id off len es' cap hρ hc hsz=>
  simp only[gy] at hs
  unfold Cf at hs
  split at hs
  ·rename_i cs e ho
   simp only[Option.some.injEq,Prod.mk.injEq] at hs
   obtain⟨rfl,rfl⟩:=hs
   obtain⟨b',s',hρ',hob,_⟩:=h.obj id _ ho
   rw[hρ] at hρ';cases hρ'
   obtain⟨f,hf⟩:=gJ hob
   obtain⟨news,k1,k2,k3,k4⟩:=mk b off (fun j=>f (off+j)) (fun j hj=>by
    have:=hf (off+j) (by simp at hj;omega);exact⟨this.1,this.2.1⟩) (fun j hj=>by
    have:=hf (off+j) (by simp at hj;omega);simpa using this.2.2)
   exact .inr ⟨_,cap,news,rfl,hc,k1,k2,k3,k4⟩
  ·rename_i cs e ho
   simp only[Option.some.injEq,Prod.mk.injEq] at hs
   obtain⟨rfl,rfl⟩:=hs
   obtain⟨b',s',hρ',hob,_⟩:=h.obj id _ ho
   rw[hρ] at hρ';cases hρ'
   obtain⟨f,hf⟩:=gJ hob.unfull
   obtain⟨news,k1,k2,k3,k4⟩:=mk b off (fun j=>f (off+j)) (fun j hj=>by
    have:=hf (off+j) (by simp at hj;omega);exact⟨this.1,this.2.1⟩) (fun j hj=>by
    have:=hf (off+j) (by simp at hj;omega);simpa using this.2.2)
   exact .inr ⟨_,cap,news,rfl,hc,k1,k2,k3,k4⟩
  ·cases hs
 |val v=>simp[gy] at hs
 |any v=>simp[gy] at hs
 |ipt=>simp[gy] at hs
 |pt=>simp[gy] at hs
 |mp=>simp[gy] at hs
 |yl=>simp[gy] at hs
 |agg=>simp[gy] at hs
 |tup=>simp[gy] at hs
 |fn=>simp[gy] at hs
theorem jF{zs:List Value}(h1:zs.all Value.oneCell'=true){z:Array Value}(hz:z=zs.toArray)(n:Nat):(Builtin.zeroCells z n).all Value.oneCell'=true:=by
 subst hz
 rw[Array.all_eq_true_iff_forall_mem]
 intro u hu
 obtain⟨j,hj,rfl⟩:=Array.getElem_of_mem hu
 rw[size_zeroCells] at hj
 have hpos:0<zs.length:=by
  rcases Nat.eq_zero_or_pos zs.length with h|h
  ·simp[h] at hj
  ·exact h
 have hm:j%zs.length<zs.length:=Nat.mod_lt _ hpos
 have:=List.all_eq_true.1 h1 _ (List.getElem_mem hm)
 simpa[Builtin.zeroCells,hm] using this
theorem kG{w:World} {J:Nat→Prop} {ρ:Rho} {vs:List Value} {avs:List AV}(extra:Array Value)(hx:extra.all Value.oneCell'=true)(hl:vs.length=avs.length)(h1:∀u∈vs,Value.oneCell' u=true)(h2:∀j (hj:j<avs.length),Rep w J ρ (vs.getD j undef) avs[j]):
 CRep w J ρ (vs.toArray++extra) avs:=by
 have hall:(vs.toArray++extra).all Value.oneCell'=true:=by
  rw[Array.all_eq_true_iff_forall_mem] at hx⊢
  intro u hu
  rcases Array.mem_append.1 hu with hu|hu
  ·exact h1 u (by simpa using hu)
  ·exact hx u hu
 refine⟨by simp;omega,fun j hj=>?_,hall⟩
 have hj':j<vs.length:=by omega
 have e:(vs.toArray++extra).getD j undef=vs.getD j undef:=by
  simp[Array.getD_eq_getD_getElem?,List.getD_eq_getElem?_getD,Array.getElem?_append,hj']
 rw[e]
 refine⟨?_,h2 j hj⟩
 have:vs.getD j undef=vs[j]:=by simp[List.getD_eq_getElem?_getD,hj']
 rw[this];exact h1 _ (List.getElem_mem hj')
theorem wY(t:TypeId)(x y:Operand)(e:TypeId)(es by' m:Nat)(zs:List Value)(cells:List AV)(he:iL P t=some e)(hs:siz P e=some es)(hzs:iM P e=some zs)(hzl:zs.length=es)(hz1:zs.all Value.oneCell'=true)(hb:byt P e=some by')
 (hx:st.op x= .isl true [] 0) (hy:gy st (st.op y)=some (cells,m)) (hl:cells.length=m*es) (hm:0<m) (hbytes:m*by'≤140737488355328) (hm63:m≤9223372036854775807):
 OpT P ⟨dst,.call ⟨.builtin .append,#[x,y],#[t,t]⟩,ty,pos,af,g⟩ nid 1 st ⟨.sl nid 0 m es,[(nid,some (.cells cells e))]⟩:= .alloc fun c ρ D J a w h=>by
 have e1:=h.op x;rw[hx] at e1
 obtain⟨i,z,hi,his,hz,hzc⟩:=jN hs hzs
 have hb':i.bytes=by':=by unfold byt at hb;simpa[hi] using hb
 generalize hv:a.eval x=v at e1
 rcases qU h (h.op y) hy hl with⟨_,h0,_⟩|⟨ad,cp,news,hyv,hmc,hnl,hnews,hone,hrep⟩
 ·omega
 have hv0:v= .slice none 0 0:=by
  generalize hxx:AV.isl true [] 0=xx at e1
  cases e1<;>simp at hxx
  rfl
 subst hv0
 have hr:=run_append_nil (P:=P) w t ty e i z (aV he) hi hz ad m cp news (by rw[his];exact hnl) hnews hm (by omega) (by rw[hb'];omega)
 have hge:=grownCap_ge w m 0 e
 obtain⟨A,hA⟩:∃A,A=news.toArray++Builtin.zeroCells z.cells (grownCap w m 0 e-m):=⟨_,rfl⟩
 rw[←hA] at hr
 refine⟨.slice (some ⟨w.heap.size,0,none⟩) m (grownCap w m 0 e),w.drew.alloc (.cells A e),.cells A e,grownCap w m 0 e*es,?_,gP.drew w _,fun ρ' h1' h2'=>⟨.sl _ _ nid 0 m es _ h1' hge (by omega),A,(gP.drew w _).new,?_,?_,?_⟩⟩
 ·simp[execOp,resolve,invoke,builtin,hv,hyv,hr]
 ·rw[hA]
  simp only[Array.size_append,List.size_toArray,size_zeroCells,hnl,hzc,hzl,←Nat.add_mul]
  congr 1;omega
 ·rw[hl];exact Nat.mul_le_mul_right _ hge
 ·rw[hA] at*
  exact(kG (J:=J) (ρ:=ρ') _ (jF hz1 hzc _) (by omega) hone (fun j hj=>(hrep j hj).grew (gP.drew w _) h2')).2
theorem wZ(t:TypeId)(x y:Operand)(e:TypeId)(id n es by' m:Nat)(zs:List Value)(cs cells:List AV)(he:iL P t=some e)(hs:siz P e=some es)(hzs:iM P e=some zs)(hzl:zs.length=es)(hz1:zs.all Value.oneCell'=true)(hb:byt P e=some by')
 (hx:st.op x= .sl id 0 n es) (ho:st.ob id=some (.cells cs e)) (hcs:cs.length=n*es) (hy:gy st (st.op y)=some (cells,m)) (hl:cells.length=m*es) (hbytes:(n+m)*by'≤140737488355328) (hm63:n+m≤9223372036854775807):
 OpT P ⟨dst,.call ⟨.builtin .append,#[x,y],#[t,t]⟩,ty,pos,af,g⟩ nid 1 st ⟨.sl nid 0 (n+m) es,[(nid,some (.cells (cs++cells) e)),(id,none)]⟩:=OpT.regrow ho fun c ρ D J a w b s h hρ hob hJ=>by
 have e1:=h.op x;rw[hx] at e1
 obtain⟨i,z,hi,his,hz,hzc⟩:=jN hs hzs
 have hb':i.bytes=by':=by unfold byt at hb;simpa[hi] using hb
 generalize hv:a.eval x=v at e1
 cases e1 with
 |sl b' s' _ _ _ _ cap hρ' hc hsz=>
  rw[hρ] at hρ';cases hρ'
  obtain⟨arr,harr,has,hcr⟩:=hob
  have hcr':CRep w J ρ arr cs:=⟨by have:=hcr.1;omega,hcr.2⟩
  have hcl:(cs++cells).length=(n+m)*es:=by rw[List.length_append,hcs,hl,Nat.add_mul]
  -- room
  have room:∀news:List Value,news.length=m*es→(∀u∈news,Value.oneCell' u=true)→(∀j (hj:j<cells.length),Rep w J ρ (news.getD j undef) cells[j])→n+m≤cap→
   (execOp a.eval ⟨dst,.call ⟨.builtin .append,#[x,y],#[t,t]⟩,ty,pos,af,g⟩).run P w= .ok (.value (.slice (some ⟨b,0,none⟩) (n+m) cap)) (w.setRow b (arr.toList.take (n*es)++news++arr.toList.drop (n*es+news.length)).toArray)→
   ∃w' v b' s',(execOp a.eval ⟨dst,.call ⟨.builtin .append,#[x,y],#[t,t]⟩,ty,pos,af,g⟩).run P w= .ok (.value v) w'∧w.heap.size≤w'.heap.size∧w'.os=w.os∧w'.tape=w.tape∧w'.output=w.output∧(b'=b∨b'=w.heap.size)∧
   (∀k,k<w.heap.size→k≠b→w'.heap[k]? =w.heap[k]?)∧
   ∀ρ':Rho,ρ' nid=some (b',s')→(∀i p,ρ i=some p→ρ' i=some p)→(∀u y,Rep w J ρ u y→Rep w' J ρ' u y)→Rep w' J ρ' v (.sl nid 0 (n+m) es)∧ObjRep w' J ρ' b' s' (.cells (cs++cells) e):=by
   intro news hnl hone hrep hroom hr
   have hfit:n*es+news.length≤arr.size:=by
    rw[hnl,←Nat.add_mul,has,←hsz,Nat.zero_add];exact Nat.mul_le_mul_right _ hroom
   have hsp:=hcr'.splice (avs:=cells) (vs:=news) (off:=n*es) (by omega) (fun j hj=>⟨by
    have hj':j<news.length:=by omega
    have:news.getD j undef=news[j]:=by simp[List.getD_eq_getElem?_getD,hj']
    rw[this];exact hone _ (List.getElem_mem hj'),hrep j hj⟩) (by omega) hfit
   have hspl:spl cs (n*es) cells=cs++cells:=by
    unfold spl
    rw[←hcs,List.take_length,List.drop_eq_nil_of_le (by omega),List.append_nil]
   rw[hspl] at hsp
   refine⟨_,_,b,s,hr,by simp,rfl,rfl,rfl,.inl rfl,fun k _ hk=>setRow_other w b k _ hk,fun ρ' h1' h2' hi'=>⟨.sl b s nid 0 _ es cap h1' hroom hsz,_,setRow_heap w b arr _ e _ harr,?_,?_,?_⟩⟩
   ·rw[hsp.2];exact has
   ·have:=(hsp.1.imp hi').1;rw[hsp.2,has] at this;exact this
   ·exact(hsp.1.imp hi').2
  rcases qU h (h.op y) hy hl with⟨hy0,h0,hc0⟩|⟨ad,cp,news,hyv,hmc,hnl,hnews,hone,hrep⟩
  ·subst h0;subst hc0
   refine room [] (by simp) (by simp) (fun j hj=>by simp at hj) (by omega) ?_
   have e2:(arr.toList.take (n*es)++([]:List Value)++arr.toList.drop (n*es+([]:List Value).length)).toArray=arr:=by simp
   rw[e2,setRow_self w b arr e (0,0) harr]
   simp[execOp,resolve,invoke,builtin,hv,hy0,Builtin.append_,run_underlying (aV he),sizeOf,typeInfo,hi,Builtin.lenOf,hc,Builtin.firstCells,storeCells]
  ·by_cases hroom:n+m≤cap
   ·refine room news hnl hone hrep hroom ?_
    have hr:=run_append_room (P:=P) w t ty e i (aV he) hi b n cap arr harr ad m cp news (by rw[his];exact hnl) hnews hone hroom (by rw[hnl,his,←Nat.add_mul,has,←hsz,Nat.zero_add];exact Nat.mul_le_mul_right _ hroom)
    rw[his] at hr
    simp[execOp,resolve,invoke,builtin,hv,hyv,hr]
   ·obtain⟨f,hf⟩:=gJ (e:=e) (b:=b) (s:=s) ⟨arr,harr,has,hcr⟩
    have holds:∀j u,((List.range cs.length).map f)[j]? =some u→w.cell? ((⟨b,0,none⟩:Addr).add j)=some u:=by
     intro j u hu
     obtain⟨hj,rfl⟩:=List.getElem?_eq_some_iff.1 hu
     have hj':j<cs.length:=by simpa using hj
     rw[Addr.add_lit,Nat.zero_add];simpa using(hf j hj').1
    have hr:=run_append_grow (P:=P) w t ty e i z (aV he) hi hz ⟨b,0,none⟩ n cap ((List.range cs.length).map f) (by simp[hcs,his]) holds ad m cp news (by rw[his];exact hnl) hnews (by omega) (by omega) (growslice_fits (by omega) (by rw[hb'];exact hbytes))
    have hge:=grownCap_ge w (n+m) cap e
    obtain⟨A,hA⟩:∃A,A=((List.range cs.length).map f).toArray++news.toArray++Builtin.zeroCells z.cells (grownCap w (n+m) cap e-(n+m)):=⟨_,rfl⟩
    rw[←hA] at hr
    refine⟨w.drew.alloc (.cells A e),.slice (some ⟨w.heap.size,0,none⟩) (n+m) (grownCap w (n+m) cap e),w.heap.size,grownCap w (n+m) cap e*es,?_,?_,rfl,rfl,rfl,.inr rfl,fun k hk _=>(gP.drew w _).old hk,fun ρ' h1' h2' hi'=>⟨.sl _ _ nid 0 _ es (grownCap w (n+m) cap e) h1' hge (by omega),A,(gP.drew w _).new,?_,?_,?_⟩⟩
    ·simp[execOp,resolve,invoke,builtin,hv,hyv,hr]
    ·simp
    ·rw[hA]
     simp only[Array.size_append,List.size_toArray,size_zeroCells,hnl,hzc,hzl,List.length_map,List.length_range,hcs,←Nat.add_mul]
     congr 1;omega
    ·rw[hcl];exact Nat.mul_le_mul_right _ hge
    ·have hall:((List.range cs.length).map f).toArray++news.toArray=(((List.range cs.length).map f)++news).toArray:=by simp
     rw[hall] at hA
     rw[hA] at*
     refine(kG (J:=J) (ρ:=ρ') _ (jF hz1 hzc _) (by simp;omega) (fun u hu=>?_) (fun j hj=>?_)).2
     ·rcases List.mem_append.1 hu with hu|hu
      ·simp at hu;obtain⟨j,hj,rfl⟩:=hu;exact(hf j hj).2.1
      ·exact hone u hu
     ·refine hi' _ _ ?_
      by_cases hjc:j<cs.length
      ·rw[List.getElem_append_left hjc]
       have:(((List.range cs.length).map f)++news).getD j undef=f j:=by
        rw[List.getD_eq_getElem?_getD,List.getElem?_append_left (by simpa using hjc)];simp[hjc]
       rw[this];exact(hf j hjc).2.2
      ·rw[List.getElem_append_right (by omega)]
       have:(((List.range cs.length).map f)++news).getD j undef=news.getD (j-cs.length) undef:=by
        rw[List.getD_eq_getElem?_getD,List.getElem?_append_right (by simp;omega)];simp[List.getD_eq_getElem?_getD]
       rw[this];exact hrep _ (by rw[List.length_append] at hj;omega)
end
end
section
section
variable {P:Program} {dst:Option Nat} {ty:TypeId} {pos:String} {af:Array Edge} {g:Option (Nat×Bool)} {nid:Nat} {st:St}
theorem JG{w:World} {J:Nat→Prop} {ρ:Rho} {b s off:Nat} {cs avs:List AV} {e:TypeId} {vs:List Value}(h:ObjRep w J ρ b s (.cells cs e))(hl:vs.length=avs.length)
 (h1:∀u∈vs,Value.oneCell' u=true) (h2:∀j (hj:j<avs.length),Rep w J ρ (vs.getD j undef) avs[j]) (hs:off+avs.length≤cs.length):
 ∃w',(storeCells ⟨b,off,none⟩ vs).run P w= .ok () w'∧w'.heap.size=w.heap.size∧w'.os=w.os∧w'.tape=w.tape∧w'.output=w.output∧(∀k,k≠b→w'.heap[k]? =w.heap[k]?)∧
  ((∀u y,Rep w J ρ u y→Rep w' J ρ u y)→ObjRep w' J ρ b s (.cells (spl cs off avs) e)):=by
 obtain⟨arr,ha,hsz,hcr⟩:=h
 have hcr':CRep w J ρ arr cs:=⟨by have:=hcr.1;omega,hcr.2⟩
 have hst:=run_storeCells_at P b off e vs 0 arr w ha (by have:=hcr.1;omega) h1
 simp only[Nat.add_zero] at hst
 have hsp:=hcr'.splice (avs:=avs) (vs:=vs) (off:=off) hl (fun j hj=>⟨by
  have hj':j<vs.length:=by omega
  have:vs.getD j undef=vs[j]:=by simp[List.getD_eq_getElem?_getD,hj']
  rw[this];exact h1 _ (List.getElem_mem hj'),h2 j hj⟩) (by omega) (by have:=hcr.1;omega)
 refine⟨_,hst,by simp,rfl,rfl,rfl,fun k hk=>setRow_other w b k _ hk,fun hi=>⟨_,setRow_heap w b arr _ e _ ha,by rw[hsp.2];exact hsz,?_,(hsp.1.imp hi).2⟩⟩
 have:=(hsp.1.imp hi).1;rw[hsp.2,hsz] at this;exact this
end
end
section
theorem OpT.at_{P:Program} {o:Oper} {nid k:Nat} {st:St} {e:Eff}(h:OpT P o nid k st e){c:Ctx} {ρ:Rho} {D J:Nat→Prop} {a:Act} {w:World}(hs:Sim c ρ D J st a w)(hf:∀i,nid≤i→i<nid+k→¬D i){r:Option Nat} {K:Act→World→Prop} {Q:Exit→Act→World→Prop}
 (hK:∀v w' ρ' J',LG c nid k st e ρ ρ' J J' w w' v→K (a.put o.dst v) w'):o.wpIn (fen r) 0 P a w K Q:=h c ρ D J a w hs hf r K Q hK
def Rk(c:Ctx)(Q:Exit→Nat→St→Prop):Exit→Act→World→Prop:=fun e a w=>∃nid st ρ J,Sim c ρ (· <nid) J st a w∧Q e nid st
def AC(P:Program)(code:Code)(Q:Exit→Nat→St→Prop)(nid:Nat)(st:St):Prop:=
 ∀(c:Ctx) (ρ:Rho) (J:Nat→Prop) (a:Act) (w:World),Sim c ρ (· <nid) J st a w→code.wpIn (fen c.rd) 0 P (Rk c Q) a w
def AL(P:Program)(ops:Array Oper)(Q:Exit→Nat→St→Prop)(rest:List Oper)(nid:Nat)(st:St):Prop:=
 ∀(c:Ctx) (ρ:Rho) (J:Nat→Prop) (a:Act) (w:World),Sim c ρ (· <nid) J st a w→wpListIn (fen c.rd) 0 P ops (Rk c Q) rest a w
section
variable {P:Program} {Q:Exit→Nat→St→Prop} {nid:Nat} {st:St}
theorem bF(h:Q .normal nid st):AC P .skip Q nid st:=fun c ρ J a w hs=>wpIn_skip ⟨nid,st,ρ,J,hs,h⟩
theorem bY(h:Q .ret nid st):AC P .ret Q nid st:=fun c ρ J a w hs=>wpIn_ret ⟨nid,st,ρ,J,hs,h⟩
theorem bG{id:Nat}(h:Q (.exit id) nid st):AC P (.exit id) Q nid st:=fun c ρ J a w hs=>wpIn_exit ⟨nid,st,ρ,J,hs,h⟩
def Thn(K:Nat→St→Prop)(Q:Exit→Nat→St→Prop):Exit→Nat→St→Prop
 | .normal,n,s=>K n s
 |e,n,s=>Q e n s
theorem aL{K:Nat→St→Prop} {n:Nat} {s:St}(h:K n s):Thn K Q .normal n s:=h
theorem aX{K:Nat→St→Prop} {n i:Nat} {s:St}(h:Q (.exit i) n s):Thn K Q (.exit i) n s:=h
theorem bH{K:Nat→St→Prop} {n:Nat} {s:St}(h:Q .ret n s):Thn K Q .ret n s:=h
theorem bZ{x y:Code}(h:AC P x (Thn (AC P y Q) Q) nid st):AC P (.seq x y) Q nid st:=fun c ρ J a w hs=>wpIn_seq (wpIn_mono (h c ρ J a w hs) fun e a w ⟨n,s,r,j,h1,h2⟩=>by
 cases e with
 |normal=>exact h2 c r j a w h1
 |_=>exact⟨n,s,r,j,h1,h2⟩)
theorem Rl{o:Operand} {x y:Code}(h:∃b,st.op o= .val (.bool b)∧(b=true→AC P x Q nid st)∧(b=false→AC P y Q nid st)):AC P (.cond o x y) Q nid st:=fun c ρ J a w hs=>by
 obtain⟨b,hb,ht,hf⟩:=h
 have e:=hs.op o;rw[hb] at e
 exact wpIn_cond_split (aG e) (fun e=>ht e c ρ J a w hs) (fun e=>hf e c ρ J a w hs)
def Blk(i:Nat)(Q:Exit→Nat→St→Prop):Exit→Nat→St→Prop
 | .exit j,n,s=>if j=i then Q .normal n s else Q (.exit j) n s
 |e,n,s=>Q e n s
theorem aM{i n:Nat} {s:St}(h:Q .normal n s):Blk i Q .normal n s:=h
theorem bI{i n:Nat} {s:St}(h:Q .ret n s):Blk i Q .ret n s:=h
theorem aY{i n:Nat} {s:St}(h:Q .normal n s):Blk i Q (.exit i) n s:=by show if i=i then _ else _;rw[if_pos rfl];exact h
theorem aQ{i j n:Nat} {s:St}(hne:Nat.beq j i=false)(h:Q (.exit j) n s):Blk i Q (.exit j) n s:=by
 show if j=i then _ else _
 rw[if_neg (fun e=>by subst e;rw[Nat.beq_refl] at hne;cases hne)];exact h
theorem aZ{i:Nat} {x:Code}(h:AC P x (Blk i Q) nid st):AC P (.block i x) Q nid st:=fun c ρ J a w hs=>wpIn_block (wpIn_mono (h c ρ J a w hs) fun e a w ⟨n,s,r,j,h1,h2⟩=>by
 cases e with
 |exit k=>
  simp only[Exit.inBlock,Blk] at h2⊢
  split
  ·rename_i hk;rw[if_pos hk] at h2;exact⟨n,s,r,j,h1,h2⟩
  ·rename_i hk;rw[if_neg hk] at h2;exact⟨n,s,r,j,h1,h2⟩
 |_=>exact⟨n,s,r,j,h1,h2⟩)
def ren(τ:Nat→Nat):AV→AV
 | .val v=> .val v
 | .isl z cs n=> .isl z cs n
 | .ipt cs k=> .ipt cs k
 | .sl id off len es=> .sl (τ id) off len es
 | .pt id off=> .pt (τ id) off
 | .mp id=> .mp (τ id)
 | .yl id=> .yl (τ id)
 | .agg cs=> .agg (cs.map (ren τ))
 | .tup cs=> .tup (cs.map (ren τ))
 | .fn f cs=> .fn f (cs.map (ren τ))
 | .any=> .any
def pM(τ:Nat→Nat):aC→aC
 | .cells cs e=> .cells (cs.map (ren τ)) e
 | .map ag n l=> .map ag n (l.map fun x=>(x.1,ren τ x.2))
 | .full cs e=> .full (cs.map (ren τ)) e
 | .tr H j=> .tr H j
def bnd(n:Nat):AV→Prop
 | .sl id _ _ _=>id<n
 | .pt id _=>id<n
 | .mp id=>id<n
 | .yl id=>id<n
 | .agg cs=>∀x∈cs,bnd n x
 | .tup cs=>∀x∈cs,bnd n x
 | .fn _ cs=>∀x∈cs,bnd n x
 |_=>True
def Aa(n:Nat):aC→Prop
 | .cells cs _=>∀x∈cs,bnd n x
 | .map _ _ l=>∀x∈l,bnd n x.2
 | .full cs _=>∀x∈cs,bnd n x
 | .tr _ _=>True
theorem Rep.unren{w:World} {J:Nat→Prop} {ρ ρ0:Rho} {τ:Nat→Nat} {n:Nat} {v:Value} {y:AV}(h:Rep w J ρ v y)(hρ:∀id,id<n→ρ0 id=ρ (τ id)):
 ∀{x:AV},y=ren τ x→bnd n x→Rep w J ρ0 v x:=by
 have lists:∀{vs:Array Value} {cs ds:List AV},vs.size=cs.length→cs=ds.map (ren τ)→vs.size=ds.length:=by
  intro vs cs ds h1 h2;rw[h1,h2];simp
 induction h generalizing ρ0 with
 |val v=>intro x hx _;cases x<;>simp[ren] at hx;subst hx;exact .val _
 |any v=>intro x hx _;cases x<;>simp[ren] at hx;exact .any _
 |inil=>intro x hx _;cases x<;>simp[ren] at hx;obtain⟨rfl,rfl,rfl⟩:=hx;exact .inil
 |iemp a cap=>intro x hx _;cases x<;>simp[ren] at hx;obtain⟨rfl,rfl,rfl⟩:=hx;exact .iemp a cap
 |isl b off len cap cells u hb hc h0 h1 h2 ih=>intro x hx _;cases x<;>simp[ren] at hx;obtain⟨rfl,rfl,rfl⟩:=hx;exact .isl b off _ cap _ u hb hc h0 h1 h2
 |ipt b off k cells u hb h0 h1 h2 ih=>intro x hx _;cases x<;>simp[ren] at hx;obtain⟨rfl,rfl⟩:=hx;exact .ipt b off _ _ u hb h0 h1 h2
 |sl b s id off len es cap h hc hs=>intro x hx hb;cases x<;>simp[ren] at hx;obtain⟨rfl,rfl,rfl,rfl⟩:=hx;exact .sl b s _ _ _ _ cap (by rw[hρ _ (show _<n by simpa[bnd] using hb)];exact h) hc hs
 |pt b s id off h=>intro x hx hb;cases x<;>simp[ren] at hx;obtain⟨rfl,rfl⟩:=hx;exact .pt b s _ _ (by rw[hρ _ (show _<n by simpa[bnd] using hb)];exact h)
 |mp b s id h=>intro x hx hb;cases x<;>simp[ren] at hx;subst hx;exact .mp b s _ (by rw[hρ _ (show _<n by simpa[bnd] using hb)];exact h)
 |yl b s id h=>intro x hx hb;cases x<;>simp[ren] at hx;subst hx;exact .yl b s _ (by rw[hρ _ (show _<n by simpa[bnd] using hb)];exact h)
 |agg vs cs hs h ih=>
  intro x hx hb;cases x<;>simp[ren] at hx
  rename_i ds
  simp only[bnd] at hb
  refine .agg vs ds (lists hs hx) (fun j hj=>?_)
  exact ih j (by rw[hx];simpa using hj) hρ (by simp[hx]) (hb _ (List.getElem_mem hj))
 |tup vs cs hs h ih=>
  intro x hx hb;cases x<;>simp[ren] at hx
  rename_i ds
  simp only[bnd] at hb
  refine .tup vs ds (lists hs hx) (fun j hj=>?_)
  exact ih j (by rw[hx];simpa using hj) hρ (by simp[hx]) (hb _ (List.getElem_mem hj))
 |fn f vs cs hs h ih=>
  intro x hx hb;cases x<;>simp[ren] at hx
  obtain⟨rfl,hx⟩:=hx
  rename_i ds
  simp only[bnd] at hb
  refine .fn _ vs ds (lists hs hx) (fun j hj=>?_)
  exact ih j (by rw[hx];simpa using hj) hρ (by simp[hx]) (hb _ (List.getElem_mem hj))
theorem ObjRep.unren{w:World} {J:Nat→Prop} {ρ ρ0:Rho} {τ:Nat→Nat} {n b s:Nat} {o:aC}(h:ObjRep w J ρ b s (pM τ o))(hρ:∀id,id<n→ρ0 id=ρ (τ id))(hb:Aa n o):ObjRep w J ρ0 b s o:=by
 cases o with
 |cells cs e=>
  obtain⟨c,hc,h1,h2,h3,h4⟩:=h
  refine⟨c,hc,h1,by simpa using h2,fun j hj=>⟨(h3 j (by simpa using hj)).1,?_⟩,h4⟩
  exact(h3 j (by simpa using hj)).2.unren hρ (by simp) (hb _ (List.getElem_mem hj))
 |map ag kn l=>
  obtain⟨ms,k,hc,h1,h2⟩:=h
  refine⟨ms,k,hc,by simpa using h1,fun j hj=>?_⟩
  have h3:=h2 j (by simpa using hj)
  have h4:=hb _ (List.getElem_mem hj)
  exact⟨by simpa using h3.1,h3.2.unren hρ (by simp) h4⟩
 |full cs e=>
  obtain⟨c,hc,h1,h2,h3,h4⟩:=h
  refine⟨c,hc,h1,by simpa using h2,fun j hj=>⟨(h3 j (by simpa using hj)).1,?_⟩,h4⟩
  exact(h3 j (by simpa using hj)).2.unren hρ (by simp) (hb _ (List.getElem_mem hj))
 |tr H j=>exact h
structure Sub(σ:List Nat)(st0 st:St):Prop where
 n:st0.n=st.n
 env:∀p∈st0.env,p.2= .any∨st.ev p.1=ren (σ.getD · 0) p.2
 ebnd:∀p∈st0.env,bnd σ.length p.2
 obj:∀p∈st0.objs,∀o,p.2=some o→p.1<σ.length∧st.ob (σ.getD p.1 0)=some (pM (σ.getD · 0) o)∧Aa σ.length o
 inj:σ.Nodup
 m:st0.m=st.m
 pin:σ.take st.m=List.range st.m
theorem Sub.sim{σ:List Nat} {st0 st:St} {c:Ctx} {ρ:Rho} {D J:Nat→Prop} {a:Act} {w:World}(h:Sub σ st0 st)(hs:Sim c ρ D J st a w):
 Sim c (fun i=>if i<σ.length then ρ (σ.getD i 0) else none) (· <σ.length) J st0 a w:=by
 have hρ:∀id,id<σ.length→(fun i=>if i<σ.length then ρ (σ.getD i 0) else none) id=ρ (σ.getD id 0):=fun id hid=>by simp[hid]
 have hob:∀id o,st0.ob id=some o→id<σ.length∧st.ob (σ.getD id 0)=some (pM (σ.getD · 0) o)∧Aa σ.length o:=by
  intro id o ho
  unfold St.ob at ho
  cases hl:aS st0.objs id with
  |none=>simp[hl] at ho
  |some x=>rw[hl] at ho;exact h.obj _ (adC hl) o (by simpa using ho)
 refine⟨hs.defers,by rw[hs.tmps,h.n],?_,?_,?_,?_,hs.jok,hs.jlt,hs.ilt,?_,hs.kept,hs.hid_of (σ.getD · 0) (fun id o ho=>?_) (fun id id' H H' j j' h1 h2 e=>?_) (fun b hb=> .inl hb),hs.laid⟩
 ·intro t
  unfold St.ev
  cases hl:aS st0.env t with
  |none=>exact .any _
  |some x=>
   have hm:=adC hl
   rcases h.env _ hm with he|he
   ·simp only[Option.getD_some];simp only at he;rw[he];exact .any _
   ·have:=hs.env t
    simp only at he
    exact this.unren hρ he (h.ebnd _ hm)
 ·intro id o ho
  obtain⟨h1,h2,h3⟩:=hob id o ho
  obtain⟨b,s,k1,k2,k3,k4⟩:=hs.obj _ _ h2
  exact⟨b,s,(hρ id h1).trans k1,k2.unren hρ h3,k3,k4⟩
 ·intro id id' o o' b s s' ho ho' hr hr'
  obtain⟨h1,h2,_⟩:=hob id o ho
  obtain⟨h1',h2',_⟩:=hob id' o' ho'
  replace hr:=(hρ id h1).symm.trans hr;replace hr':=(hρ id' h1').symm.trans hr'
  have:=hs.inj _ _ _ _ b s s' h2 h2' hr hr'
  simp only[List.getD_eq_getElem?_getD,List.getElem?_eq_getElem h1,List.getElem?_eq_getElem h1',Option.getD_some] at this
  exact(List.getElem_inj h.inj).1 this
 ·intro id p hp
  refine Classical.byContradiction fun hn=>?_
  have:(fun i=>if i<σ.length then ρ (σ.getD i 0) else none) id=none:=if_neg hn
  have hx:=this.symm.trans hp
  cases hx
 ·intro j hj
  rw[h.m] at hj
  obtain⟨p,h1,h2⟩:=hs.pin j hj
  have hlen:st.m≤σ.length:=by have:=congrArg List.length h.pin;simp at this;omega
  have hj2:σ.getD j 0=j:=by
   have:=congrArg (·[j]?) h.pin
   simp only[List.getElem?_take_of_lt hj] at this
   rw[List.getElem?_range hj] at this
   simp[List.getD_eq_getElem?_getD,this]
  exact⟨p,h1,(hρ j (by omega)).trans (by rw[hj2];exact h2)⟩
 ·obtain⟨h1,h2,_⟩:=hob id o ho
  refine⟨_,h2,fun H j e=>by subst e;rfl,hρ id h1⟩
 ·have g1:=(hob _ _ h1).1;have g2:=(hob _ _ h2).1
  simp only[List.getD_eq_getElem?_getD,List.getElem?_eq_getElem g1,List.getElem?_eq_getElem g2,Option.getD_some] at e
  exact(List.getElem_inj h.inj).1 e
theorem Rm{code:Code} {ι:Type}(σ:List Nat)(m:Nat)(I:ι→St)(μ:ι→Nat)(i0:ι)(hm:σ.length=m)(h0:Sub σ (I i0) st)
 (round:∀i,AC P code (Thn (fun _ s=>∃(σ':List Nat) (j:ι),σ'.length=m∧Sub σ' (I j) s∧μ j<μ i) Q) m (I i)):AC P (.loop code) Q nid st:=fun c ρ J a w hs=>by
 refine wpIn_loop_ghost (fun n a w=>∃i ρ J,Sim c ρ (· <m) J (I i) a w∧μ i=n) (μ i0) ⟨i0,_,J,hm▸h0.sim hs,rfl⟩ ?_
 rintro n a w ⟨i,ρ,J,hs,rfl⟩
 refine wpIn_mono (round i c ρ J a w hs) ?_
 rintro e a' w' ⟨nid',st',ρ',J',hs',hq⟩
 cases e with
 |normal=>
  obtain⟨σ',j,hl,hsub,hlt⟩:=hq
  exact⟨μ j,hlt,j,_,J',hl▸hsub.sim hs',rfl⟩
 |_=>exact⟨nid',st',ρ',J',hs',hq⟩
theorem cu{ops:Array Oper}(h:Q .normal nid st):AL P ops Q [] nid st:=fun c ρ J a w hs=>wpListIn_nil ⟨nid,st,ρ,J,hs,h⟩
theorem JH{id:Nat} {ops:Array Oper}(h:AL P ops Q ops.toList nid st):AC P (.region id ops false) Q nid st:=fun c ρ J a w hs=>wpIn_region_list (h c ρ J a w hs)
theorem aB{id:Nat} {l:List Oper}(h:AL P l.toArray Q l nid st):AC P (.region id l.toArray false) Q nid st:=JH (by simpa using h)
def jU(n:Nat):Option Nat→Bool
 |some d=>d<n
 |none=>true
theorem w9{n:Nat} {dst:Option Nat}(h:jU n dst=true):∀d,dst=some d→d<n:=by
 intro d hd;subst hd;simpa[jU] using h
theorem WH{ops:Array Oper} {rest:List Oper} {dst:Option Nat} {op:Op} {ty:TypeId} {pos:String} {af:Array Edge} {k:Nat} {e:Eff}
 (ho:OpT P ⟨dst,op,ty,pos,af,none⟩ nid k st e) (hd:jU st.n dst=true) (h:AL P ops Q rest (nid+k) (st.app dst e)):AL P ops Q (⟨dst,op,ty,pos,af,none⟩::rest) nid st:=fun c ρ J a w hs=>by
 refine wpListIn_plain rfl fun K hK=>ho.at_ hs (fun i h1 h2 h3=>by omega) fun v w' ρ' J' p=>hK _ _ ?_
 exact h c ρ' J' _ w' (hs.app p (w9 hd) (fun i hi=>by rcases hi with hi|hi<;>omega))
def pV(ops:Array Oper)(j:Nat):Option Nat:=(ops[j]?).bind (·.dst)
theorem qx{c:Ctx} {ρ:Rho} {D J:Nat→Prop} {a:Act} {w:World}(hs:Sim c ρ D J st a w){ops:Array Oper} {j t:Nat} {b:Bool}(ht:pV ops j=some t)(hb:st.ev t= .val (.bool b))(hn:t<st.n):yielded ops a.tmps j=some b:=by
 have:=hs.env t
 rw[hb] at this
 have e:=aG this
 have htn:t<a.tmps.size:=by rw[hs.tmps];exact hn
 have e':a.tmps[t]? =some (.bool b):=by
  rw[Array.getElem?_eq_getElem htn]
  simpa[Array.getD,htn] using e
 unfold yielded pV at*
 rw[ht,Option.bind_some,e']
def noV:AV:= .val undef
theorem Cg{c:Ctx} {ρ:Rho} {D J:Nat→Prop} {a:Act} {w:World}(hs:Sim c ρ D J st a w){ops:Array Oper} {j t:Nat}(ht:pV ops j=some t)(hb:st.ev t=noV)(hn:t<st.n):yielded ops a.tmps j=none:=by
 have:=hs.env t
 rw[hb] at this
 have e:=aG this
 have htn:t<a.tmps.size:=by rw[hs.tmps];exact hn
 have e':a.tmps[t]? =some undef:=by
  rw[Array.getElem?_eq_getElem htn]
  simpa[Array.getD,htn] using e
 unfold yielded pV at*
 rw[ht,Option.bind_some,e']
 rfl
theorem Sim.skip{c:Ctx} {ρ:Rho} {D J:Nat→Prop} {a:Act} {w:World}(hs:Sim c ρ D J st a w)(dst:Option Nat)(hd:jU st.n dst=true):Sim c ρ D J (st.put dst noV) (a.put dst undef) w:=by
 have p:LG c 0 0 st ⟨noV,[]⟩ ρ ρ J J w w undef:=⟨Nat.le_refl _,rfl,rfl,rfl,fun _ _ _ _=>rfl,fun _ _ h=>h,fun _ _ h=> .inl h,fun _ h=>h,fun _ h=> .inl h,.val _,fun id o h=>by simp[aS] at h,fun id id' o o' b s s' h=>by simp[aS] at h,fun h=>absurd h kC⟩
 have:=hs.app (dst:=dst) (D':=D) p (w9 hd) (fun i hi=>by rcases hi with hi|hi;exact hi;omega)
 have e:st.app dst ⟨noV,[]⟩=st.put dst noV:=by cases dst<;>rfl
 rw[e] at this;exact this
theorem Rn{ops:Array Oper} {rest:List Oper} {dst:Option Nat} {op:Op} {ty:TypeId} {pos:String} {af:Array Edge} {j t:Nat} {b:Bool}
 (ht:pV ops j=some t) (hb:st.ev t= .val (.bool !b)) (hn:t<st.n) (hd:jU st.n dst=true) (h:AL P ops Q rest nid (st.put dst noV)):AL P ops Q (⟨dst,op,ty,pos,af,some (j,b)⟩::rest) nid st:=fun c ρ J a w hs=>by
 refine wpListIn_step fun K hK=>?_
 have hy:=qx hs ht hb hn
 rw[if_neg (by simp[Region.wanted,hy])]
 exact⟨fun _ _=>trivial,hK _ _ (h c ρ J _ w (hs.skip dst hd))⟩
theorem LU{ops:Array Oper} {rest:List Oper} {dst:Option Nat} {op:Op} {ty:TypeId} {pos:String} {af:Array Edge} {j t:Nat} {b:Bool}
 (ht:pV ops j=some t) (hb:st.ev t=noV) (hn:t<st.n) (hd:jU st.n dst=true) (h:AL P ops Q rest nid (st.put dst noV)):AL P ops Q (⟨dst,op,ty,pos,af,some (j,b)⟩::rest) nid st:=fun c ρ J a w hs=>by
 refine wpListIn_step fun K hK=>?_
 have hy:=Cg hs ht hb hn
 rw[if_neg (by simp[Region.wanted,hy])]
 exact⟨fun _ _=>trivial,hK _ _ (h c ρ J _ w (hs.skip dst hd))⟩
def gAV(b:Bool)(x:AV)(K1 K2:Prop):Prop:=(∃b',x= .val (.bool b')∧(b'=b→K1)∧(b'=(!b)→K2))∨(x=noV∧K2)
theorem Xt{b b':Bool} {K1 K2:Prop}:gAV b (.val (.bool b')) K1 K2=((b'=b→K1)∧(b'=(!b)→K2)):=by
 unfold gAV
 refine propext ⟨fun h=>?_,fun h=> .inl ⟨b',rfl,h⟩⟩
 rcases h with⟨b'',h1,h2⟩|⟨h1,h2⟩
 ·cases h1;exact h2
 ·cases h1
theorem g_no{b:Bool} {K1 K2:Prop}:gAV b noV K1 K2=K2:=by
 unfold gAV
 refine propext ⟨fun h=>?_,fun h=> .inr ⟨rfl,h⟩⟩
 rcases h with⟨b'',h1,h2⟩|⟨h1,h2⟩
 ·cases h1
 ·exact h2
def ACall(P:Program)(f:FuncId)(args:List AV)(objs:List aC)(m:Nat)(r:AV)(objs':List aC):Prop:=
 ∀(w:World) (A I:Nat→Prop) (ρ:Rho) (vs:Array Value),vs.size=args.length→(∀j (h:j<args.length),Rep w A ρ (vs.getD j undef) args[j])→
  (∀b,A b→b<w.heap.size∧¬I b)→(∀b,I b→b<w.heap.size)→
  (∀j (h:j<objs.length),∃b s,ρ j=some (b,s)∧I b∧ObjRep w A ρ b s objs[j])→(∀j p,ρ j=some p→j<objs.length)→
  (∀i j b s s',ρ i=some (b,s)→ρ j=some (b,s')→i=j)→Hid ⟨w,A,I,ρ,none,fun H=>H∈trs objs⟩ A (fun j=>objs[j]?) ρ w→Laid A w→
  Calls P f vs w fun e w'=>∃v ρ' J',e= .returned v∧Rep w' J' ρ' v r∧(∀b,J' b→b<w'.heap.size∧(A b∨I b∨w.heap.size≤b))∧abJ ⟨w,A,I,ρ,none,fun H=>H∈trs objs⟩ w'∧
   (∀j,j<m→ρ' j=ρ j)∧(∀j p,ρ' j=some p→j<objs'.length)∧
   (∀j (h:j<objs'.length),∃b s,ρ' j=some (b,s)∧ObjRep w' J' ρ' b s objs'[j]∧(I b∨w.heap.size≤b)∧¬J' b)∧
   (∀i j b s s',ρ' i=some (b,s)→ρ' j=some (b,s')→i=j)∧Hid ⟨w,A,I,ρ,none,fun H=>H∈trs objs⟩ J' (fun j=>objs'[j]?) ρ' w'
def eP(P:Program)(st:St):ResultVar→Option AV
 | .tmp t=>some (st.ev t)
 | .cell x t=>match st.ev x with
   | .pt id off=>match st.ob id,iX P t,siz P t with
     |some (.cells cs _),some true,some n=>if off+n≤cs.length then some (.agg ((cs.drop off).take n)) else none
     |some (.cells cs _),some false,_=>cs[off]?
     |_,_,_=>none
   |_=>none
def eX(P:Program)(st:St)(rs:List ResultVar):Option AV:=match rs.mapM (eP P st) with
 |some [x]=>some x
 |some l=>some (.tup l)
 |none=>none
def xe(tmps:Array Value):ResultVar→Sem Value
 | .tmp t=>pure (tmps.getD t undef)
 | .cell y t=>do loadVar t (←asAddr (tmps.getD y undef))
theorem JI{c:Ctx} {ρ:Rho} {D J:Nat→Prop} {a:Act} {w:World}(hs:Sim c ρ D J st a w){rv:ResultVar} {x:AV}(h:eP P st rv=some x):
 ∃v,(xe a.tmps rv).run P w= .ok v w∧Rep w J ρ v x:=by
 cases rv with
 |tmp t=>simp only[eP,Option.some.injEq] at h;subst h;exact⟨_,rfl,hs.env t⟩
 |cell y t=>
  simp only[eP] at h
  have hy:=hs.env y
  split at h
  ·rename_i id off he
   rw[he] at hy
   generalize hv:a.tmps.getD y undef=v at hy
   cases hy with
   |pt b s _ _ hρ=>
    split at h
    ·rename_i cs e n h1 h2 h3
     split at h
     ·rename_i hle
      simp only[Option.some.injEq] at h;subst h
      obtain⟨b',s',hρ',hob,_⟩:=hs.obj _ _ h1
      rw[hρ] at hρ';cases hρ'
      obtain⟨u,hu⟩:=gJ hob
      obtain⟨vs,hr,hrep⟩:=jf (P:=P) (w:=w) (J:=J) (ρ:=ρ) (b:=b) (off:=off) (n:=n) (cs:=(cs.drop off).take n) (fun j=>u (off+j)) (fun j hj=>by
       simp at hj
       have:=hu (off+j) (by omega)
       exact⟨this.1,by simpa using this.2.2⟩) (by simp;omega)
      exact⟨.agg vs,by simp only[xe,hv];simp[asAddr,loadVar,d9 h2,cK h3,hr],hrep⟩
     ·cases h
    ·rename_i cs e z h1 h2
     obtain⟨b',s',hρ',hob,_⟩:=hs.obj _ _ h1
     rw[hρ] at hρ';cases hρ'
     obtain⟨u,hu⟩:=gJ hob
     obtain⟨hlt,rfl⟩:=List.getElem?_eq_some_iff.1 h
     exact⟨u off,by simp only[xe,hv];simp[asAddr,loadVar,d9 h2,(hu off hlt).1],(hu off hlt).2.2⟩
    ·cases h
  ·cases h
theorem afl{c:Ctx} {ρ:Rho} {D J:Nat→Prop} {a:Act} {w:World}(hs:Sim c ρ D J st a w){fn:Func} {x:AV}(h:eX P st fn.results.toList=some x):
 ∃v,(results fn a.tmps).run P w= .ok v w∧Rep w J ρ v x:=by
 have key:∀(l:List ResultVar) (xs:List AV),l.mapM (eP P st)=some xs→∃vs:List Value,(l.mapM (xe a.tmps)).run P w= .ok vs w∧
  vs.length=xs.length∧∀j (hj:j<xs.length),Rep w J ρ (vs.getD j undef) xs[j]:=by
  intro l
  induction l with
  |nil=>intro xs h;simp at h;subst h;exact⟨[],rfl,rfl,fun j hj=>by simp at hj⟩
  |cons rv l ih=>
   intro xs h
   simp only[List.mapM_cons,Option.bind_eq_bind,Option.bind_eq_some_iff] at h
   obtain⟨y,hy,ys,hys,he⟩:=h
   simp at he;subst he
   obtain⟨v,h1,h2⟩:=JI (P:=P) hs hy
   obtain⟨vs,h3,h4,h5⟩:=ih ys hys
   refine⟨v::vs,?_,by simp[h4],fun j hj=>?_⟩
   ·rw[List.mapM_cons,Sem.run_bind,h1,Result.andThen_ok,Sem.run_bind,h3,Result.andThen_ok];rfl
   ·cases j with
    |zero=>simpa using h2
    |succ j=>simpa using h5 j (by simpa using hj)
 unfold eX at h
 cases hm:fn.results.toList.mapM (eP P st) with
 |none=>simp[hm] at h
 |some xs=>
  obtain⟨vs,h1,h2,h3⟩:=key _ _ hm
  have hrun:(results fn a.tmps).run P w= .ok (if h:vs.toArray.size=1 then vs.toArray[0] else .tuple vs.toArray) w:=by
   show(do let vs←fn.results.mapM (xe a.tmps);pure (if h:vs.size=1 then vs[0] else .tuple vs):Sem Value).run P w=_
   rw[Array.mapM_eq_mapM_toList,Sem.run_bind,Sem.run_map]
   rw[h1]
   simp only[Result.andThen_ok,Sem.run_pure]
  refine⟨_,hrun,?_⟩
  rw[hm] at h
  match xs,vs,h2,h3,h with
  |[x'],[v'],_,h3,h=>
   simp only[Option.some.injEq] at h;subst h
   simpa using h3 0 (by simp)
  |[],[],_,h3,h=>
   simp only[Option.some.injEq] at h;subst h
   exact .tup _ _ rfl (fun j hj=>by simp at hj)
  |x1::x2::l,vs,h2,h3,h=>
   simp only[Option.some.injEq] at h;subst h
   have hne:¬vs.toArray.size=1:=by simp at h2⊢;omega
   rw[dif_neg hne]
   exact .tup _ _ (by simpa using h2) (fun j hj=>by simpa[Array.getD_eq_getD_getElem?,List.getD_eq_getElem?_getD] using h3 j hj)
end
end
