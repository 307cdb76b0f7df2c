/- Sym15 Sym16 Sym17 Sym18 Sym19. No condition. -/
import Derived.Test.YtgmpdplpodemaaaGreatDoorSymG12
import Derived.ProofKit
import Derived.OpenShut
import Derived.ChangeArms
import Derived.ChangeBears
import Derived.ReadAgain
import Derived.Handed
import Derived.Laws.StructEq
import Derived.Lib.Overlaps
set_option linter.all false
namespace Go.Sy
section
structure Ph{α:Type}(k:α→Prop):Type where
def aH{α:Type}(o:Option α)(k:α→Prop)(_:Ph k:=⟨⟩):Prop:=∃a,o=some a∧k a
theorem ET{α:Type} {a:α} {k:α→Prop} {h}:aH (some a) k h=k a:=by simp[aH]
theorem JY{α β:Type} {o:Option α} {f:α→β} {k:β→Prop} {h}:aH (o.map f) k h=aH o (fun a=>k (f a)):=by cases o<;>simp[aH]
theorem JZ{α:Type} [Inhabited α]{l:List α} {i:Nat} {k:α→Prop} {p}(h:i<l.length):aH l[i]? k p=k (l.getD i default):=by
 simp[aH,List.getD_eq_getElem?_getD,List.getElem?_eq_getElem h]
theorem MF{α:Type} {p:Prop} [Decidable p]{a:α} {k:α→Prop} {q}(h:p):aH (if p then some a else none) k q=k a:=by simp[aH,h]
theorem J4{α:Type} {p:Prop} [Decidable p]{a:α} {k:α→Prop} {q}(h:¬p):aH (if p then none else some a) k q=k a:=by simp[aH,h]
def xy:AV→Option Bool
 | .val (.bool b)=>some b
 |_=>none
def qz:AV→Option (IntKind×Int)
 | .val (.int k n)=>some (k,n)
 |_=>none
def xz:AV→Option ByteArray
 | .val (.string s)=>some s
 |_=>none
def Ag:AV→Option (Nat×Nat)
 | .pt id off=>some (id,off)
 |_=>none
def uP:AV→Option (Bool×List AV×Nat)
 | .isl z cs n=>some (z,cs,n)
 |_=>none
def yM:AV→Option (Nat×Nat×Nat×Nat)
 | .sl id off n es=>some (id,off,n,es)
 |_=>none
def xA:AV→Option (List AV)
 | .agg cs=>some cs
 |_=>none
def Hl:AV→Option (List AV)
 | .tup cs=>some cs
 |_=>none
def xB:Option aC→Option (List AV×TypeId)
 |some (.cells cs e)=>some (cs,e)
 |_=>none
theorem zh{x:AV} {b:Bool}(h:xy x=some b):x= .val (.bool b):=by unfold xy at h;split at h<;>simp_all
theorem oI{x:AV} {p:IntKind×Int}(h:qz x=some p):x= .val (.int p.1 p.2):=by unfold qz at h;split at h<;>simp_all[Prod.ext_iff]
theorem q8{x:AV} {b:ByteArray}(h:xz x=some b):x= .val (.string b):=by unfold xz at h;split at h<;>simp_all
theorem oJ{x:AV} {p:Nat×Nat}(h:Ag x=some p):x= .pt p.1 p.2:=by unfold Ag at h;split at h<;>simp_all[Prod.ext_iff]
theorem adO{x:AV} {p:Bool×List AV×Nat}(h:uP x=some p):x= .isl p.1 p.2.1 p.2.2:=by unfold uP at h;split at h<;>simp_all[Prod.ext_iff]
theorem mH{x:AV} {p:Nat×Nat×Nat×Nat}(h:yM x=some p):x= .sl p.1 p.2.1 p.2.2.1 p.2.2.2:=by unfold yM at h;split at h<;>simp_all[Prod.ext_iff]
theorem rf{x:AV} {p:List AV}(h:xA x=some p):x= .agg p:=by unfold xA at h;split at h<;>simp_all
theorem MG{x:AV} {p:List AV}(h:Hl x=some p):x= .tup p:=by unfold Hl at h;split at h<;>simp_all
theorem lu{x:Option aC} {p:List AV×TypeId}(h:xB x=some p):x=some (.cells p.1 p.2):=by unfold xB at h;split at h<;>simp_all[Prod.ext_iff]
theorem gK{x:AV} {n:Int}(h:jg x=some n):∃k,x= .val (.int k n):=by unfold jg at h;split at h<;>simp_all
section
variable {P:Program} {Q:Exit→Nat→St→Prop} {nid:Nat} {st:St} {dst:Option Nat} {ty:TypeId} {pos:String} {af:Array Edge} {g:Option (Nat×Bool)} {K:Nat→Eff→Prop}
theorem fw(x y z:Operand)(h:aH (xy (st.op x)) fun b=>K 0 ⟨je b (st.op y) (st.op z),[]⟩):AO P ⟨dst,.pick x y z,ty,pos,af,g⟩ nid st K:=by
 obtain⟨b,h1,h2⟩:=h;exact Xu x y z ⟨b,zh h1,h2⟩
theorem fM(t:TypeId)(x:Operand)(h:aH (xy (st.op x)) fun b=>K 0 ⟨.val (.bool !b),[]⟩):AO P ⟨dst,.unOp .not t x,ty,pos,af,g⟩ nid st K:=by
 obtain⟨b,h1,h2⟩:=h;exact abN t x ⟨b,zh h1,h2⟩
theorem fO(t:TypeId)(x:Operand)(h:aH (qz (st.op x)) fun p=>K 0 ⟨.val (.int p.1 (p.1.wrap (0-p.2))),[]⟩):AO P ⟨dst,.unOp .neg t x,ty,pos,af,g⟩ nid st K:=by
 obtain⟨b,h1,h2⟩:=h;exact abO t x ⟨_,_,oI h1,h2⟩
theorem dL{ks k:IntKind}(s t:TypeId)(x:Operand) [hs:lM P s ks] [ht:lM P t k](h:aH (jg (st.op x)) fun n=>K 0 ⟨.val (.int k (k.wrap n)),[]⟩):AO P ⟨dst,.convert s t x,ty,pos,af,g⟩ nid st K:=by
 obtain⟨n,h1,h2⟩:=h;obtain⟨k',hk⟩:=gK h1;exact JJ s t x ⟨k',n,hk,h2⟩
theorem dE(bo:BinOp)(t:TypeId)(x y:Operand)(t':TypeId)(h:aH (bT P bo t (st.op x) (st.op y)) fun r=>K 0 ⟨r,[]⟩):AO P ⟨dst,.binOp bo t x y t',ty,pos,af,g⟩ nid st K:=abK bo t x y t' h
theorem mI(t:TypeId)(x y:Operand)(t':TypeId)(h:aH (pK P t (st.op x) (st.op y)) fun b=>K 0 ⟨.val (.bool b),[]⟩):AO P ⟨dst,.binOp .eql t x y t',ty,pos,af,g⟩ nid st K:=RN t x y t' h
theorem kJ(t:TypeId)(x y:Operand)(t':TypeId)(h:aH (pK P t (st.op x) (st.op y)) fun b=>K 0 ⟨.val (.bool !b),[]⟩):AO P ⟨dst,.binOp .neq t x y t',ty,pos,af,g⟩ nid st K:=Me t x y t' h
theorem dF{fo n:Nat} {ft:TypeId}(s:TypeId)(x:Operand)(f:Nat) [hf:BS P s f fo ft] [hz:fF P ft (n+1)](h:aH (uL fo (st.op x)) fun y=>K 0 ⟨y,[]⟩):AO P ⟨dst,.fieldAddr s x f,ty,pos,af,g⟩ nid st K:=Ck s x f h
theorem bi{e:TypeId} {es:Nat}(t:TypeId)(x ix:Operand) [he:dK P t e] [hz:fF P e es](h:aH (jg (st.op ix)) fun i=>aH (Cm i.toNat es (st.op x)) fun p=>(0≤i∧i<p.2)∧K 0 ⟨p.1,[]⟩):AO P ⟨dst,.indexAddr t x ix,ty,pos,af,g⟩ nid st K:=by
 obtain⟨i,h1,p,h2,h3,h4⟩:=h;obtain⟨k,hk⟩:=gK h1;exact Cn t x ix ⟨k,i,p.1,p.2,hk,h2,h3,h4⟩
theorem bJ{e:TypeId} {n es:Nat}(t:TypeId)(x ix:Operand) [he:yG P t n e] [hz:fF P e es](h:aH (jg (st.op ix)) fun i=>aH (uL (i.toNat*es) (st.op x)) fun y=>(0≤i∧i<n)∧K 0 ⟨y,[]⟩):AO P ⟨dst,.indexAddr t x ix,ty,pos,af,g⟩ nid st K:=by
 obtain⟨i,h1,p,h2,h3,h4⟩:=h;obtain⟨k,hk⟩:=gK h1;exact EE t x ix ⟨k,i,p,hk,h2,h3,h4⟩
theorem bU(t:TypeId)(x:Operand) [ha:vY P t false](h:aH (lh st (st.op x)) fun p=>aH p.1[p.2]? fun y=>K 0 ⟨y,[]⟩):AO P ⟨dst,.load t x,ty,pos,af,g⟩ nid st K:=by
 obtain⟨p,h1,y,h2,h3⟩:=h;exact Xy t x ⟨p.1,p.2,y,h1,h2,h3⟩
theorem aO{n:Nat}(t:TypeId)(x:Operand) [ha:vY P t true] [hz:fF P t n](h:aH (lh st (st.op x)) fun p=>p.2+n≤p.1.length∧K 0 ⟨.agg ((p.1.drop p.2).take n),[]⟩):AO P ⟨dst,.load t x,ty,pos,af,g⟩ nid st K:=by
 obtain⟨p,h1,h2,h3⟩:=h;exact JK t x ⟨p.1,p.2,h1,h2,h3⟩
theorem di(x:Operand)(i:Nat)(h:aH (Hl (st.op x)) fun cs=>aH cs[i]? fun y=>K 0 ⟨y,[]⟩):AO P ⟨dst,.extract x i,ty,pos,af,g⟩ nid st K:=by
 obtain⟨cs,h1,y,h2,h3⟩:=h;exact JL x i ⟨cs,y,MG h1,h2,h3⟩
theorem bO(t:TypeId)(x:Operand) [ht:BR P t](h:aH (xz (st.op x)) fun s=>K 0 ⟨.val (.int .i64 s.size),[]⟩):AO P ⟨dst,.call ⟨.builtin .len,#[x],#[t]⟩,ty,pos,af,g⟩ nid st K:=by
 obtain⟨s,h1,h2⟩:=h;exact Mf t x ⟨s,q8 h1,h2⟩
theorem fP{e:TypeId}(t:TypeId)(x:Operand) [ht:dK P t e](h:aH (y8 (st.op x)) fun n=>K 0 ⟨.val (.int .i64 n),[]⟩):AO P ⟨dst,.call ⟨.builtin .len,#[x],#[t]⟩,ty,pos,af,g⟩ nid st K:=abP t x h
theorem eY(e:TypeId)(x:Operand)(h:aH (st.op x).parts fun cs=>cs.all AV.scalar=true∧K 1 ⟨.pt nid 0,[(nid,some (.cells cs e))]⟩):AO P ⟨dst,.box e x,ty,pos,af,g⟩ nid st K:=abQ e x h
theorem zm{n:Nat}(t:TypeId)(x y:Operand) [hz:fF P t n](h:aH (Ag (st.op x)) fun p=>aH (xB (st.ob p.1)) fun q=>aH (st.op y).parts fun vs=>vs.all AV.scalar=true∧vs.length=n∧p.2+n≤q.1.length∧
 K 0 ⟨.any,[(p.1,some (.cells (uM q.1 p.2 vs) q.2))]⟩):AO P ⟨dst,.store t x y,ty,pos,af,g⟩ nid st K:=by
 obtain⟨p,h1,q,h2,vs,h3,h4,h5,h6,h7⟩:=h;exact RO t x y ⟨_,_,_,_,vs,oJ h1,lu h2,h3,h4,h5,h6,h7⟩
theorem lC{zs:List Value} {pl:List (Nat×Nat)}(t:TypeId)(ps:Array (Nat×Operand)) [hz:jB P t zs] [hp:iW P t pl]
 (h:aH (jE (pl[·]?) (zs.map ofV) (ps.toList.map fun p=>(p.1,st.op p.2))) fun out=>K 0 ⟨.agg out,[]⟩):AO P ⟨dst,.build t ps,ty,pos,af,g⟩ nid st K:=RP t ps h
theorem aP{e:TypeId} {es:Nat} {zs:List Value}(t:TypeId)(len:Nat)(ps:Array (Nat×Operand)) [he:dK P t e] [hs:fF P e es] [hz:jB P e zs]
 (h:aH (jE (fun i=>some (i*es,es)) (dU zs len) (ps.toList.map fun p=>(p.1,st.op p.2))) fun out=>zs.length=es∧zs.all Value.oneCell'=true∧len*es≤16777216∧out.all AV.scalar=true∧out.length=len*es∧
   K 1 ⟨.sl nid 0 len es,[(nid,some (.cells out e))]⟩):AO P ⟨dst,.buildSlice t len ps,ty,pos,af,g⟩ nid st K:=Ab t len ps h
theorem gz{e:TypeId} {es by':Nat} {zs:List Value}(t:TypeId)(l c:Operand) [he:dK P t e] [hs:fF P e es] [hb:tq P e by'] [hz:jB P e zs]
 (h:aH (jg (st.op l)) fun n=>aH (jg (st.op c)) fun n'=>n'=n∧zs.length=es∧zs.all Value.oneCell'=true∧0≤n∧n≤9223372036854775807∧(by':Int)*n≤281474976710656∧
   K 1 ⟨.sl nid 0 n.toNat es,[(nid,some (.cells (dU zs n.toNat) e))]⟩):AO P ⟨dst,.makeSlice t l c,ty,pos,af,g⟩ nid st K:=by
 obtain⟨n,h1,n',h2,rfl,h3⟩:=h
 obtain⟨k1,hk1⟩:=gK h1;obtain⟨k2,hk2⟩:=gK h2
 exact Co t l c ⟨k1,k2,_,hk1,hk2,h3⟩
theorem il(t:TypeId)(x:Operand)(lo hi:Option Operand) [ht:BR P t](h:aH (xz (st.op x)) fun s=>aH (bq st 0 lo) fun l=>aH (bq st s.size hi) fun u=>(0≤l∧l≤u∧u≤s.size)∧K 0 ⟨.val (.string (s.extract l.toNat u.toNat)),[]⟩):
 AO P ⟨dst,.slice t x lo hi none,ty,pos,af,g⟩ nid st K:=by
 obtain⟨s,h1,l,h2,u,h3,h4,h5⟩:=h;exact EF t x lo hi ⟨s,l,u,q8 h1,h2,h3,h4,h5⟩
theorem jO{e:TypeId} {es:Nat}(t:TypeId)(x:Operand)(lo hi:Option Operand) [ht:dK P t e] [hs:fF P e es](h:aH (uP (st.op x)) fun p=>aH (bq st 0 lo) fun l=>aH (bq st p.2.2 hi) fun u=>(0≤l∧l≤u∧u≤p.2.2)∧
 K 0 ⟨.isl p.1 ((p.2.1.drop (l.toNat*es)).take ((u.toNat-l.toNat)*es)) (u.toNat-l.toNat),[]⟩):AO P ⟨dst,.slice t x lo hi none,ty,pos,af,g⟩ nid st K:=by
 obtain⟨p,h1,l,h2,u,h3,h4,h5⟩:=h;exact Mg t x lo hi ⟨_,_,_,l,u,adO h1,h2,h3,h4,h5⟩
theorem lD{e:TypeId} {es:Nat}(t:TypeId)(x:Operand)(lo hi:Option Operand) [ht:dK P t e] [hs:fF P e es](h:aH (yM (st.op x)) fun p=>aH (bq st 0 lo) fun l=>aH (bq st p.2.2.1 hi) fun u=>p.2.2.2=es∧(0≤l∧l≤u∧u≤p.2.2.1)∧
 (l<p.2.2.1∨l=0)∧K 0 ⟨.sl p.1 (p.2.1+l.toNat*es) (u.toNat-l.toNat) es,[]⟩):AO P ⟨dst,.slice t x lo hi none,ty,pos,af,g⟩ nid st K:=by
 obtain⟨p,h1,l,h2,u,h3,h4,h5,h6,h7⟩:=h;exact RS t x lo hi ⟨_,_,_,_,l,u,mH h1,h4,h2,h3,h5,h6,h7⟩
theorem iq{e:TypeId} {es:Nat}(t:TypeId)(x:Operand)(lo hi:Option Operand) [ht:dK P t e] [hs:fF P e es](h:aH (yM (st.op x)) fun p=>aH (bq st 0 lo) fun l=>aH (bq st p.2.2.1 hi) fun u=>p.2.2.2=es∧(0≤l∧l=u∧u≤p.2.2.1)∧
 K 0 ⟨.isl false [] 0,[]⟩):AO P ⟨dst,.slice t x lo hi none,ty,pos,af,g⟩ nid st K:=by
 obtain⟨p,h1,l,h2,u,h3,h4,h5,h6⟩:=h;exact EG t x lo hi ⟨_,_,_,_,l,u,mH h1,h4,h2,h3,h5,h6⟩
theorem bS{e:TypeId} {es by':Nat} {zs:List Value}(t:TypeId)(x y:Operand) [he:dK P t e] [hs:fF P e es] [hb:tq P e by'] [hz:jB P e zs]
 (h:aH (uP (st.op x)) fun p=>aH (gy st (st.op y)) fun q=>p=(true,[],0)∧zs.length=es∧zs.all Value.oneCell'=true∧q.1.length=q.2*es∧0<q.2∧q.2*by'≤140737488355328∧q.2≤9223372036854775807∧K 1 ⟨.sl nid 0 q.2 es,[(nid,some (.cells q.1 e))]⟩):
 AO P ⟨dst,.call ⟨.builtin .append,#[x,y],#[t,t]⟩,ty,pos,af,g⟩ nid st K:=by
 obtain⟨p,h1,q,h2,rfl,h3⟩:=h;exact Cq t x y ⟨_,_,adO h1,h2,h3⟩
theorem dV{e:TypeId} {es by':Nat} {zs:List Value}(t:TypeId)(x y:Operand) [he:dK P t e] [hs:fF P e es] [hb:tq P e by'] [hz:jB P e zs]
 (h:aH (yM (st.op x)) fun p=>aH (xB (st.ob p.1)) fun o=>aH (gy st (st.op y)) fun q=>p.2.1=0∧p.2.2.2=es∧o.2=e∧zs.length=es∧zs.all Value.oneCell'=true∧o.1.length=p.2.2.1*es∧q.1.length=q.2*es∧(p.2.2.1+q.2)*by'≤140737488355328∧p.2.2.1+q.2≤9223372036854775807∧
   K 1 ⟨.sl nid 0 (p.2.2.1+q.2) es,[(nid,some (.cells (o.1++q.1) e)),(p.1,none)]⟩):
 AO P ⟨dst,.call ⟨.builtin .append,#[x,y],#[t,t]⟩,ty,pos,af,g⟩ nid st K:=by
 obtain⟨⟨id,off,n,es'⟩,h1,⟨cs,e'⟩,h2,q,h3,h4,h5,h6,h7⟩:=h
 dsimp only at h4 h5 h6 h7
 subst h4;subst h5;subst h6
 exact Mh t x y ⟨_,_,_,_,_,mH h1,lu h2,h3,h7⟩
end
theorem J5{cs:List AV} {off:Nat} {v:AV}:uM cs off [v]=cs.set off v:=rfl
theorem lZ{α:Type} {cs vs:List α}(h:vs.length=cs.length):spl cs 0 vs=vs:=by unfold spl;simp[h]
theorem xC{v:Value} {n:Nat}:dU [v] n=List.replicate n (ofV v):=by
 unfold dU
 induction n with
 |zero=>rfl
 |succ n ih=>simp only[List.map_cons,List.map_nil] at ih;simp[List.replicate_succ,ih]
theorem J6{α:Type} {l:List α} {n:Nat}(h:l.length≤n):l.take n=l:=List.take_of_length_le h
def sel{α:Type}(z:Bool)(a b:α):α:=if z then a else b
theorem ah1{α:Type} {a b:α} {p:Prop} [Decidable p](h:p):sel (decide p) a b=a:=by simp[sel,h]
theorem XG{α:Type} {a b:α} {p:Prop} [Decidable p](h:¬p):sel (decide p) a b=b:=by simp[sel,h]
theorem abR{α:Type} {a b:α} {z:Bool}(h:z=true):sel z a b=a:=by simp[sel,h]
theorem abS{α:Type} {a b:α} {z:Bool}(h:z=false):sel z a b=b:=by simp[sel,h]
theorem MH{α:Type} {a b:α}:sel true a b=a:=rfl
theorem J7{α:Type} {a b:α}:sel false a b=b:=rfl
section
variable {id off n es k i t:Nat} {cs:List AV} {z b:Bool} {s:ByteArray} {m:Int} {kd:IntKind} {v:Value} {x y:AV} {st:St} {o:aC} {e:TypeId} {env:List (Nat×AV)} {objs:List (Nat×Option aC)} {β:Type} {u:β} {l:List (Nat×β)}
theorem XH:aS ((i,u)::l) t=if t=i then some u else aS l t:=rfl
theorem Sc:aS ([]:List (Nat×β)) t=none:=rfl
theorem abT:aS ((i,u)::l) i=some u:=by simp[aS]
theorem e_ev:St.ev ⟨n,k,env,objs⟩ t=(aS env t).getD .any:=rfl
theorem e_ob:St.ob ⟨n,k,env,objs⟩ t=(aS objs t).join:=rfl
theorem abU:St.op st (.tmp t)=st.ev t:=rfl
theorem abV:St.op st (.const v)=ofV v:=rfl
theorem e_pt:Ag (.pt id off)=some (id,off):=rfl
theorem XI:xy (.val (.bool b))=some b:=rfl
theorem XJ:qz (.val (.int kd m))=some (kd,m):=rfl
theorem abW:jg (.val (.int kd m))=some m:=rfl
theorem abX:xz (.val (.string s))=some s:=rfl
theorem abY:uP (.isl z cs n)=some (z,cs,n):=rfl
theorem e_sl:yM (.sl id off n es)=some (id,off,n,es):=rfl
theorem abZ:xA (.agg cs)=some cs:=rfl
theorem ab0:Hl (.tup cs)=some cs:=rfl
theorem e_cl:xB (some (.cells cs e))=some (cs,e):=rfl
theorem Sg:uL k (.pt id off)=some (.pt id (off+k)):=rfl
theorem MI:uL k (.ipt cs off)=some (.ipt cs (off+k)):=rfl
theorem ab1:Cm i es (.sl id off n k)=some (.pt id (off+i*es),n):=rfl
theorem XK:Cm i es (.isl z cs n)=some (.ipt cs (i*es),n):=rfl
theorem J8:lh ⟨n,k,env,objs⟩ (.pt id off)=qW off (aS objs id).join:=rfl
theorem EU:lh st (.ipt cs off)=some (cs,off):=rfl
theorem J9:qW off (some (.cells cs e))=some (cs,off):=rfl
theorem Si:y8 (.sl id off n es)=some n:=rfl
theorem MJ:y8 (.isl z cs n)=some n:=rfl
theorem Sj:gy ⟨n,k,env,objs⟩ (.sl id off i es)=Cf off i es (aS objs id).join:=rfl
theorem MK:gy st (.isl z cs n)=some (cs,n):=rfl
theorem Sk:Cf off i es (some (.cells cs e))=some ((cs.drop off).take (i*es),i):=rfl
theorem ML:Cf off i es (some (.full cs e))=some ((cs.drop off).take (i*es),i):=rfl
theorem MM:bq st k none=some (k:Int):=rfl
theorem MN{x:Operand}:bq st k (some x)=jg (st.op x):=rfl
theorem MO:AV.parts (.agg cs)=some cs:=rfl
theorem MP:AV.parts (.isl z cs n)=some [.isl z cs n]:=rfl
theorem MQ:AV.parts (.ipt cs n)=some [.ipt cs n]:=rfl
theorem MR:AV.parts (.sl id off n es)=some [.sl id off n es]:=rfl
theorem MS:AV.parts (.pt id off)=some [.pt id off]:=rfl
theorem MU:AV.parts (.mp id)=some [.mp id]:=rfl
theorem MV:AV.parts (.yl id)=some [.yl id]:=rfl
theorem ab2:AV.scalar (.yl id)=true:=rfl
theorem MW{f:Nat}:AV.parts (.fn f cs)=some [.fn f cs]:=rfl
theorem MX:AV.parts (.val (.int kd m))=some [.val (.int kd m)]:=rfl
theorem MZ:AV.parts (.val (.bool b))=some [.val (.bool b)]:=rfl
theorem Ka:AV.parts (.val (.string s))=some [.val (.string s)]:=rfl
theorem Kb{ad:Option Addr}:AV.parts (.val (.pointer ad))=some [.val (.pointer ad)]:=rfl
theorem Kc{ad:Option Nat}:AV.parts (.val (.map ad))=some [.val (.map ad)]:=rfl
theorem ab3:AV.scalar (.isl z cs n)=true:=rfl
theorem ab4:AV.scalar (.ipt cs n)=true:=rfl
theorem ab5:AV.scalar (.sl id off n es)=true:=rfl
theorem ab6:AV.scalar (.pt id off)=true:=rfl
theorem ab7:AV.scalar (.mp id)=true:=rfl
theorem ab8{f:Nat}:AV.scalar (.fn f cs)=true:=rfl
theorem ab9:AV.scalar (.val v)=v.oneCell':=rfl
theorem aca:AV.notNil (.pt id off)=true:=rfl
theorem acb:AV.notNil (.ipt cs off)=true:=rfl
theorem acd{f:Nat}:AV.notNil (.fn f cs)=true:=rfl
theorem ace:AV.notNil (.mp id)=true:=rfl
theorem Sl{p q:Bool}:je z (.val (.bool p)) (.val (.bool q))= .val (.bool (sel z p q)):=rfl
theorem Sn{p q:Int} {kd':IntKind}:je z (.val (.int kd p)) (.val (.int kd' q))=sel z (.val (.int kd p)) (.val (.int kd' q)):=rfl
theorem Sq:je z .any x=sel z .any x:=by cases x<;>rfl
theorem Sr:je z noV x=sel z noV x:=by cases x<;>rfl
theorem Su:je z x noV=sel z x noV:=by cases x<;>first|rfl|(rename_i v;cases v<;>rfl)
theorem Sv:je z x .any=sel z x .any:=by cases x<;>first|rfl|(rename_i v;cases v<;>rfl)
end
def cS(l:List ByteArray):List AV:=l.map fun s=> .val (.string s)
def cB(l:List Bool):List AV:=l.map fun b=> .val (.bool b)
def cI(k:IntKind)(l:List Int):List AV:=l.map fun n=> .val (.int k n)
section
variable {k:IntKind}
theorem M0(l:List ByteArray):(cS l).length=l.length:=by simp[cS]
theorem M4(l:List Bool):(cB l).length=l.length:=by simp[cB]
theorem EW(l:List Int):(cI k l).length=l.length:=by simp[cI]
theorem XL(l:List ByteArray)(i:Nat)(s:ByteArray):(cS l).set i (.val (.string s))=cS (l.set i s):=by simp[cS,List.map_set]
theorem XM(l:List Bool)(i:Nat)(s:Bool):(cB l).set i (.val (.bool s))=cB (l.set i s):=by simp[cB,List.map_set]
theorem XN(l:List Int)(i:Nat)(s:Int):(cI k l).set i (.val (.int k s))=cI k (l.set i s):=by simp[cI,List.map_set]
theorem cS_get(l:List ByteArray)(i:Nat):(cS l)[i]? =l[i]?.map fun s=> .val (.string s):=by simp[cS]
theorem cB_get(l:List Bool)(i:Nat):(cB l)[i]? =l[i]?.map fun s=> .val (.bool s):=by simp[cB]
theorem XO(l:List Int)(i:Nat):(cI k l)[i]? =l[i]?.map fun s=> .val (.int k s):=by simp[cI]
theorem XP(l m:List ByteArray):cS l++cS m=cS (l++m):=by simp[cS]
theorem XQ(l m:List Bool):cB l++cB m=cB (l++m):=by simp[cB]
theorem XR(l m:List Int):cI k l++cI k m=cI k (l++m):=by simp[cI]
theorem Sw(l:List ByteArray)(s:ByteArray):cS l++[.val (.string s)]=cS (l++[s]):=by simp[cS]
theorem Sz(l:List Bool)(s:Bool):cB l++[.val (.bool s)]=cB (l++[s]):=by simp[cB]
theorem SA(l:List Int)(s:Int):cI k l++[.val (.int k s)]=cI k (l++[s]):=by simp[cI]
theorem SB(l:List ByteArray)(n:Nat):(cS l).take n=cS (l.take n):=by simp[cS,List.map_take]
theorem SC(l:List Bool)(n:Nat):(cB l).take n=cB (l.take n):=by simp[cB,List.map_take]
theorem SE(l:List Int)(n:Nat):(cI k l).take n=cI k (l.take n):=by simp[cI,List.map_take]
theorem SF(l:List ByteArray)(n:Nat):(cS l).drop n=cS (l.drop n):=by simp[cS,List.map_drop]
theorem SH(l:List Bool)(n:Nat):(cB l).drop n=cB (l.drop n):=by simp[cB,List.map_drop]
theorem SI(l:List Int)(n:Nat):(cI k l).drop n=cI k (l.drop n):=by simp[cI,List.map_drop]
theorem SK(s:ByteArray)(n:Nat):dU [.string s] n=cS (List.replicate n s):=by simp[xC,cS,ofV]
theorem SL(s:Bool)(n:Nat):dU [.bool s] n=cB (List.replicate n s):=by simp[xC,cB,ofV]
theorem SN(s:Int)(n:Nat):dU [.int k s] n=cI k (List.replicate n s):=by simp[xC,cI,ofV]
theorem XT(τ:Nat→Nat)(l:List ByteArray):(cS l).map (ren τ)=cS l:=by simp[cS,ren]
theorem XU(τ:Nat→Nat)(l:List Bool):(cB l).map (ren τ)=cB l:=by simp[cB,ren]
theorem XV(τ:Nat→Nat)(l:List Int):(cI k l).map (ren τ)=cI k l:=by simp[cI,ren]
theorem XW(id:Nat)(cs:List AV)(l:List ByteArray):(cS l).map (bQ id cs)=cS l:=by simp[cS,bQ]
theorem XX(id:Nat)(cs:List AV)(l:List Bool):(cB l).map (bQ id cs)=cB l:=by simp[cB,bQ]
theorem XY(id:Nat)(cs:List AV)(l:List Int):(cI k l).map (bQ id cs)=cI k l:=by simp[cI,bQ]
theorem XZ(n:Nat)(l:List ByteArray):(∀x∈cS l,bnd n x)=True:=by simp[cS,bnd]
theorem X3(n:Nat)(l:List Bool):(∀x∈cB l,bnd n x)=True:=by simp only[cB,List.forall_mem_map];simp[bnd]
theorem qA(n:Nat)(l:List Int):(∀x∈cI k l,bnd n x)=True:=by simp[cI,bnd]
theorem M5(l:List ByteArray):(∀x∈cS l,noImm x)=True:=by simp[cS,noImm]
theorem M6(l:List Bool):(∀x∈cB l,noImm x)=True:=by simp only[cB,List.forall_mem_map];simp[noImm]
theorem M7(l:List Int):(∀x∈cI k l,noImm x)=True:=by simp[cI,noImm]
theorem X4(l:List ByteArray):(cS l).all AV.scalar=true:=by simp[cS,AV.scalar,Value.oneCell']
theorem X5(l:List Bool):(cB l).all AV.scalar=true:=by simp[cB,AV.scalar,Value.oneCell']
theorem X6(l:List Int):(cI k l).all AV.scalar=true:=by simp[cI,AV.scalar,Value.oneCell']
theorem X7(l m:List ByteArray)(h:m.length=l.length):spl (cS l) 0 (cS m)=cS m:=lZ (by simpa[cS] using h)
theorem X8(l m:List Bool)(h:m.length=l.length):spl (cB l) 0 (cB m)=cB m:=lZ (by simpa[cB] using h)
theorem X9(l m:List Int)(h:m.length=l.length):spl (cI k l) 0 (cI k m)=cI k m:=lZ (by simpa[cI] using h)
theorem Ya{s:ByteArray}:cS [s]=[.val (.string s)]:=rfl
theorem Yb{s:Bool}:cB [s]=[.val (.bool s)]:=rfl
theorem Yc{s:Int}:cI k [s]=[.val (.int k s)]:=rfl
theorem Yd:cS []=[]:=rfl
theorem Ye:cB []=[]:=rfl
theorem fQ:cI k []=[]:=rfl
end
theorem EX{cs vs:List AV} {off:Nat} {a b:AV}:uM cs off (a::b::vs)=spl cs off (a::b::vs):=rfl
theorem SQ{α:Type} {cs vs:List α} {off:Nat} {a c:α}:spl (c::cs) off (a::vs)=(c::cs).take off++(a::vs++(c::cs).drop (off+(a::vs).length)):=rfl
def nN(n off:Nat):Option aC→Option AV
 |some (.cells cs _)=>if off+n≤cs.length then some (.agg ((cs.drop off).take n)) else none
 |_=>none
def nO(off:Nat):Option aC→Option AV
 |some (.cells cs _)=>cs[off]?
 |_=>none
def wm(n:Nat)(st:St):AV→Option AV
 | .pt id off=>nN n off (st.ob id)
 |_=>none
def rq(st:St):AV→Option AV
 | .pt id off=>nO off (st.ob id)
 |_=>none
theorem Ke{P:Program} {st:St} {t:Nat}:eP P st (.tmp t)=some (st.ev t):=rfl
theorem Cz{P:Program} {st:St} {x t n:Nat} [ha:vY P t true] [hs:fF P t n]:eP P st (.cell x t)=wm n st (st.ev x):=by
 simp only[eP,ha.out,hs.out]
 cases st.ev x with
 |pt id off=>
  cases ho:st.ob id with
  |none=>simp[wm,nN,ho]
  |some o=>cases o<;>simp[wm,nN,ho]
 |_=>rfl
theorem CE{P:Program} {st:St} {x t:Nat} [ha:vY P t false]:eP P st (.cell x t)=rq st (st.ev x):=by
 simp only[eP,ha.out]
 cases st.ev x with
 |pt id off=>
  cases ho:st.ob id with
  |none=>simp[rq,nO,ho]
  |some o=>cases o<;>simp[rq,nO,ho]
 |_=>rfl
theorem Kg{n k id off:Nat} {m:Nat} {env:List (Nat×AV)} {objs:List (Nat×Option aC)}:wm n ⟨k,m,env,objs⟩ (.pt id off)=nN n off (aS objs id).join:=rfl
theorem EY{k id off:Nat} {m:Nat} {env:List (Nat×AV)} {objs:List (Nat×Option aC)}:rq ⟨k,m,env,objs⟩ (.pt id off)=nO off (aS objs id).join:=rfl
theorem EZ{n off:Nat} {cs:List AV} {e:TypeId}:nN n off (some (.cells cs e))=if off+n≤cs.length then some (.agg ((cs.drop off).take n)) else none:=rfl
theorem E5{off:Nat} {cs:List AV} {e:TypeId}:nO off (some (.cells cs e))=cs[off]? :=rfl
def gL(n id es:Nat):AV:=if n=0 then .isl true [] 0 else .sl id 0 n es
def gM(n id:Nat)(cs:List AV)(e:TypeId):List (Nat×Option aC):=if n=0 then [] else [(id,some (.cells cs e))]
theorem SS{n id es:Nat}(h:n=0):gL n id es= .isl true [] 0:=by unfold gL;rw[if_pos h]
theorem SV{n id es:Nat}(h:0<n):gL n id es= .sl id 0 n es:=by unfold gL;rw[if_neg (by omega)]
theorem SX{n id:Nat} {cs:List AV} {e:TypeId}(h:n=0):gM n id cs e=[]:=by unfold gM;rw[if_pos h]
theorem SY{n id:Nat} {cs:List AV} {e:TypeId}(h:0<n):gM n id cs e=[(id,some (.cells cs e))]:=by unfold gM;rw[if_neg (by omega)]
def Nxt{ι:Type}(I:ι→St)(μ:ι→Nat)(m:Nat)(i:ι)(s:St):Prop:=∃(σ':List Nat) (j:ι),σ'.length=m∧Sub σ' (I j) s∧μ j<μ i
theorem Nxt.mk{ι:Type} {I:ι→St} {μ:ι→Nat} {m:Nat} {i:ι} {s:St}(σ:List Nat)(j:ι)(h1:σ.length=m)(h2:Sub σ (I j) s)(h3:μ j<μ i):Nxt I μ m i s:=⟨σ,j,h1,h2,h3⟩
theorem au{P:Program} {Q:Exit→Nat→St→Prop} {nid:Nat} {st:St} {code:Code} {ι:Type}(σ:List Nat)(m:Nat)(I:ι→St)(μ:ι→Nat)(i0:ι)(hm:σ.length=m)(h0:Sub σ (I i0) st)
 (round:∀i,AC P code (Thn (fun _ s=>Nxt I μ m i s) Q) m (I i)):AC P (.loop code) Q nid st:=Rm σ m I μ i0 hm h0 round
theorem M8{n:Int}(h: -9223372036854775808≤n∧n≤9223372036854775807):IntKind.i64.wrap n=n:=by unfold IntKind.wrap;simp only[IntKind.bits,IntKind.signed];simp;omega
theorem acf{n:Int}(h: -2147483648≤n∧n≤2147483647):IntKind.i32.wrap n=n:=by unfold IntKind.wrap;simp only[IntKind.bits,IntKind.signed];simp;omega
theorem w_u8{n:Int}(h:0≤n∧n≤255):IntKind.u8.wrap n=n:=by unfold IntKind.wrap;simp only[IntKind.bits,IntKind.signed];simp;omega
theorem WI{n:Int}(h:0≤n∧n≤65535):IntKind.u16.wrap n=n:=by unfold IntKind.wrap;simp only[IntKind.bits,IntKind.signed];simp;omega
theorem WJ{n:Int}(h:0≤n∧n≤4294967295):IntKind.u32.wrap n=n:=by unfold IntKind.wrap;simp only[IntKind.bits,IntKind.signed];simp;omega
theorem acg{n:Int}(h:0≤n∧n≤18446744073709551615):IntKind.u64.wrap n=n:=by unfold IntKind.wrap;simp only[IntKind.bits,IntKind.signed];simp;omega
theorem ai{P:Program} {Q:Exit→Nat→St→Prop} {nid:Nat} {st:St} {code:Code}(h:AC P (.loop code) Q nid st):AC P (.loop code) Q nid st:=h
theorem aj{ι:Type} {I:ι→St} {μ:ι→Nat} {m:Nat} {i:ι} {s:St}(h:Nxt I μ m i s):Nxt I μ m i s:=h
theorem CF{a b:Int}(h:0≤a):a.tmod b=a%b:=Int.tmod_eq_emod_of_nonneg h
theorem CJ{a b:Int}(h:0≤a):a.tdiv b=a/b:=Int.tdiv_eq_ediv_of_nonneg h
section
variable {τ:Nat→Nat} {σ:List Nat} {st:St} {id i off len es n k f:Nat} {z:Bool} {cs l:List AV} {v:Value} {e:TypeId}
theorem Yf:ren τ noV=noV:=by simp[noV,ren]
theorem S9:ren τ (.val v)= .val v:=by simp[ren]
theorem Ta:ren τ (.isl z cs n)= .isl z cs n:=by simp[ren]
theorem Tc:ren τ (.ipt cs k)= .ipt cs k:=by simp[ren]
theorem Yg:ren τ (.sl id off len es)= .sl (τ id) off len es:=by simp[ren]
theorem Yh:ren τ (.pt id off)= .pt (τ id) off:=by simp[ren]
theorem Yi:ren τ (.mp id)= .mp (τ id):=by simp[ren]
theorem Yj:ren τ (.yl id)= .yl (τ id):=by simp[ren]
theorem Td{H:iU} {j:Nat}:pM τ (.tr H j)= .tr H j:=rfl
theorem Te:ren τ (.agg cs)= .agg (cs.map (ren τ)):=by simp[ren]
theorem Tf:ren τ (.tup cs)= .tup (cs.map (ren τ)):=by simp[ren]
theorem Yk:ren τ (.fn f cs)= .fn f (cs.map (ren τ)):=by simp[ren]
theorem Tg:ren τ .any= .any:=by simp[ren]
theorem Kh:pM τ (.full cs e)= .full (cs.map (ren τ)) e:=rfl
theorem E8:pM τ (.cells cs e)= .cells (cs.map (ren τ)) e:=rfl
theorem Yl:bQ id cs (.sl i off len es)=if i=id then .isl false ((cs.drop off).take (len*es)) len else .sl i off len es:=by simp[bQ]
theorem Ym:bQ id cs (.pt i off)=if i=id then .ipt cs off else .pt i off:=by simp[bQ]
theorem Ti:bQ id cs (.agg l)= .agg (l.map (bQ id cs)):=by simp[bQ]
theorem Tj:bQ id cs (.tup l)= .tup (l.map (bQ id cs)):=by simp[bQ]
theorem Yn:bQ id cs (.fn f l)= .fn f (l.map (bQ id cs)):=by simp[bQ]
theorem Yo:bQ id cs noV=noV:=by simp[noV,bQ]
theorem Tk:bQ id cs (.val v)= .val v:=by simp[bQ]
theorem Tm:bQ id cs (.isl z l n)= .isl z l n:=by simp[bQ]
theorem Tn:bQ id cs (.ipt l k)= .ipt l k:=by simp[bQ]
theorem Yp:bQ id cs (.mp i)= .mp i:=by simp[bQ]
theorem Yq:bQ id cs (.yl i)= .yl i:=by simp[bQ]
theorem Tp{H:iU} {j:Nat}:vU id cs (.tr H j)= .tr H j:=rfl
theorem Tq:bQ id cs .any= .any:=by simp[bQ]
theorem E9:vU id cs (.cells l e)= .cells (l.map (bQ id cs)) e:=rfl
def dfzS(st:St)(σ:List Nat)(k off len es:Nat):Option aC→AV
 |some (.cells cs _)=> .isl false (((cs.drop off).take (len*es)).map (dfz st σ k)) len
 |_=> .any
def dfzP(st:St)(σ:List Nat)(k off:Nat):Option aC→AV
 |some (.cells cs _)=> .ipt (cs.map (dfz st σ k)) off
 |_=> .any
theorem Yr:dfzS st σ k off len es (some (.cells cs e))= .isl false (((cs.drop off).take (len*es)).map (dfz st σ k)) len:=rfl
theorem Yt:dfzP st σ k off (some (.cells cs e))= .ipt (cs.map (dfz st σ k)) off:=rfl
theorem Yu(h:0<k):dfz st σ k (.sl id off len es)=if kX σ id=true then .any else dfzS st σ (k-1) off len es (aS st.objs id).join:=by
 obtain⟨k,rfl⟩:∃j,k=j+1:=⟨k-1,by omega⟩
 rw[dfz];split
 ·rfl
 ·cases(aS st.objs id).join with
  |none=>rfl
  |some o=>cases o<;>rfl
theorem Yv(h:0<k):dfz st σ k (.pt id off)=if kX σ id=true then .any else dfzP st σ (k-1) off (aS st.objs id).join:=by
 obtain⟨k,rfl⟩:∃j,k=j+1:=⟨k-1,by omega⟩
 rw[dfz];split
 ·rfl
 ·cases(aS st.objs id).join with
  |none=>rfl
  |some o=>cases o<;>rfl
theorem Tt(h:0<k):dfz st σ k (.agg l)= .agg (l.map (dfz st σ (k-1))):=by obtain⟨k,rfl⟩:∃j,k=j+1:=⟨k-1,by omega⟩;rw[dfz];rfl
theorem Tu(h:0<k):dfz st σ k (.tup l)= .tup (l.map (dfz st σ (k-1))):=by obtain⟨k,rfl⟩:∃j,k=j+1:=⟨k-1,by omega⟩;rw[dfz];rfl
theorem Yw(h:0<k):dfz st σ k (.fn f l)= .fn f (l.map (dfz st σ (k-1))):=by obtain⟨k,rfl⟩:∃j,k=j+1:=⟨k-1,by omega⟩;rw[dfz];rfl
theorem ru(h:0<k):dfz st σ k (.val v)= .val v:=by obtain⟨k,rfl⟩:∃j,k=j+1:=⟨k-1,by omega⟩;rw[dfz]
theorem Hm(h:0<k):dfz st σ k (.isl z l n)= .isl z l n:=by obtain⟨k,rfl⟩:∃j,k=j+1:=⟨k-1,by omega⟩;rw[dfz]
theorem Ho(h:0<k):dfz st σ k (.ipt l n)= .ipt l n:=by obtain⟨k,rfl⟩:∃j,k=j+1:=⟨k-1,by omega⟩;rw[dfz]
theorem Yx:dfz st σ k (.mp id)= .any:=by cases k<;>rw[dfz]
theorem Yy:dfz st σ k (.yl id)= .any:=by cases k<;>rw[dfz]
theorem Tv:dfz st σ k .any= .any:=by cases k<;>rw[dfz]
variable {fz:Bool}
theorem Yz(h:0<k):toA st σ fz k (.sl id off len es)=if kX σ id=true then .sl (pO σ id) off len es else if fz=true then dfz st σ (k-1) (.sl id off len es) else .any:=by obtain⟨k,rfl⟩:∃j,k=j+1:=⟨k-1,by omega⟩;rw[toA];rfl
theorem YA(h:0<k):toA st σ fz k (.pt id off)=if kX σ id=true then .pt (pO σ id) off else if fz=true then dfz st σ (k-1) (.pt id off) else .any:=by obtain⟨k,rfl⟩:∃j,k=j+1:=⟨k-1,by omega⟩;rw[toA];rfl
theorem YB(h:0<k):toA st σ fz k (.mp id)=if kX σ id=true then .mp (pO σ id) else .any:=by obtain⟨k,rfl⟩:∃j,k=j+1:=⟨k-1,by omega⟩;rw[toA]
theorem YC(h:0<k):toA st σ fz k (.yl id)=if kX σ id=true then .yl (pO σ id) else .any:=by obtain⟨k,rfl⟩:∃j,k=j+1:=⟨k-1,by omega⟩;rw[toA]
theorem Tw(h:0<k):toA st σ fz k (.agg l)= .agg (l.map (toA st σ fz (k-1))):=by obtain⟨k,rfl⟩:∃j,k=j+1:=⟨k-1,by omega⟩;rw[toA];rfl
theorem Tx(h:0<k):toA st σ fz k (.tup l)= .tup (l.map (toA st σ fz (k-1))):=by obtain⟨k,rfl⟩:∃j,k=j+1:=⟨k-1,by omega⟩;rw[toA];rfl
theorem YD(h:0<k):toA st σ fz k (.fn f l)= .fn f (l.map (toA st σ fz (k-1))):=by obtain⟨k,rfl⟩:∃j,k=j+1:=⟨k-1,by omega⟩;rw[toA];rfl
theorem ry(h:0<k):toA st σ fz k (.val v)= .val v:=by obtain⟨k,rfl⟩:∃j,k=j+1:=⟨k-1,by omega⟩;rw[toA]
theorem Hq(h:0<k):toA st σ fz k (.isl z l n)= .isl z l n:=by obtain⟨k,rfl⟩:∃j,k=j+1:=⟨k-1,by omega⟩;rw[toA]
theorem Hr(h:0<k):toA st σ fz k (.ipt l n)= .ipt l n:=by obtain⟨k,rfl⟩:∃j,k=j+1:=⟨k-1,by omega⟩;rw[toA]
theorem Ty:toA st σ fz k .any= .any:=by cases k<;>rw[toA]
theorem Ki:toO st σ fz (.cells cs e)= .cells (cs.map (toA st σ fz 8)) e:=rfl
theorem Tz{ag:Bool} {lm:List (List Int×AV)}:toO st σ fz (.map ag n lm)= .map ag n (lm.map fun x=>(x.1,toA st σ fz 8 x.2)):=rfl
theorem M9:toO st σ fz (.full cs e)= .full (cs.map (toA st σ fz 8)) e:=rfl
theorem YE{H:iU} {j:Nat}:toO st σ fz (.tr H j)= .tr H j:=rfl
theorem TA:trs []=[]:=rfl
theorem Kj{cs:List AV} {e:TypeId} {l:List aC}:trs (.cells cs e::l)=trs l:=rfl
theorem TD{ag:Bool} {n:Nat} {m:List (List Int×AV)} {l:List aC}:trs (.map ag n m::l)=trs l:=rfl
theorem Na{cs:List AV} {e:TypeId} {l:List aC}:trs (.full cs e::l)=trs l:=rfl
theorem YF{H:iU} {j:Nat} {l:List aC}:trs (.tr H j::l)=H::trs l:=rfl
theorem YG{o:aC}:Sb st σ fz (some o)=toO st σ fz o:=rfl
theorem Nb:aeW st σ fz id=Sb st σ fz (aS st.objs id).join:=rfl
end
section
variable {st:St} {σ:List Nat} {fz:Bool} {n:Nat} {kd:IntKind}
theorem YH{l:List ByteArray}(h:0<n):(cS l).map (dfz st σ n)=cS l:=by
 unfold cS;rw[List.map_map];exact List.map_congr_left (fun x _=>ru h)
theorem YI{l:List Bool}(h:0<n):(cB l).map (dfz st σ n)=cB l:=by
 unfold cB;rw[List.map_map];exact List.map_congr_left (fun x _=>ru h)
theorem YJ{l:List Int}(h:0<n):(cI kd l).map (dfz st σ n)=cI kd l:=by
 unfold cI;rw[List.map_map];exact List.map_congr_left (fun x _=>ru h)
theorem YK{l:List ByteArray}(h:0<n):(cS l).map (toA st σ fz n)=cS l:=by
 unfold cS;rw[List.map_map];exact List.map_congr_left (fun x _=>ry h)
theorem YL{l:List Bool}(h:0<n):(cB l).map (toA st σ fz n)=cB l:=by
 unfold cB;rw[List.map_map];exact List.map_congr_left (fun x _=>ry h)
theorem YM{l:List Int}(h:0<n):(cI kd l).map (toA st σ fz n)=cI kd l:=by
 unfold cI;rw[List.map_map];exact List.map_congr_left (fun x _=>ry h)
end
theorem Sub.mk2{σ:List Nat} {n m:Nat} {env env':List (Nat×AV)} {objs objs':List (Nat×Option aC)}(h:σ.Nodup∧σ.take m=List.range m∧nK σ ⟨n,m,env,objs⟩ objs'∧xk σ ⟨n,m,env,objs⟩ env'):
 Sub σ ⟨n,m,env',objs'⟩ ⟨n,m,env,objs⟩:=Sub.mk' h.2.2.2 h.2.2.1 h.1 h.2.1
end
section
def cAt:List Nat→Code→Code
 |0::p,.seq a _=>cAt p a
 |1::p,.seq _ b=>cAt p b
 |0::p,.block _ c=>cAt p c
 |0::p,.loop c=>cAt p c
 |0::p,.cond _ x _=>cAt p x
 |1::p,.cond _ _ y=>cAt p y
 |_,c=>c
attribute [push_cast] Ra LH Rb Rc Re Rf jE jZ
attribute [push_cast] ni idx Rq Rs Ru Rv Rx Ry
attribute [push_cast] Xv Rz ED RA RB RD RF RG
attribute [push_cast] RH RI RJ LZ L6 L8 L9 Ma
attribute [push_cast] Mc Md Xw abL abM Xx
attribute [push_cast] xk nK S9 Ta Tc Yg Yh
attribute [push_cast] Yi Te Tf Yk Tg E8 R4 R5
attribute [push_cast] R6 R7 XA XB XC R9 Sa XE
attribute [push_cast] EM Cx JQ JR JS JU Mt Mv
attribute [push_cast] Mw JW JX MB Af CF CJ M8
attribute [push_cast] acf w_u8 WI WJ acg SS SV SX
attribute [push_cast] SY Ke Cz CE Kg EY
attribute [push_cast] EZ E5 EX SQ ES EO EP EQ
attribute [push_cast] ER pO kX Yz YA YB Tw Tx YD ry Hq Hr Ty
attribute [push_cast] Yu Yv Yx Tt Tu Yw ru Hm Ho Tv Yr Yt
attribute [push_cast] YH YI YJ YK YL YM Ki Tz M9 YG Nb
attribute [push_cast] Sr Su Yf Yo Xt g_no
attribute [push_cast] Cy dN dZ lU EI mE jD inN
attribute [push_cast] Yj Td Yq Tp Yy YC YE TA Kj TD Na YF XD R8 Mx JV
attribute [push_cast] Yl Ym Ti Tj Yn Tk Tm Tn
attribute [push_cast] Yp Tq E9 nL Cr Ac Ml qy
attribute [push_cast] ET JY JZ MF J5 lZ X7 X8
attribute [push_cast] X9 J6 M0 XL cS_get XP Sw SB
attribute [push_cast] Ya Yb Yc SF SK XT XW XZ M5 X4 Yd
attribute [push_cast] M4 XM cB_get XQ Sz SC SH SL
attribute [push_cast] XU XX X3 M6 X5 Ye EW XN
attribute [push_cast] XO XR SA SE SI SN XV XY
attribute [push_cast] qA M7 X6 fQ abT XH Sc e_ev
attribute [push_cast] e_ob abU abV e_pt XI XJ abW abX
attribute [push_cast] abY e_sl abZ ab0 e_cl Sg MI ab1
attribute [push_cast] XK J8 EU J9 Si MJ Sj MK
attribute [push_cast] ML Sk MM MN MO MP MQ MR MS
attribute [push_cast] MV ab2 MU MW MX MZ Ka Kb Kc ab3
attribute [push_cast] ab4 ab5 ab6 ab7 ab8 ab9 aca acb
attribute [push_cast] acd ace Sl Sn Sq Sv MH J7
attribute [push_cast] ah1 XG abR abS Go.Value.oneCell' List.map_cons List.map_nil List.nil_append
attribute [push_cast] List.cons_append List.append_nil Nat.add_zero Nat.zero_add Nat.mul_one Nat.zero_mul Int.toNat_natCast Int.toNat_zero
attribute [push_cast] if_true if_false Option.getD_some Option.getD_none Option.join_some Option.join_none Option.bind_some Option.map_some
attribute [push_cast] Option.some.injEq Prod.mk.injEq AV.val.injEq Value.int.injEq Value.bool.injEq Value.string.injEq AV.pt.injEq AV.ipt.injEq
attribute [push_cast] AV.sl.injEq AV.isl.injEq AV.agg.injEq AV.tup.injEq aC.cells.injEq exists_eq_left' exists_eq_left exists_and_left
attribute [push_cast] exists_and_right and_assoc true_and and_true and_self exists_const false_and and_false
attribute [push_cast] false_or or_false true_or or_true exists_false ne_eq not_true_eq_false not_false_eq_true
attribute [push_cast] List.getElem?_cons_zero List.getElem?_cons_succ List.length_cons List.length_nil List.length_map List.length_append List.length_set List.length_replicate
attribute [push_cast] List.all_cons List.all_nil Bool.and_true Bool.true_and Bool.and_self List.drop_zero List.take_succ_cons List.drop_succ_cons
attribute [push_cast] List.take_zero List.drop_nil List.take_nil List.set_cons_zero List.set_cons_succ Bool.not_true Bool.not_false Bool.false_eq_true
attribute [push_cast] Bool.true_eq_false decide_eq_true_eq decide_eq_false_iff_not Bool.not_eq_true' Bool.not_eq_false' false_implies true_implies Bool.not_eq_true
attribute [push_cast] Bool.not_eq_false Bool.not_not decide_true decide_false Int.natCast_zero Int.natCast_add Int.natCast_one eq_self
attribute [push_cast] List.mem_cons forall_eq_or_imp forall_eq List.not_mem_nil implies_true List.map_map Function.comp_def List.getD_cons_zero
attribute [push_cast] List.getD_cons_succ List.forall_mem_map List.forall_mem_append List.nodup_cons List.nodup_nil List.Nodup.eq_1 or_self not_or
attribute [push_cast] List.range_succ List.range_zero List.contains_cons List.contains_nil Bool.or_false Bool.false_or Bool.or_true Bool.true_or
attribute [push_cast] Option.isSome_some Option.isSome_none Nat.le_refl
end
section
open Go.ChangeShapes Go.WideShapes Go.ChangeAt Go.RowKit
def More(W W':World):Prop:=W'.os=W.os∧W'.output=W.output∧W.heap.size≤W'.heap.size∧∀b,b<W.heap.size→W'.heap[b]? =W.heap[b]?
theorem More.kept{W W':World}(h:More W W')(may:MemPlace→Prop):W.keptBut W' may:=by
 refine⟨h.1,h.2.1,fun i hi=>?_⟩
 rw[h.2.2.2 i hi]
 cases W.heap[i]? with
 |none=>rfl
 |some o=>cases o<;>simp
theorem ACall.law{P:Program} {f:FuncId} {args:List AV} {vs:Array Value}(h:ACall P f args [] 0 (.val (.bool true)) [])(w:World)(hs:vs.size=args.length)
 (hr:∀j (h:j<args.length),Rep w (fun b=>b<w.heap.size) (fun _=>none) (vs.getD j undef) args[j]) (hl:Laid (fun b=>b<w.heap.size) w):
 Calls P f vs w fun e w'=>e= .returned (.bool true)∧More w w':=by
 have:=h w (fun b=>b<w.heap.size) (fun _=>False) (fun _=>none) vs hs hr (fun b hb=>⟨hb,id⟩) (fun b hb=>hb.elim) (fun j h=>by simp at h) (fun j p h=>by cases h) (fun i j b s s' h=>by cases h) (Hid.none (fun _ _ _=>by simp)) hl
 refine this.mono fun e w'=>?_
 rintro⟨v,ρ',J',rfl,hv,_,hk,_⟩
 refine⟨?_,hk.os,hk.output,hk.size,fun b hb=>hk.block b hb id⟩
 cases hv;rfl
theorem Nc{H:Type} {enc:TypeId×Value→H} {P:Program} {f:Func} {s:ChangeSpec} {apart fresh handsOn:Bool} {W W':World} {args:Array Value} {v:Value} {ds gs:List (DataW H)} {before pa pv:List MemPlace}
 (hW:DataW.Whole enc P f.params.toList s.vars apart W args.toList ds gs before)
 (hres:∀(b:Nat) (sp:Nat→Bool) (hd:Bool),DataW.TrodAll enc P W' b sp hd f.resultTypes.toList (v.resultList f.resultTypes.size) (s.fn H (ds++gs)).results [])
 (hargs:∀sp:Nat→Bool,(∀p∈before,sp p.block=true)→DataW.TrodAll enc P W' 0 sp true f.params.toList args.toList (s.fn H (ds++gs)).args pa)
 (hvars:∀sp:Nat→Bool,(∀p∈before,sp p.block=true)→DataW.TrodVars enc P W' sp s.vars (s.fn H (ds++gs)).vars pv)
 (hm:More W W'):s.post enc P f apart fresh handsOn false W args v W':=by
 have hold:∀p∈before,(fun b=>decide (b<W.heap.size)) p.block=true:=fun p hp=>by simpa using hW.lt p hp
 exact⟨ds,gs,before,[],pa,pv,hW,hres _ _ _,hargs _ hold,hvars _ hold,hm.kept _,fun h=>by cases h⟩
end
section
open Go.ChangeShapes Go.WideShapes Go.ChangeAt Go.RowKit
def tZ(P:Program):Nat→TypeId→Bool
 |0,_=>false
 |n+1,t=>match P.underlying t with
  |some .bool=>true
  |some (.int _)=>true
  |some .string=>true
  |some (.slice e)=>tZ P n e
  |some (.struct fs)=>fs.toList.all fun f=>tZ P n f.type
  |_=>false
def gB(P:Program):Nat→TypeId→List AV→Prop
 |0,_,_=>False
 |n+1,t,as=>match P.underlying t with
  |some .bool=>∃b,as=[.val (.bool b)]
  |some (.int k)=>∃m,as=[.val (.int k m)]∧(Lit.int k m).wf=true
  |some .string=>∃s:ByteArray,as=[.val (.string s)]∧s.size≤reachBytes
  |some (.slice e)=>as=[.isl true [] 0]∨∃xs:List (List AV),as=[.isl false xs.flatten xs.length]∧(∀x∈xs,x.length=P.cellsOf e∧gB P n e x)∧xs.length*P.bytesOf e≤reachBytes
  |some (.struct fs)=>∃xs:List (List AV),as=xs.flatten∧xs.length=fs.size∧∀(i:Nat) (f:Field) (x:List AV),fs[i]? =some f→xs[i]? =some x→gB P n f.type x
  |_=>False
def mo(w:World)(cs:List Value)(as:List AV):Prop:=as.length=cs.length∧∀(j:Nat) (x:AV),as[j]? =some x→(cs.getD j undef).oneCell'=true∧Rep w (fun b=>b<w.heap.size) (fun _=>none) (cs.getD j undef) x
theorem mo.one{w:World} {v:Value} {x:AV}(h1:v.oneCell'=true)(h2:Rep w (fun b=>b<w.heap.size) (fun _=>none) v x):mo w [v] [x]:=by
 refine⟨rfl,fun j y hj=>?_⟩
 cases j with
 |zero=>simp at hj;subst hj;exact⟨h1,h2⟩
 |succ j=>simp at hj
theorem mo.nil{w:World}:mo w [] []:=⟨rfl,fun j x h=>by simp at h⟩
theorem mo.append{w:World} {cs ds:List Value} {as bs:List AV}(h:mo w cs as)(k:mo w ds bs):mo w (cs++ds) (as++bs):=by
 refine⟨by rw[List.length_append,List.length_append,h.1,k.1],fun j x hx=>?_⟩
 by_cases hj:j<as.length
 ·rw[List.getElem?_append_left hj] at hx
  have:=h.2 j x hx
  rw[List.getD_eq_getElem?_getD,List.getElem?_append_left (by rw[←h.1];exact hj),←List.getD_eq_getElem?_getD]
  exact this
 ·rw[List.getElem?_append_right (by omega)] at hx
  have:=k.2 _ x hx
  rw[List.getD_eq_getElem?_getD,List.getElem?_append_right (by rw[←h.1];omega),←List.getD_eq_getElem?_getD,←h.1]
  exact this
theorem Nf{α:Type} {ce:Nat} {xs:List (List α)}(h:∀x∈xs,x.length=ce):xs.flatten.length=xs.length*ce:=by
 induction xs with
 |nil=>simp
 |cons x xs ih=>rw[List.flatten_cons,List.length_append,ih (fun y hy=>h y (List.mem_cons_of_mem _ hy)),h x (List.mem_cons_self ..),List.length_cons,Nat.add_mul];omega
theorem Ng{α:Type} {ce:Nat} {xs:List (List α)}(h:∀x∈xs,x.length=ce){i r:Nat} {x:List α}(hi:xs[i]? =some x)(hr:r<ce):xs.flatten[i*ce+r]? =x[r]? :=by
 induction xs generalizing i with
 |nil=>simp at hi
 |cons y xs ih=>
  have hy:=h y (List.mem_cons_self ..)
  cases i with
  |zero=>simp at hi;subst hi;rw[List.flatten_cons,List.getElem?_append_left (by omega)];simp
  |succ i=>
   rw[List.flatten_cons,List.getElem?_append_right (by rw[hy,Nat.add_mul];omega),hy,show(i+1)*ce+r-ce=i*ce+r by rw[Nat.add_mul];omega]
   exact ih (fun z hz=>h z (List.mem_cons_of_mem _ hz)) (by simpa using hi)
theorem nP{α β:Type} {R:α→β→Prop}:∀(l:List α),(∀(i:Nat) (x:α),l[i]? =some x→∃y,R x y)→∃ys:List β,ys.length=l.length∧∀(i:Nat) (x:α) (y:β),l[i]? =some x→ys[i]? =some y→R x y
 |[],_=>⟨[],rfl,fun i x y h=>by simp at h⟩
 |a::l,h=>by
  obtain⟨ys,h1,h2⟩:=nP l (fun i x hx=>h (i+1) x (by simpa using hx))
  obtain⟨y,hy⟩:=h 0 a rfl
  refine⟨y::ys,by simp[h1],fun i x z hx hz=>?_⟩
  cases i with
  |zero=>simp at hx hz;subst hx;subst hz;exact hy
  |succ i=>exact h2 i x z (by simpa using hx) (by simpa using hz)
theorem nQ{H:Type} {P:Program} {e:TypeId} {d:DataW H} {k:Nat}:∀{l:List (DataW H)},d∈l→k∈d.weights P e→k∈DataW.weightsAll P e l
 |x::l,hd,hk=>by
  rw[DataW.weightsAll]
  rcases List.mem_cons.1 hd with rfl|hd
  ·exact List.mem_append_left _ hk
  ·exact List.mem_append_right _ (nQ hd hk)
theorem jS{H:Type} {P:Program} {k:Nat}:∀{ts:List TypeId} {l:List (DataW H)} {i:Nat} {t:TypeId} {d:DataW H},ts[i]? =some t→l[i]? =some d→k∈d.weights P t→k∈DataW.weightsEach P ts l
 |t::ts,d::l,0,t',d',ht,hd,hk=>by simp at ht hd;subst ht;subst hd;rw[DataW.weightsEach];exact List.mem_append_left _ hk
 |t::ts,d::l,i+1,t',d',ht,hd,hk=>by rw[DataW.weightsEach];exact List.mem_append_right _ (jS (by simpa using ht) (by simpa using hd) hk)
 |[],_,_,_,_,ht,_,_=>by simp at ht
 |_::_,[],_,_,_,_,hd,_=>by simp at hd
section
variable {H:Type} {enc:TypeId×Value→H} {P:Program} {W:World} {held:Bool}
theorem uQ(g:Nat→Nat):∀(fs:List Field) (k0:Nat) (cs:List Value) (R:Field→List AV→Prop),
 (∀(i:Nat) f,fs[i]? =some f→f.offset=k0+((fs.take i).map fun f=>P.cellsOf f.type).sum)→
 (∀(i:Nat) f,fs[i]? =some f→∃as,R f as∧mo W ((cs.drop f.offset).take (P.cellsOf f.type)) as)→
 ∃xs:List (List AV),xs.length=fs.length∧(∀(i:Nat) f x,fs[i]? =some f→xs[i]? =some x→R f x)∧mo W ((cs.drop k0).take ((fs.map fun f=>P.cellsOf f.type).sum)) xs.flatten
 |[],k0,cs,R,_,_=>⟨[],rfl,fun i f x h=>by simp at h,by simpa using mo.nil⟩
 |f::fs,k0,cs,R,h1,h2=>by
  obtain⟨as,hR,hG⟩:=h2 0 f rfl
  have e0:=h1 0 f rfl
  simp at e0
  obtain⟨xs,k1,k2,k3⟩:=uQ g fs (k0+P.cellsOf f.type) cs R (fun i f' hf=>by
   have:=h1 (i+1) f' (by simpa using hf)
   rw[List.take_succ_cons,List.map_cons,List.sum_cons] at this;omega) (fun i f' hf=>h2 (i+1) f' (by simpa using hf))
  refine⟨as::xs,by simp[k1],fun i f' x hf hx=>?_,?_⟩
  ·cases i with
   |zero=>simp at hf hx;subst hf;subst hx;exact hR
   |succ i=>exact k2 i f' x (by simpa using hf) (by simpa using hx)
  ·rw[e0] at hG
   have:=hG.append k3
   rw[List.flatten_cons,List.map_cons,List.sum_cons,List.take_add,List.drop_drop]
   exact this
theorem Kk(K:Kids P (· <P.types.size))(hz:∀t e,t<P.types.size→P.underlying t=some (.slice e)→0<P.cellsOf e):∀(m:Nat) (t:TypeId) (cs:List Value) (x:DataW H×List MemPlace) (fuel:Nat),t<P.types.size→tZ P m t=true→
 DataW.trod enc P W 0 (fun _=>true) held fuel t cs=some x→(∀k∈x.1.weights P t,k≤reachBytes)→∃as,gB P m t as∧mo W cs as:=by
 intro m
 induction m with
 |zero=>intro t cs x fuel _ h;simp[tZ] at h
 |succ m ih=>
  intro t cs x fuel ht hp h hw
  unfold tZ at hp
  split at hp
  ·rename_i hu
   obtain⟨b,rfl,_⟩:=DataW.trod_bool hu h
   exact⟨[.val (.bool b)],by unfold gB;rw[hu];exact⟨b,rfl⟩,mo.one rfl (.val _)⟩
  ·rename_i k hu
   obtain⟨n,rfl,_,hwf⟩:=DataW.trod_int hu h
   exact⟨[.val (.int k n)],by unfold gB;rw[hu];exact⟨n,rfl,hwf⟩,mo.one rfl (.val _)⟩
  ·rename_i hu
   obtain⟨s,rfl,rfl,_⟩:=DataW.trod_string hu h
   have:=hw s.data.toList.length (by rw[DataW.weights];exact List.mem_singleton.2 rfl)
   refine⟨[.val (.string s)],?_,mo.one rfl (.val _)⟩
   unfold gB;rw[hu];exact⟨s,rfl,by rw[Array.length_toList] at this;exact this⟩
  ·rename_i e hu
   rcases DataW.trod_slice hu h with⟨rfl,rfl⟩|⟨a,len,cap,elems,rest,n,rfl,rfl,rfl,_,hl,hc,hlen,hel,_,_⟩
   ·exact⟨[.isl true [] 0],by unfold gB;rw[hu];exact .inl rfl,mo.one rfl .inil⟩
   ·have he:=K.slice ht hu
    have hpos:=hz t e ht hu
    have hwe:∀y∈elems,∀k∈y.1.weights P e,k≤reachBytes:=fun y hy k hk=>hw k (by
     simp only[DataW.weights,hu]
     exact List.mem_cons_of_mem _ (List.mem_append_left _ (nQ (List.mem_map.2 ⟨y,hy,rfl⟩) hk)))
    have hwl:(elems.length+rest.length)*P.bytesOf e≤reachBytes:=hw _ (by simp only[DataW.weights,hu,List.length_map];exact List.mem_cons_self ..)
    have each:∀(i:Nat) (y:Nat),(List.range len)[i]? =some y→∃z:List Value×List AV,W.cells? 0 (a.add (y*P.cellsOf e)) (P.cellsOf e)=some z.1∧gB P m e z.2∧mo W z.1 z.2:=by
     intro i y hy
     have hi:y<len:=by have:=List.mem_of_getElem? hy;simpa using this
     have h1:=hel y hi
     obtain⟨q,hq⟩:∃q,elems[y]? =some q:=⟨_,List.getElem?_eq_getElem (by omega)⟩
     rw[hq,Option.bind_eq_some_iff] at h1
     obtain⟨cs',hcs,htr⟩:=h1
     obtain⟨as,h2,h3⟩:=ih e cs' q n he hp htr (hwe q (List.mem_of_getElem? hq))
     exact⟨⟨cs',as⟩,hcs,h2,h3⟩
    obtain⟨zs,hz1,hz2⟩:=nP _ each
    rw[List.length_range] at hz1
    have hzi:∀(i:Nat) (z:List Value×List AV),zs[i]? =some z→W.cells? 0 (a.add (i*P.cellsOf e)) (P.cellsOf e)=some z.1∧gB P m e z.2∧mo W z.1 z.2:=fun i z hi=>by
     have hil:i<len:=by have:=(List.getElem?_eq_some_iff.1 hi).1;omega
     exact hz2 i i z (by simp[hil]) hi
    have hxl:∀x∈zs.map (·.2),x.length=P.cellsOf e:=by
     intro x hx
     obtain⟨z,hz',rfl⟩:=List.mem_map.1 hx
     obtain⟨i,hi⟩:=List.mem_iff_getElem?.1 hz'
     obtain⟨h1,_,h3⟩:=hzi i z hi
     rw[h3.1,(World.cells?_some h1).2.1]
    refine⟨[.isl false (zs.map (·.2)).flatten (zs.map (·.2)).length],?_,mo.one rfl ?_⟩
    ·unfold gB;rw[hu]
     refine .inr ⟨zs.map (·.2),rfl,fun x hx=>⟨hxl x hx,?_⟩,?_⟩
     ·obtain⟨z,hz',rfl⟩:=List.mem_map.1 hx
      obtain⟨i,hi⟩:=List.mem_iff_getElem?.1 hz'
      exact(hzi i z hi).2.1
     ·refine Nat.le_trans (Nat.mul_le_mul_right _ ?_) hwl
      rw[List.length_map];omega
    ·have hln:(zs.map (·.2)).length=len:=by simp[hz1]
     rw[hln]
     by_cases h0:len=0
     ·have:zs=[]:=List.length_eq_zero_iff.1 (by omega)
      subst this;subst h0;exact .iemp a cap
     ·have hcell:∀(i r:Nat),i<len→r<P.cellsOf e→∃z v x,zs[i]? =some z∧z.1[r]? =some v∧z.2[r]? =some x∧W.cell? ((a.add (i*P.cellsOf e)).add r)=some v∧v.oneCell'=true∧Rep W (fun b=>b<W.heap.size) (fun _=>none) v x:=by
       intro i r hi hr
       obtain⟨z,hz'⟩:∃z,zs[i]? =some z:=⟨_,List.getElem?_eq_getElem (by omega)⟩
       obtain⟨h1,_,h3⟩:=hzi i z hz'
       obtain⟨_,h4,h5⟩:=World.cells?_some h1
       obtain⟨v,hv⟩:∃v,z.1[r]? =some v:=⟨_,List.getElem?_eq_getElem (by omega)⟩
       obtain⟨x,hx⟩:∃x,z.2[r]? =some x:=⟨_,List.getElem?_eq_getElem (by rw[h3.1];omega)⟩
       obtain⟨g1,g2⟩:=h3.2 r x hx
       have e1:z.1.getD r undef=v:=by rw[List.getD_eq_getElem?_getD,hv];rfl
       rw[e1] at g1 g2
       exact⟨z,v,x,hz',hv,hx,by rw[h5 r hr,hv],g1,g2⟩
      obtain⟨b,off,sp⟩:=a
      obtain⟨z0,v0,x0,_,_,_,hc0,_⟩:=hcell 0 0 (by omega) hpos
      have hsp:sp=none:=by
       cases sp with
       |none=>rfl
       |some k=>
        have e0:((⟨b,off,some k⟩:Addr).add (0*P.cellsOf e)).add 0=⟨b,off,some k⟩:=by simp[Addr.add]
        rw[e0] at hc0
        unfold World.cell? at hc0
        simp only[Option.isSome_some,if_true] at hc0
        split at hc0<;>simp at hc0
      subst hsp
      have hbl:b<W.heap.size:=by
       rw[Addr.add_lit,Addr.add_lit] at hc0
       exact World.block_lt_of_cell? W _ hc0
      have hflen:=Nf hxl
      rw[hln] at hflen
      have hdm:∀j,j<(zs.map (·.2)).flatten.length→∃z v x,zs[j/P.cellsOf e]? =some z∧z.1[j%P.cellsOf e]? =some v∧(zs.map (·.2)).flatten[j]? =some x∧W.cell? ⟨b,off+j,none⟩=some v∧v.oneCell'=true∧Rep W (fun b=>b<W.heap.size) (fun _=>none) v x:=by
       intro j hj
       have hi:j/P.cellsOf e<len:=(Nat.div_lt_iff_lt_mul hpos).2 (by rw[←hflen];exact hj)
       have hr:j%P.cellsOf e<P.cellsOf e:=Nat.mod_lt _ hpos
       obtain⟨z,v,x,g1,g2,g3,g4,g5,g6⟩:=hcell _ _ hi hr
       have hj':j/P.cellsOf e*P.cellsOf e+j%P.cellsOf e=j:=by rw[Nat.mul_comm];exact Nat.div_add_mod _ _
       refine⟨z,v,x,g1,g2,?_,?_,g5,g6⟩
       ·rw[←g3,←Ng hxl (i:=j/P.cellsOf e) (by simp[g1]) hr,hj']
       ·rw[←g4,Addr.add_lit,Addr.add_lit];rw[show off+j/P.cellsOf e*P.cellsOf e+j%P.cellsOf e=off+j by omega]
      have hu':∀j,j<(zs.map (·.2)).flatten.length→((W.cell? ⟨b,off+j,none⟩).getD undef).oneCell'=true∧W.cell? ⟨b,off+j,none⟩=some ((W.cell? ⟨b,off+j,none⟩).getD undef)∧
       ∀h:j<(zs.map (·.2)).flatten.length,Rep W (fun b=>b<W.heap.size) (fun _=>none) ((W.cell? ⟨b,off+j,none⟩).getD undef) (zs.map (·.2)).flatten[j]:=by
       intro j hj
       obtain⟨z,v,x,_,_,g3,g4,g5,g6⟩:=hdm j hj
       rw[g4]
       refine⟨g5,rfl,fun h=>?_⟩
       rw[List.getElem?_eq_getElem h] at g3
       rw[Option.some.inj g3];exact g6
      exact .isl b off len cap _ (fun j=>(W.cell? ⟨b,off+j,none⟩).getD undef) (fun _=>⟨hbl,hbl⟩) hl (fun j hj=>(hu' j hj).1) (fun j hj=>(hu' j hj).2.1) (fun j hj=>(hu' j hj).2.2 hj)
  ·rename_i fs hu
   obtain⟨xs,n,rfl,rfl,hcl,hxl,hf⟩:=DataW.trod_struct hu h
   obtain⟨k1,k2,k3⟩:=K.struct ht hu
   have hone:∀(i:Nat) f,fs.toList[i]? =some f→∃as,gB P m f.type as∧mo W ((cs.drop f.offset).take (P.cellsOf f.type)) as:=by
    intro i f hfi
    have hfa:fs[i]? =some f:=by simpa using hfi
    have h1:=hf i f hfa
    obtain⟨q,hq⟩:∃q,xs[i]? =some q:=⟨_,List.getElem?_eq_getElem (by rw[hxl];exact(Array.getElem?_eq_some_iff.1 hfa).1)⟩
    rw[hq] at h1
    refine ih f.type _ q n (k1 f (List.mem_of_getElem? hfi)) (List.all_eq_true.1 hp f (List.mem_of_getElem? hfi)) h1 (fun k hk=>hw k ?_)
    simp only[DataW.weights,hu]
    exact jS (i:=i) (by rw[List.getElem?_map,hfi];rfl) (by rw[List.getElem?_map,hq];rfl) hk
   obtain⟨ys,g1,g2,g3⟩:=uQ (W:=W) (P:=P) id fs.toList 0 cs (fun f as=>gB P m f.type as) (fun i f hfi=>by rw[k3 i f hfi];simp) hone
   refine⟨ys.flatten,?_,?_⟩
   ·unfold gB;rw[hu]
    exact⟨ys,rfl,by simpa using g1,fun i f x hfi hx=>g2 i f x (by simpa using hfi) hx⟩
   ·rw[←k2,List.drop_zero,←hcl,List.take_length] at g3
    exact g3
  ·cases hp
end
end
section
open Go.ChangeShapes Go.WideShapes Go.ChangeAt Go.RowKit
section
variable {H:Type} {enc:TypeId×Value→H} {P:Program} {W W':World}
theorem TrodAll.carry(hm:More W W'):∀{ts:List TypeId} {vs:List Value} {ds:List (DataW H)} {ps:List MemPlace},(∀p∈ps,p.block<W.heap.size)→DataW.TrodAll enc P W 0 (fun _=>true) true ts vs ds ps→DataW.TrodAll enc P W' 0 (fun _=>true) true ts vs ds ps
 |[],[],[],_,_,h=>h
 |t::ts,v::vs,d::ds,ps,hlt,⟨p,q,⟨n,h1⟩,h2,e⟩=>by
  refine⟨p,q,⟨n,DataW.trod_carry n t _ (d,p) h1 (fun x hx=>?_)⟩,TrodAll.carry hm (fun x hx=>hlt x (by rw[e];exact List.mem_append_right _ hx)) h2,e⟩
  have hb:=hm.2.2.2 x.block (hlt x (by rw[e];exact List.mem_append_left _ hx))
  cases x with
  |cell b off=>exact World.cell?_of_block (w:=W) (a:=⟨b,off,none⟩) hb
  |map b=>exact hb
end
end
section
section
variable {P:Program} {st:St} {nid:Nat} {dst:Option Nat} {ty:TypeId} {pos:String} {af:Array Edge} {g:Option (Nat×Bool)}
theorem yN(t:TypeId)(x y:Operand)(e:TypeId)(id off n es m:Nat)(cs cells:List AV)(he:iL P t=some e)(hs:siz P e=some es)(hp:0<es)
 (hx:st.op x= .sl id off n es) (ho:st.ob id=some (.cells cs e)) (hy:gy st (st.op y)=some (cells,m)) (hl:cells.length=m*es) (hfit:off+(n+m)*es≤cs.length):
 OpT P ⟨dst,.call ⟨.builtin .append,#[x,y],#[t,t]⟩,ty,pos,af,g⟩ nid 0 st ⟨.sl id off (n+m) es,[(id,some (.cells (spl cs (off+n*es) cells) e))]⟩:=OpT.modify ho fun c ρ D J a w b s h hρ hob hJ=>by
 have e1:=h.op x;rw[hx] at e1
 obtain⟨i,hi,his⟩:∃i,P.info? e=some i∧i.size=es:=by
  unfold siz at hs
  cases hi:P.info? e with
  |none=>simp[hi] at hs
  |some i=>exact⟨i,rfl,by simpa[hi] using hs⟩
 generalize hv:a.eval x=v at e1
 cases e1 with
 |sl b' s' _ _ _ _ cap hρ' hc hsz=>
  rw[hρ] at hρ';cases hρ'
  have hcs:cs.length≤s:=by obtain⟨arr,_,has,hcr⟩:=hob;have:=hcr.1;omega
  have hroom:n+m≤cap:=by
   have h1:(n+m)*es≤cap*es:=by omega
   exact Nat.le_of_mul_le_mul_right h1 hp
  have hpos:off+n*es+cells.length≤cs.length:=by rw[hl];rw[Nat.add_mul] at hfit;omega
  rcases qU h (h.op y) hy hl with⟨hy0,h0,hc0⟩|⟨ad,cp,news,hyv,hmc,hnl,hnews,hone,hrep⟩
  ·subst h0;subst hc0
   refine⟨.value (.slice (some ⟨b,off,none⟩) (n+0) cap),w,_,?_,.inl rfl,rfl,rfl,rfl,rfl,fun _ _=>rfl,fun hi'=>⟨.sl b s id off _ es cap hρ (by omega) hsz,?_⟩⟩
   ·simp[execOp,resolve,invoke,builtin,hv,hy0,Builtin.append_,run_underlying (aV he),sizeOf,typeInfo,hi,Builtin.lenOf,hc,Builtin.firstCells,storeCells]
   ·have:spl cs (off+n*es) []=cs:=by unfold spl;simp
    rw[this];exact hob
  ·obtain⟨w',hst,k1,k2,k3,k4,k5,k6⟩:=JG (P:=P) (off:=off+n*es) (avs:=cells) hob (by rw[hnl,hl]) hone hrep hpos
   have hfc:=run_firstCells_some (P:=P) w i.size m ad m cp news (by rw[his];exact hnl) hnews
   refine⟨.value (.slice (some ⟨b,off,none⟩) (n+m) cap),w',_,?_,.inl rfl,k1,k2,k3,k4,k5,fun hi'=>⟨.sl b s id off _ es cap hρ hroom hsz,k6 hi'⟩⟩
   subst his
   simp[execOp,resolve,invoke,builtin,hv,hyv,Builtin.append_,run_underlying (aV he),sizeOf,typeInfo,hi,Builtin.lenOf,hroom,hfc,Addr.add_lit,hst]
theorem Ah(f:FuncId)(caps:Array Operand):OpT P ⟨dst,.makeFunc (.func f) #[] caps,ty,pos,af,g⟩ nid 0 st ⟨.fn f (caps.toList.map fun x=>st.op x),[]⟩:= .pure fun c ρ D J a w h=>by
 refine⟨.func (.func f) #[] (caps.map a.eval),by simp[execOp,Instr.makeFunc],.fn f _ _ (by simp) (fun j hj=>?_)⟩
 have hj':j<caps.size:=by simpa using hj
 have:=h.op caps[j]
 simpa[Array.getD,hj'] using this
theorem Fa{f:FuncId} {x0:Operand} {caps:List AV} {xs:Array Operand} {tys:Array TypeId}
 {cargs:List AV} {cobjs:List aC} {m:Nat} {r:AV} {cobjs':List aC} (hx0:st.op x0= .fn f caps) (hc:ACall P f cargs cobjs m r cobjs') (σ:List Nat) (fz:Bool) (hp:mD P f=true) (hm:m≤cobjs.length) (hm':m≤cobjs'.length)
 (hσ:σ.length=cobjs.length) (hnd:σ.Nodup) (hlt:∀i∈σ,i<nid)
 (hob:∀j (h:j<cobjs.length),∃o,st.ob (σ.getD j 0)=some o∧cobjs[j]=toO st σ fz o)
 (hargs:cargs=((xs.toList.map fun x=>st.op x)++caps).map (toA st σ fz 8))
 (hfz:fz=true→noImm r∧∀j (h:j<cobjs'.length),kH cobjs'[j]) (htr:trs cobjs'=trs cobjs):
 OpT P ⟨dst,.call ⟨.value x0,xs,tys⟩,ty,pos,af,g⟩ nid (cobjs'.length-m) st ⟨ren (dZ σ m nid) r,dN σ m nid cobjs'⟩:=by
 refine y7 (xvs:=(xs.toList.map fun x=>st.op x)++caps) hc σ fz hm hm' (fun c ρ D J a w hs=>?_) hσ hnd hlt hob hargs hfz htr
 have h0:=hs.op x0;rw[hx0] at h0
 generalize hv:a.eval x0=v at h0
 cases h0 with
 |fn _ ws _ hsz hcap=>
  refine⟨xs.map a.eval++ws,?_,by simp[hsz],fun j hj=>?_⟩
  ·simp[execOp,resolve,hv,Deferred.ofValue,invoke,xh hp]
  ·by_cases hj1:j<xs.size
   ·have:=hs.op xs[j]
    have e1:(xs.map a.eval++ws).getD j undef=a.eval xs[j]:=by simp[Array.getD,Array.getElem_append,hj1];intro h;omega
    rw[e1,List.getElem_append_left (by simpa using hj1)]
    simpa using this
   ·have hj2:j-xs.size<caps.length:=by simp at hj;omega
    have:=hcap (j-xs.size) hj2
    have e1:(xs.map a.eval++ws).getD j undef=ws.getD (j-xs.size) undef:=by
     have h3:j<xs.size+ws.size:=by omega
     have h4:j-xs.size<ws.size:=by omega
     simp[Array.getD,Array.getElem_append,hj1,h3,h4]
    rw[e1,List.getElem_append_right (by simpa using Nat.le_of_not_lt hj1)]
    simpa using this
variable {K:Nat→Eff→Prop}
def TE:AV→Option (FuncId×List AV)
 | .fn f cs=>some (f,cs)
 |_=>none
theorem TF{x:AV} {p:FuncId×List AV}(h:TE x=some p):x= .fn p.1 p.2:=by
 cases x<;>simp[TE] at h
 subst h;rfl
theorem e_fn{f:FuncId} {cs:List AV}:TE (.fn f cs)=some (f,cs):=rfl
theorem iY(f:FuncId)(caps:Array Operand)(h:K 0 ⟨.fn f (caps.toList.map fun x=>st.op x),[]⟩):AO P ⟨dst,.makeFunc (.func f) #[] caps,ty,pos,af,g⟩ nid st K:=⟨_,_,Ah f caps,h⟩
theorem cZ{e:TypeId} {es:Nat}(t:TypeId)(x y:Operand) [he:dK P t e] [hs:fF P e es]
 (h:aH (yM (st.op x)) fun p=>aH (xB (st.ob p.1)) fun o=>aH (gy st (st.op y)) fun q=>p.2.2.2=es∧o.2=e∧0<es∧q.1.length=q.2*es∧p.2.1+(p.2.2.1+q.2)*es≤o.1.length∧
   K 0 ⟨.sl p.1 p.2.1 (p.2.2.1+q.2) es,[(p.1,some (.cells (spl o.1 (p.2.1+p.2.2.1*es) q.1) e))]⟩):
 AO P ⟨dst,.call ⟨.builtin .append,#[x,y],#[t,t]⟩,ty,pos,af,g⟩ nid st K:=by
 obtain⟨⟨id,off,n,es'⟩,h1,⟨cs,e'⟩,h2,⟨cells,m⟩,h3,h4,h5,h6,h7,h8,h9⟩:=h
 dsimp only at h4 h5 h6 h7 h8 h9
 subst h4;subst h5
 exact⟨_,_,yN t x y _ id off n _ m cs cells he.out hs.out h6 (mH h1) (lu h2) h3 h7 h8,h9⟩
theorem jG(f:FuncId){x0:Operand} {xs:Array Operand} {tys:Array TypeId} [hp:gV P f](σ:List Nat)(m:Nat)(fz:Bool)
 (h:aH (TE (st.op x0)) fun q=>q.1=f∧Cy st σ∧m≤σ.length∧σ.Nodup∧(∀i∈σ,i<nid)∧
   ∀G:List AV→List aC→Prop,(∀as' os,MC P f σ m fz nid K as' os→G as' os)→G (((xs.toList.map fun x=>st.op x)++q.2).map (toA st σ fz 8)) (σ.map (aeW st σ fz))):
 AO P ⟨dst,.call ⟨.value x0,xs,tys⟩,ty,pos,af,g⟩ nid st K:=by
 obtain⟨⟨f',caps⟩,h0,rfl,h2,h3,h4,h5,h6⟩:=h
 dsimp only at h0 h2 h3 h4 h5 h6
 obtain⟨r,cobjs',hc,hm,hfz,htr,hK⟩:=h6 _ (fun _ _ h=>h)
 exact⟨_,_,Fa (TF h0) hc σ fz hp.out (by simpa using h3) hm (by simp) h4 h5 (tY h2) rfl (fun hf=>⟨(hfz hf).1,fun j hj=>(hfz hf).2 _ (List.getElem_mem hj)⟩) htr,hK⟩
theorem Frz.cut{n m:Nat} {env:List (Nat×AV)} {objs:List (Nat×Option aC)}(id k:Nat){cs:List AV} {e:TypeId}(h1':(⟨n,m,env,objs⟩:St).ob id=some (.cells cs e)):Frz ⟨n,m,env,objs⟩ ⟨n,m,env,(id,some (.cells (cs.take k) e))::objs⟩:=fun c ρ D J a w hs=>by
 have hob:∀i o,(⟨n,m,env,(id,some (.cells (cs.take k) e))::objs⟩:St).ob i=some o→(i=id∧o= .cells (cs.take k) e)∨(⟨n,m,env,objs⟩:St).ob i=some o:=by
  intro i o hi
  simp only[St.ob,aS] at hi
  split at hi
  ·rename_i hid;simp at hi;exact .inl ⟨hid,hi.symm⟩
  ·exact .inr hi
 have hex:∀i o,(⟨n,m,env,(id,some (.cells (cs.take k) e))::objs⟩:St).ob i=some o→∃o',(⟨n,m,env,objs⟩:St).ob i=some o':=by
  intro i o hi
  rcases hob i o hi with⟨rfl,_⟩|hi
  ·exact⟨_,h1'⟩
  ·exact⟨_,hi⟩
 refine⟨J,hs.defers,hs.tmps,hs.env,fun i o ho=>?_,fun i i' o o' b s s' g1 g2=>?_,hs.dom,hs.jok,hs.jlt,hs.ilt,hs.pin,hs.kept,hs.hid_of (fun i=>i) (fun i o ho=>?_) (fun _ _ _ _ _ _ _ _ e=>e) (fun _ h=> .inl h),hs.laid⟩
 ·rcases hob i o ho with⟨rfl,rfl⟩|ho
  ·obtain⟨b,s,k1,⟨arr,k2,k3,k4⟩,k5⟩:=hs.obj _ _ h1'
   refine⟨b,s,k1,⟨arr,k2,k3,?_,fun j hj=>?_,k4.2.2⟩,k5⟩
   ·have:=k4.1;simp;omega
   ·have hj':j<cs.length:=by simp at hj;omega
    have:=k4.2.1 j hj'
    simpa using this
  ·exact hs.obj i o ho
 ·obtain⟨o1,q1⟩:=hex i o g1
  obtain⟨o2,q2⟩:=hex i' o' g2
  exact hs.inj i i' o1 o2 b s s' q1 q2
 ·rcases hob i o ho with⟨rfl,rfl⟩|ho
  ·exact⟨_,h1',fun _ _ e=>(by cases e),rfl⟩
  ·exact⟨o,ho,fun _ _ e=>e,rfl⟩
theorem Ends.cut{fn:Func} {objs0:List aC} {m0:Nat} {r:AV} {objs':List aC} {e:Exit} {n m:Nat} {env:List (Nat×AV)} {objs:List (Nat×Option aC)}(id k:Nat)
 (h:aH (xB (aS objs id).join) fun o=>∀K:List (Nat×Option aC)→Prop,(∀objs'',Ends P fn objs0 m0 r objs' e ⟨n,m,env,objs''⟩→K objs'')→K ((id,some (.cells (o.1.take k) o.2))::objs)):Ends P fn objs0 m0 r objs' e ⟨n,m,env,objs⟩:=by
 obtain⟨⟨cs,e'⟩,h1,h2⟩:=h
 obtain⟨he,st',σ,hf,h⟩:=h2 (fun objs''=>Ends P fn objs0 m0 r objs' e ⟨n,m,env,objs''⟩) (fun _ h=>h)
 exact⟨he,st',σ,(Frz.cut id k (n:=n) (m:=m) (env:=env) (lu h1)).trans hf,h⟩
end
end
section
def kK(P:Program):Nat→List Field→Option (List IntKind)
 |_,[]=>some []
 |i,f::fs=>match lT P f.type,kK P (i+1) fs with
  |some k,some ks=>if f.offset=i∧f.name≠ "_" then some (k::ks) else none
  |_,_=>none
def Fb(P:Program)(t:TypeId):Option (List IntKind):=match P.underlying t with
 |some (.struct fs)=>if P.stoodInHeld t then none else kK P 0 fs.toList
 |some (.array n e)=>match lT P e,siz P e with
  |some k,some 1=>some (List.replicate n k)
  |_,_=>none
 |_=>none
def nR(ks:List IntKind)(a:List Int):List Value:=List.zipWith (fun k n=> .int k n) ks a
theorem nS{P:Program} {w:World} {t:TypeId} {k:IntKind}(h:lT P t=some k){cs:Array Value} {i:Nat} {v:Value}(hv:cs[i]? =some v):(part t cs i).run P w= .ok v w:=by
 have ha:iX P t=some false:=by unfold iX;rw[fq h];rfl
 obtain⟨hlt,rfl⟩:=Array.getElem?_eq_some_iff.1 hv
 simp[part,d9 ha,hlt]
theorem yO{P:Program} {d:Nat} {xs ys:Array Value}:∀(fs:List Field) (i:Nat) (ks:List IntKind) (a b:List Int) (w:World),kK P i fs=some ks→a.length=ks.length→b.length=ks.length→
 (∀j k n,ks[j]? =some k→a[j]? =some n→xs[i+j]? =some (.int k n))→(∀j k n,ks[j]? =some k→b[j]? =some n→ys[i+j]? =some (.int k n))→
 (Op.eqFields (d+1) xs ys fs).run P w= .ok (decide (a=b)) w:=by
 intro fs
 induction fs with
 |nil=>
  intro i ks a b w h ha hb _ _
  simp[kK] at h;subst h
  have:a=[]:=List.length_eq_zero_iff.1 ha
  have:b=[]:=List.length_eq_zero_iff.1 hb
  subst a;subst b
  simp[Op.eqFields]
 |cons f fs ih=>
  intro i ks a b w h ha hb hx hy
  unfold kK at h
  split at h
  ·rename_i k ks' hk hks
   split at h
   ·rename_i hc
    cases h
    obtain⟨x,a,rfl⟩:∃x l,a=x::l:=by cases a with|nil=>simp at ha|cons x l=>exact⟨x,l,rfl⟩
    obtain⟨y,b,rfl⟩:∃x l,b=x::l:=by cases b with|nil=>simp at hb|cons x l=>exact⟨x,l,rfl⟩
    have e1:=nS (w:=w) hk (hx 0 k x rfl rfl)
    have e2:=nS (w:=w) hk (hy 0 k y rfl rfl)
    simp only[Nat.add_zero] at e1 e2
    have e3:=ih (i+1) ks' a b w hks (by simpa using ha) (by simpa using hb) (fun j k n h1 h2=>by have:=hx (j+1) k n (by simpa using h1) (by simpa using h2);rwa [show i+(j+1)=i+1+j by omega] at this)
     (fun j k n h1 h2=>by have:=hy (j+1) k n (by simpa using h1) (by simpa using h2);rwa [show i+(j+1)=i+1+j by omega] at this)
    have e4:(Op.equalIn (d+1) f.type (.int k x) (.int k y)).run P w= .ok (x==y) w:=run_equalIn_int w d f.type k k x y (fq hk)
    simp only[Op.eqFields,if_pos hc.2,Sem.run_bind,hc.1,e1,e2,Result.andThen_ok,e4]
    by_cases hxy:x=y
    ·subst hxy;simp[e3]
    ·simp[hxy]
   ·cases h
  ·cases h
theorem Kl{P:Program} {d:Nat} {e:TypeId} {k:IntKind}(hk:lT P e=some k){xs ys:Array Value}(w:World):∀(n i:Nat) (a b:List Int),a.length=n→b.length=n→
 (∀j n,a[j]? =some n→xs[i+j]? =some (.int k n))→(∀j n,b[j]? =some n→ys[i+j]? =some (.int k n))→
 (forIn (m:=Sem) (List.range' i n 1) ((none,()):Option Bool×Unit) (fun i _=>do
   let x←part e xs (i*1)
   let y←part e ys (i*1)
   let r←Op.equalIn (d+1) e x y
   if(!r)=true then pure (ForInStep.done (some false,())) else pure (ForInStep.yield (none,())))).run P w= .ok (if a=b then(none,()) else(some false,())) w:=by
 intro n
 induction n with
 |zero=>
  intro i a b ha hb _ _
  have:a=[]:=List.length_eq_zero_iff.1 ha
  have:b=[]:=List.length_eq_zero_iff.1 hb
  subst a;subst b
  simp[List.range']
 |succ n ih=>
  intro i a b ha hb hx hy
  obtain⟨x,a,rfl⟩:∃x l,a=x::l:=by cases a with|nil=>simp at ha|cons x l=>exact⟨x,l,rfl⟩
  obtain⟨y,b,rfl⟩:∃x l,b=x::l:=by cases b with|nil=>simp at hb|cons x l=>exact⟨x,l,rfl⟩
  have e1:=nS (w:=w) hk (hx 0 x rfl)
  have e2:=nS (w:=w) hk (hy 0 y rfl)
  simp only[Nat.add_zero] at e1 e2
  have e4:(Op.equalIn (d+1) e (.int k x) (.int k y)).run P w= .ok (x==y) w:=run_equalIn_int w d e k k x y (fq hk)
  have e3:=ih (i+1) a b (by simpa using ha) (by simpa using hb) (fun j n h2=>by have:=hx (j+1) n (by simpa using h2);rwa [show i+(j+1)=i+1+j by omega] at this)
        (fun j n h2=>by have:=hy (j+1) n (by simpa using h2);rwa [show i+(j+1)=i+1+j by omega] at this)
  rw[List.range',List.forIn_cons]
  simp only[Nat.mul_one] at e3⊢
  simp only[Sem.run_bind,e1,e2,Result.andThen_ok,e4]
  by_cases hxy:x=y
  ·subst hxy
   simp only[beq_self_eq_true,Bool.not_true,Bool.false_eq_true,if_false,Sem.run_pure,Result.andThen_ok,e3,List.cons.injEq,true_and]
  ·simp[hxy]
theorem xD{ks:List IntKind} {a:List Int}(hl:a.length=ks.length)(j:Nat)(k:IntKind)(n:Int)(h1:ks[j]? =some k)(h2:a[j]? =some n):(nR ks a).toArray[0+j]? =some (.int k n):=by
 simp[nR,List.getElem?_zipWith,h1,h2]
theorem xE{P:Program} {t:TypeId} {ks:List IntKind}(h:Fb P t=some ks){a b:List Int}(ha:a.length=ks.length)(hb:b.length=ks.length)(w:World):
 (Op.equal t (.agg (nR ks a).toArray) (.agg (nR ks b).toArray)).run P w= .ok (decide (a=b)) w:=by
 show(Op.equalIn (9998+1+1) t _ _).run P w=_
 unfold Fb at h
 split at h
 ·rename_i fs hu
  split at h
  ·cases h
  ·rename_i hst
   have hst':P.stoodInHeld t=false:=by simpa using hst
   have hf:P.fieldsOf t=fs:=by unfold Program.fieldsOf;rw[hu]
   rw[run_equalIn_struct w (9998+1) t _ _ (by rw[hf];exact hu) hst',hf]
   exact yO fs.toList 0 ks a b w h ha hb (xD ha) (xD hb)
 ·rename_i n e hu
  split at h
  ·rename_i k hk hz
   cases h
   simp only[List.length_replicate] at ha hb
   have hr:∀{a:List Int},a.length=n→∀j m,a[j]? =some m→(nR (List.replicate n k) a).toArray[0+j]? =some (.int k m):=fun{a} ha j m hm=>
    xD (ks:=List.replicate n k) (by simpa using ha) j k m (by have:=(List.getElem?_eq_some_iff.1 hm).1;rw[List.getElem?_replicate,if_pos (by omega)]) hm
   have:=Kl (d:=9998) hk w n 0 a b ha hb (hr ha) (hr hb)
   rw[Op.equalIn]
   simp only[Sem.run_bind,run_underlying hu,Result.andThen_ok,cK hz,Std.Legacy.Range.forIn_eq_forIn_range',Std.Legacy.Range.size,Nat.sub_zero,Nat.add_sub_cancel,Nat.div_one]
   rw[this]
   by_cases hab:a=b<;>simp[hab]
  ·cases h
 ·cases h
class Q7(P:Program)(t:TypeId)(ks:outParam (List IntKind)):Prop where
 out:Fb P t=some ks
 gd:P.eqGuardType P.depth t=false
def nT:List AV→Option (List (IntKind×Int))
 |[]=>some []
 |x::l=>match qz x,nT l with
  |some p,some ps=>some (p::ps)
  |_,_=>none
def qB:AV→Option (List (IntKind×Int))
 | .agg cs=>nT cs
 |_=>none
theorem Nh{cs:List AV}:qB (.agg cs)=nT cs:=rfl
theorem Ni:nT []=some []:=rfl
theorem Nj{k:IntKind} {n:Int} {l:List AV}:nT (.val (.int k n)::l)=(nT l).map (fun ps=>(k,n)::ps):=by
 show(match some (k,n),nT l with|some p,some ps=>some (p::ps)|_,_=>none)=_
 cases nT l<;>rfl
theorem CK:∀{cs:List AV} {ps:List (IntKind×Int)},nT cs=some ps→cs=ps.map (fun p=> .val (.int p.1 p.2))
 |[],ps,h=>by simp[nT] at h;subst h;rfl
 |x::l,ps,h=>by
  unfold nT at h
  split at h
  ·rename_i p qs h1 h2
   cases h
   rw[CK h2,oI h1];rfl
  ·cases h
theorem rz{w:World} {J:Nat→Prop} {ρ:Rho} {v:Value} {ps:List (IntKind×Int)} {ks:List IntKind}(h:Rep w J ρ v (.agg (ps.map fun p=> .val (.int p.1 p.2))))(hk:ps.map (·.1)=ks):v= .agg (nR ks (ps.map (·.2))).toArray:=by
 subst hk
 cases h with
 |agg vs _ hs h=>
  congr 1
  apply Array.ext_getElem?
  intro j
  by_cases hj:j<ps.length
  ·have:=h j (by simpa using hj)
   have e:=aG (by simpa using this)
   have hj':j<vs.size:=by rw[hs];simpa using hj
   have e2:vs[j]? =some (Value.int ps[j].1 ps[j].2):=by
    rw[Array.getElem?_eq_getElem hj']
    simpa[Array.getD,hj'] using e
   rw[e2]
   simp[nR,hj]
  ·rw[Array.getElem?_eq_none (by rw[hs];simpa using hj)]
   simp[nR,List.getElem?_zipWith,List.getElem?_eq_none (Nat.le_of_not_lt hj)]
theorem oK{x:AV} {ps:List (IntKind×Int)}(h:qB x=some ps):x= .agg (ps.map fun p=> .val (.int p.1 p.2)):=by
 unfold qB at h
 split at h
 ·rw[CK h]
 ·cases h
def eqI:List Int→List Int→Bool
 |[],[]=>true
 |a::l,b::m=>decide (a=b)&&eqI l m
 |_,_=>false
theorem Fe:∀(a b:List Int),eqI a b=decide (a=b)
 |[],[]=>by simp[eqI]
 |a::l,b::m=>by simp[eqI,Fe l m]
 |[],_::_=>by simp[eqI]
 |_::_,[]=>by simp[eqI]
theorem YN:eqI [] []=true:=rfl
theorem YO{a b:Int} {l m:List Int}:eqI (a::l) (b::m)=(decide (a=b)&&eqI l m):=rfl
section
variable {P:Program} {Q:Exit→Nat→St→Prop} {nid:Nat} {st:St} {dst:Option Nat} {ty:TypeId} {pos:String} {af:Array Edge} {g:Option (Nat×Bool)} {K:Nat→Eff→Prop}
theorem bR{ks:List IntKind}(t:TypeId)(x y:Operand)(t':TypeId) [ht:Q7 P t ks](h:aH (qB (st.op x)) fun xs=>aH (qB (st.op y)) fun ys=>xs.map (·.1)=ks∧ys.map (·.1)=ks∧K 0 ⟨.val (.bool (eqI (xs.map (·.2)) (ys.map (·.2)))),[]⟩):
 AO P ⟨dst,.binOp .eql t x y t',ty,pos,af,g⟩ nid st K:=by
 obtain⟨xs,h1,ys,h2,h3,h4,h5⟩:=h
 refine⟨0,_,.pure fun c ρ D J a w hs=>?_,h5⟩
 have e1:=hs.op x;have e2:=hs.op y
 have k1:=oK h1
 have k2:=oK h2
 rw[k1] at e1;rw[k2] at e2
 refine⟨_,?_,.val _⟩
 simp only[execOp,rz e1 h3,rz e2 h4,Sem.run_bind,run_eqGuard_agg w _ t x y _ _ ht.gd,Result.andThen_ok,binOp,Op.equal]
 have:=xE ht.out (a:=xs.map (·.2)) (b:=ys.map (·.2)) (by rw[←h3];simp) (by rw[←h4];simp) w
 unfold Op.equal at this
 simp[this,Fe]
theorem bu{ks:List IntKind}(t:TypeId)(x y:Operand)(t':TypeId) [ht:Q7 P t ks](h:aH (qB (st.op x)) fun xs=>aH (qB (st.op y)) fun ys=>xs.map (·.1)=ks∧ys.map (·.1)=ks∧K 0 ⟨.val (.bool !(eqI (xs.map (·.2)) (ys.map (·.2)))),[]⟩):
 AO P ⟨dst,.binOp .neq t x y t',ty,pos,af,g⟩ nid st K:=by
 obtain⟨xs,h1,ys,h2,h3,h4,h5⟩:=h
 refine⟨0,_,.pure fun c ρ D J a w hs=>?_,h5⟩
 have e1:=hs.op x;have e2:=hs.op y
 have k1:=oK h1
 have k2:=oK h2
 rw[k1] at e1;rw[k2] at e2
 refine⟨_,?_,.val _⟩
 simp only[execOp,rz e1 h3,rz e2 h4,Sem.run_bind,run_eqGuard_agg w _ t x y _ _ ht.gd,Result.andThen_ok,binOp,Op.equal]
 have:=xE ht.out (a:=xs.map (·.2)) (b:=ys.map (·.2)) (by rw[←h3];simp) (by rw[←h4];simp) w
 unfold Op.equal at this
 simp[this,Fe]
theorem jh{n:Nat} {e:TypeId}(t:TypeId)(x ix:Operand) [ht:yG P t n e] [ha:vY P e false] [hz:fF P e 1](h:aH (xA (st.op x)) fun cs=>aH (jg (st.op ix)) fun i=>(0≤i∧i<n)∧aH cs[i.toNat]? fun y=>K 0 ⟨y,[]⟩):
 AO P ⟨dst,.index t x ix,ty,pos,af,g⟩ nid st K:=by
 obtain⟨cs,h1,i,h2,h3,y,h4,h5⟩:=h
 refine⟨0,_,.pure fun c ρ D J a w hs=>?_,h5⟩
 have e1:=hs.op x;have e2:=hs.op ix
 rw[rf h1] at e1
 obtain⟨k,hk⟩:=gK h2
 rw[hk] at e2
 have e2:=aG e2
 obtain⟨hlt,rfl⟩:=List.getElem?_eq_some_iff.1 h4
 generalize hv:a.eval x=v at e1
 cases e1 with
 |agg vs _ hs' hr=>
  have hj:i.toNat<vs.size:=by omega
  exact⟨vs.getD i.toNat undef,by simp[execOp,hv,e2,Instr.index,asIntOf,run_underlying (kw ht.out),h3,cK hz.out,part,d9 ha.out,hj,Array.getD],hr _ hlt⟩
theorem iF{n m:Nat} {e:TypeId}(t:TypeId)(x ix:Operand) [ht:yG P t n e] [ha:vY P e true] [hz:fF P e m](h:aH (xA (st.op x)) fun cs=>aH (jg (st.op ix)) fun i=>(0≤i∧i<n)∧i.toNat*m+m≤cs.length∧K 0 ⟨.agg ((cs.drop (i.toNat*m)).take m),[]⟩):
 AO P ⟨dst,.index t x ix,ty,pos,af,g⟩ nid st K:=by
 obtain⟨cs,h1,i,h2,h3,h4,h5⟩:=h
 refine⟨0,_,.pure fun c ρ D J a w hs=>?_,h5⟩
 have e1:=hs.op x;have e2:=hs.op ix
 rw[rf h1] at e1
 obtain⟨k,hk⟩:=gK h2
 rw[hk] at e2
 have e2:=aG e2
 generalize hv:a.eval x=v at e1
 cases e1 with
 |agg vs _ hs' hr=>
  refine⟨.agg (vs.extract (i.toNat*m) (i.toNat*m+m)),by simp[execOp,hv,e2,Instr.index,asIntOf,run_underlying (kw ht.out),h3,cK hz.out,part,d9 ha.out],.agg _ _ (by simp;omega) (fun j hj=>?_)⟩
  have hj':i.toNat*m+j<cs.length:=by simp at hj;omega
  have:=hr (i.toNat*m+j) hj'
  have hj2:i.toNat*m+j<vs.size:=by omega
  have hj3:j<m:=by simp at hj;omega
  have e2:(vs.extract (i.toNat*m) (i.toNat*m+m)).getD j undef=vs.getD (i.toNat*m+j) undef:=by
   have h1:j<min (i.toNat*m+m) vs.size-i.toNat*m:=by omega
   simp[Array.getD_eq_getD_getElem?,Array.getElem?_extract,h1,hj2]
  rw[e2]
  simpa using this
theorem iQ(t:TypeId)(x ix:Operand) [ht:BR P t](h:aH (xz (st.op x)) fun s=>aH (jg (st.op ix)) fun i=>(0≤i∧i<s.size)∧K 0 ⟨.val (.int .u8 (s.get! i.toNat).toNat),[]⟩):
 AO P ⟨dst,.index t x ix,ty,pos,af,g⟩ nid st K:=by
 obtain⟨s,h1,i,h2,h3,h5⟩:=h
 refine⟨0,_,.pure fun c ρ D J a w hs=>?_,h5⟩
 have e1:=hs.op x;have e2:=hs.op ix
 rw[q8 h1] at e1
 have e1:=aG e1
 obtain⟨k,hk⟩:=gK h2
 rw[hk] at e2
 have e2:=aG e2
 have hj:i.toNat<s.size:=by omega
 refine⟨_,?_,.val _⟩
 have e3:s[i.toNat]? =some (s.get! i.toNat):=by
  rw[getElem?_pos s i.toNat hj]
  congr 1
  simp[ByteArray.get!,ByteArray.getElem_eq_getElem_data]
  rw[getElem!_pos]
 simp[execOp,e1,e2,Instr.index,asIntOf,run_underlying (gZ ht.out),h3.1,e3]
end
end
