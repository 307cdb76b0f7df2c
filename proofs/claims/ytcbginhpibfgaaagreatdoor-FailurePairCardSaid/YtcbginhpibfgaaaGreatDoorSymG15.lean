/- Sym15 Sym16 Sym17 Sym18 Sym19. No condition. -/
import Derived.Test.YtcbginhpibfgaaaGreatDoorSymG12
import Derived.ProofKit
import Derived.OpenShut
import Derived.ChangeArms
import Derived.ChangeBears
import Derived.ReadAgain
import Derived.Handed
import Derived.Laws.StructEq
import Derived.Lib.Overlaps
set_option linter.all false
namespace Go.Sy
section
structure Ph{α:Type}(k:α→Prop):Type where
def aH{α:Type}(o:Option α)(k:α→Prop)(_:Ph k:=⟨⟩):Prop:=∃a,o=some a∧k a
theorem Nn{α:Type} {a:α} {k:α→Prop} {h}:aH (some a) k h=k a:=by simp[aH]
theorem RH{α β:Type} {o:Option α} {f:α→β} {k:β→Prop} {h}:aH (o.map f) k h=aH o (fun a=>k (f a)):=by cases o<;>simp[aH]
theorem RI{α:Type} [Inhabited α]{l:List α} {i:Nat} {k:α→Prop} {p}(h:i<l.length):aH l[i]? k p=k (l.getD i default):=by
 simp[aH,List.getD_eq_getElem?_getD,List.getElem?_eq_getElem h]
theorem U7{α:Type} {p:Prop} [Decidable p]{a:α} {k:α→Prop} {q}(h:p):aH (if p then some a else none) k q=k a:=by simp[aH,h]
theorem RJ{α:Type} {p:Prop} [Decidable p]{a:α} {k:α→Prop} {q}(h:¬p):aH (if p then none else some a) k q=k a:=by simp[aH,h]
def Ed:AV→Option Bool
 | .val (.bool b)=>some b
 |_=>none
def mJ:AV→Option (IntKind×Int)
 | .val (.int k n)=>some (k,n)
 |_=>none
def H8:AV→Option ByteArray
 | .val (.string s)=>some s
 |_=>none
def RN:AV→Option (Nat×Nat)
 | .pt id off=>some (id,off)
 |_=>none
def AQ:AV→Option (Bool×List AV×Nat)
 | .isl z cs n=>some (z,cs,n)
 |_=>none
def Gv:AV→Option (Nat×Nat×Nat×Nat)
 | .sl id off n es=>some (id,off,n,es)
 |_=>none
def vX:AV→Option (List AV)
 | .agg cs=>some cs
 |_=>none
def PO:AV→Option (List AV)
 | .tup cs=>some cs
 |_=>none
def Jq:Option aD→Option (List AV×TypeId)
 |some (.cells cs e)=>some (cs,e)
 |_=>none
theorem H9{x:AV} {b:Bool}(h:Ed x=some b):x= .val (.bool b):=by unfold Ed at h;split at h<;>simp_all
theorem jZ{x:AV} {p:IntKind×Int}(h:mJ x=some p):x= .val (.int p.1 p.2):=by unfold mJ at h;split at h<;>simp_all[Prod.ext_iff]
theorem Ee{x:AV} {b:ByteArray}(h:H8 x=some b):x= .val (.string b):=by unfold H8 at h;split at h<;>simp_all
theorem Jr{x:AV} {p:Nat×Nat}(h:RN x=some p):x= .pt p.1 p.2:=by unfold RN at h;split at h<;>simp_all[Prod.ext_iff]
theorem qL{x:AV} {p:Bool×List AV×Nat}(h:AQ x=some p):x= .isl p.1 p.2.1 p.2.2:=by unfold AQ at h;split at h<;>simp_all[Prod.ext_iff]
theorem nT{x:AV} {p:Nat×Nat×Nat×Nat}(h:Gv x=some p):x= .sl p.1 p.2.1 p.2.2.1 p.2.2.2:=by unfold Gv at h;split at h<;>simp_all[Prod.ext_iff]
theorem mZ{x:AV} {p:List AV}(h:vX x=some p):x= .agg p:=by unfold vX at h;split at h<;>simp_all
theorem U8{x:AV} {p:List AV}(h:PO x=some p):x= .tup p:=by unfold PO at h;split at h<;>simp_all
theorem sQ{x:Option aD} {p:List AV×TypeId}(h:Jq x=some p):x=some (.cells p.1 p.2):=by unfold Jq at h;split at h<;>simp_all[Prod.ext_iff]
theorem gP{x:AV} {n:Int}(h:jQ x=some n):∃k,x= .val (.int k n):=by unfold jQ at h;split at h<;>simp_all
section
variable {P:Program} {Q:Exit→Nat→St→Prop} {nid:Nat} {st:St} {dst:Option Nat} {ty:TypeId} {pos:String} {af:Array Edge} {g:Option (Nat×Bool)} {K:Nat→Eff→Prop}
theorem fA(x y z:Operand)(h:aH (Ed (st.op x)) fun b=>K 0 ⟨jw b (st.op y) (st.op z),[]⟩):AO P ⟨dst,.pick x y z,ty,pos,af,g⟩ nid st K:=by
 obtain⟨b,h1,h2⟩:=h;exact afi x y z ⟨b,H9 h1,h2⟩
theorem gJ(t:TypeId)(x:Operand)(h:aH (Ed (st.op x)) fun b=>K 0 ⟨.val (.bool !b),[]⟩):AO P ⟨dst,.unOp .not t x,ty,pos,af,g⟩ nid st K:=by
 obtain⟨b,h1,h2⟩:=h;exact ajO t x ⟨b,H9 h1,h2⟩
theorem gK(t:TypeId)(x:Operand)(h:aH (mJ (st.op x)) fun p=>K 0 ⟨.val (.int p.1 (p.1.wrap (0-p.2))),[]⟩):AO P ⟨dst,.unOp .neg t x,ty,pos,af,g⟩ nid st K:=by
 obtain⟨b,h1,h2⟩:=h;exact ajP t x ⟨_,_,jZ h1,h2⟩
theorem dK{ks k:IntKind}(s t:TypeId)(x:Operand) [hs:iW P s ks] [ht:iW P t k](h:aH (jQ (st.op x)) fun n=>K 0 ⟨.val (.int k (k.wrap n)),[]⟩):AO P ⟨dst,.convert s t x,ty,pos,af,g⟩ nid st K:=by
 obtain⟨n,h1,h2⟩:=h;obtain⟨k',hk⟩:=gP h1;exact Rp s t x ⟨k',n,hk,h2⟩
theorem dY(bo:BinOp)(t:TypeId)(x y:Operand)(t':TypeId)(h:aH (di P bo t (st.op x) (st.op y)) fun r=>K 0 ⟨r,[]⟩):AO P ⟨dst,.binOp bo t x y t',ty,pos,af,g⟩ nid st K:=ajL bo t x y t' h
theorem sS(t:TypeId)(x y:Operand)(t':TypeId)(h:aH (uu P t (st.op x) (st.op y)) fun b=>K 0 ⟨.val (.bool b),[]⟩):AO P ⟨dst,.binOp .eql t x y t',ty,pos,af,g⟩ nid st K:=aam t x y t' h
theorem ni(t:TypeId)(x y:Operand)(t':TypeId)(h:aH (uu P t (st.op x) (st.op y)) fun b=>K 0 ⟨.val (.bool !b),[]⟩):AO P ⟨dst,.binOp .neq t x y t',ty,pos,af,g⟩ nid st K:=UL t x y t' h
theorem aW{fo n:Nat} {ft:TypeId}(s:TypeId)(x:Operand)(f:Nat) [hf:vH P s f fo ft] [hz:gq P ft (n+1)](h:aH (AB fo (st.op x)) fun y=>K 0 ⟨y,[]⟩):AO P ⟨dst,.fieldAddr s x f,ty,pos,af,g⟩ nid st K:=KP s x f h
theorem bf{e:TypeId} {es:Nat}(t:TypeId)(x ix:Operand) [he:d9 P t e] [hz:gq P e es](h:aH (jQ (st.op ix)) fun i=>aH (KQ i.toNat es (st.op x)) fun p=>(0≤i∧i<p.2)∧K 0 ⟨p.1,[]⟩):AO P ⟨dst,.indexAddr t x ix,ty,pos,af,g⟩ nid st K:=by
 obtain⟨i,h1,p,h2,h3,h4⟩:=h;obtain⟨k,hk⟩:=gP h1;exact KR t x ix ⟨k,i,p.1,p.2,hk,h2,h3,h4⟩
theorem bu{e:TypeId} {n es:Nat}(t:TypeId)(x ix:Operand) [he:Di P t n e] [hz:gq P e es](h:aH (jQ (st.op ix)) fun i=>aH (AB (i.toNat*es) (st.op x)) fun y=>(0≤i∧i<n)∧K 0 ⟨y,[]⟩):AO P ⟨dst,.indexAddr t x ix,ty,pos,af,g⟩ nid st K:=by
 obtain⟨i,h1,p,h2,h3,h4⟩:=h;obtain⟨k,hk⟩:=gP h1;exact M5 t x ix ⟨k,i,p,hk,h2,h3,h4⟩
theorem df(t:TypeId)(x:Operand) [ha:vJ P t false](h:aH (mg st (st.op x)) fun p=>aH p.1[p.2]? fun y=>K 0 ⟨y,[]⟩):AO P ⟨dst,.load t x,ty,pos,af,g⟩ nid st K:=by
 obtain⟨p,h1,y,h2,h3⟩:=h;exact afm t x ⟨p.1,p.2,y,h1,h2,h3⟩
theorem aT{n:Nat}(t:TypeId)(x:Operand) [ha:vJ P t true] [hz:gq P t n](h:aH (mg st (st.op x)) fun p=>p.2+n≤p.1.length∧K 0 ⟨.agg ((p.1.drop p.2).take n),[]⟩):AO P ⟨dst,.load t x,ty,pos,af,g⟩ nid st K:=by
 obtain⟨p,h1,h2,h3⟩:=h;exact Rq t x ⟨p.1,p.2,h1,h2,h3⟩
theorem nU{fo:Nat} {ft:TypeId}(s:TypeId)(x:Operand)(f:Nat) [hf:vH P s f fo ft] [ha:vJ P ft false](h:aH (vX (st.op x)) fun cs=>aH cs[fo]? fun y=>K 0 ⟨y,[]⟩):AO P ⟨dst,.field s x f,ty,pos,af,g⟩ nid st K:=by
 obtain⟨cs,h1,y,h2,h3⟩:=h;exact aan s x f ⟨cs,y,mZ h1,h2,h3⟩
theorem eX(x:Operand)(i:Nat)(h:aH (PO (st.op x)) fun cs=>aH cs[i]? fun y=>K 0 ⟨y,[]⟩):AO P ⟨dst,.extract x i,ty,pos,af,g⟩ nid st K:=by
 obtain⟨cs,h1,y,h2,h3⟩:=h;exact Rs x i ⟨cs,y,U8 h1,h2,h3⟩
theorem bZ(t:TypeId)(x:Operand) [ht:Ky P t](h:aH (H8 (st.op x)) fun s=>K 0 ⟨.val (.int .i64 s.size),[]⟩):AO P ⟨dst,.call ⟨.builtin .len,#[x],#[t]⟩,ty,pos,af,g⟩ nid st K:=by
 obtain⟨s,h1,h2⟩:=h;exact UM t x ⟨s,Ee h1,h2⟩
theorem fK{e:TypeId}(t:TypeId)(x:Operand) [ht:d9 P t e](h:aH (HY (st.op x)) fun n=>K 0 ⟨.val (.int .i64 n),[]⟩):AO P ⟨dst,.call ⟨.builtin .len,#[x],#[t]⟩,ty,pos,af,g⟩ nid st K:=ajQ t x h
theorem gm(e:TypeId)(x:Operand)(h:aH (st.op x).parts fun cs=>cs.all AV.scalar=true∧K 1 ⟨.pt nid 0,[(nid,some (.cells cs e))]⟩):AO P ⟨dst,.box e x,ty,pos,af,g⟩ nid st K:=ajR e x h
theorem eG{n:Nat}(t:TypeId)(x y:Operand) [hz:gq P t n](h:aH (RN (st.op x)) fun p=>aH (Jq (st.ob p.1)) fun q=>aH (st.op y).parts fun vs=>vs.all AV.scalar=true∧vs.length=n∧p.2+n≤q.1.length∧
 K 0 ⟨.any,[(p.1,some (.cells (AJ q.1 p.2 vs) q.2))]⟩):AO P ⟨dst,.store t x y,ty,pos,af,g⟩ nid st K:=by
 obtain⟨p,h1,q,h2,vs,h3,h4,h5,h6,h7⟩:=h;exact aao t x y ⟨_,_,_,_,vs,Jr h1,sQ h2,h3,h4,h5,h6,h7⟩
theorem iX{zs:List Value} {pl:List (Nat×Nat)}(t:TypeId)(ps:Array (Nat×Operand)) [hz:jX P t zs] [hp:dL P t pl]
 (h:aH (jY (pl[·]?) (zs.map ofV) (ps.toList.map fun p=>(p.1,st.op p.2))) fun out=>K 0 ⟨.agg out,[]⟩):AO P ⟨dst,.build t ps,ty,pos,af,g⟩ nid st K:=aap t ps h
theorem aX{e:TypeId} {es:Nat} {zs:List Value}(t:TypeId)(len:Nat)(ps:Array (Nat×Operand)) [he:d9 P t e] [hs:gq P e es] [hz:jX P e zs]
 (h:aH (jY (fun i=>some (i*es,es)) (eT zs len) (ps.toList.map fun p=>(p.1,st.op p.2))) fun out=>zs.length=es∧zs.all Value.oneCell'=true∧len*es≤16777216∧out.all AV.scalar=true∧out.length=len*es∧
   K 1 ⟨.sl nid 0 len es,[(nid,some (.cells out e))]⟩):AO P ⟨dst,.buildSlice t len ps,ty,pos,af,g⟩ nid st K:=Jk t len ps h
theorem fM{e:TypeId} {es by':Nat} {zs:List Value}(t:TypeId)(l c:Operand) [he:d9 P t e] [hs:gq P e es] [hb:Az P e by'] [hz:jX P e zs]
 (h:aH (jQ (st.op l)) fun n=>aH (jQ (st.op c)) fun n'=>n'=n∧zs.length=es∧zs.all Value.oneCell'=true∧0≤n∧n≤9223372036854775807∧(by':Int)*n≤281474976710656∧
   K 1 ⟨.sl nid 0 n.toNat es,[(nid,some (.cells (eT zs n.toNat) e))]⟩):AO P ⟨dst,.makeSlice t l c,ty,pos,af,g⟩ nid st K:=by
 obtain⟨n,h1,n',h2,rfl,h3⟩:=h
 obtain⟨k1,hk1⟩:=gP h1;obtain⟨k2,hk2⟩:=gP h2
 exact KS t l c ⟨k1,k2,_,hk1,hk2,h3⟩
theorem ik(t:TypeId)(x:Operand)(lo hi:Option Operand) [ht:Ky P t](h:aH (H8 (st.op x)) fun s=>aH (bG st 0 lo) fun l=>aH (bG st s.size hi) fun u=>(0≤l∧l≤u∧u≤s.size)∧K 0 ⟨.val (.string (s.extract l.toNat u.toNat)),[]⟩):
 AO P ⟨dst,.slice t x lo hi none,ty,pos,af,g⟩ nid st K:=by
 obtain⟨s,h1,l,h2,u,h3,h4,h5⟩:=h;exact M6 t x lo hi ⟨s,l,u,Ee h1,h2,h3,h4,h5⟩
theorem kw{e:TypeId} {es:Nat}(t:TypeId)(x:Operand)(lo hi:Option Operand) [ht:d9 P t e] [hs:gq P e es](h:aH (AQ (st.op x)) fun p=>aH (bG st 0 lo) fun l=>aH (bG st p.2.2 hi) fun u=>(0≤l∧l≤u∧u≤p.2.2)∧
 K 0 ⟨.isl p.1 ((p.2.1.drop (l.toNat*es)).take ((u.toNat-l.toNat)*es)) (u.toNat-l.toNat),[]⟩):AO P ⟨dst,.slice t x lo hi none,ty,pos,af,g⟩ nid st K:=by
 obtain⟨p,h1,l,h2,u,h3,h4,h5⟩:=h;exact UN t x lo hi ⟨_,_,_,l,u,qL h1,h2,h3,h4,h5⟩
theorem nV{e:TypeId} {es:Nat}(t:TypeId)(x:Operand)(lo hi:Option Operand) [ht:d9 P t e] [hs:gq P e es](h:aH (Gv (st.op x)) fun p=>aH (bG st 0 lo) fun l=>aH (bG st p.2.2.1 hi) fun u=>p.2.2.2=es∧(0≤l∧l≤u∧u≤p.2.2.1)∧
 (l<p.2.2.1∨l=0)∧K 0 ⟨.sl p.1 (p.2.1+l.toNat*es) (u.toNat-l.toNat) es,[]⟩):AO P ⟨dst,.slice t x lo hi none,ty,pos,af,g⟩ nid st K:=by
 obtain⟨p,h1,l,h2,u,h3,h4,h5,h6,h7⟩:=h;exact aaq t x lo hi ⟨_,_,_,_,l,u,nT h1,h4,h2,h3,h5,h6,h7⟩
theorem jf{e:TypeId} {es:Nat}(t:TypeId)(x:Operand)(lo hi:Option Operand) [ht:d9 P t e] [hs:gq P e es](h:aH (Gv (st.op x)) fun p=>aH (bG st 0 lo) fun l=>aH (bG st p.2.2.1 hi) fun u=>p.2.2.2=es∧(0≤l∧l=u∧u≤p.2.2.1)∧
 K 0 ⟨.isl false [] 0,[]⟩):AO P ⟨dst,.slice t x lo hi none,ty,pos,af,g⟩ nid st K:=by
 obtain⟨p,h1,l,h2,u,h3,h4,h5,h6⟩:=h;exact M7 t x lo hi ⟨_,_,_,_,l,u,nT h1,h4,h2,h3,h5,h6⟩
theorem dM{e:TypeId} {es by':Nat} {zs:List Value}(t:TypeId)(x y:Operand) [he:d9 P t e] [hs:gq P e es] [hb:Az P e by'] [hz:jX P e zs]
 (h:aH (AQ (st.op x)) fun p=>aH (gI st (st.op y)) fun q=>p=(true,[],0)∧zs.length=es∧zs.all Value.oneCell'=true∧q.1.length=q.2*es∧0<q.2∧q.2*by'≤140737488355328∧q.2≤9223372036854775807∧K 1 ⟨.sl nid 0 q.2 es,[(nid,some (.cells q.1 e))]⟩):
 AO P ⟨dst,.call ⟨.builtin .append,#[x,y],#[t,t]⟩,ty,pos,af,g⟩ nid st K:=by
 obtain⟨p,h1,q,h2,rfl,h3⟩:=h;exact KT t x y ⟨_,_,qL h1,h2,h3⟩
theorem gz{e:TypeId} {es by':Nat} {zs:List Value}(t:TypeId)(x y:Operand) [he:d9 P t e] [hs:gq P e es] [hb:Az P e by'] [hz:jX P e zs]
 (h:aH (Gv (st.op x)) fun p=>aH (Jq (st.ob p.1)) fun o=>aH (gI st (st.op y)) fun q=>p.2.1=0∧p.2.2.2=es∧o.2=e∧zs.length=es∧zs.all Value.oneCell'=true∧o.1.length=p.2.2.1*es∧q.1.length=q.2*es∧(p.2.2.1+q.2)*by'≤140737488355328∧p.2.2.1+q.2≤9223372036854775807∧
   K 1 ⟨.sl nid 0 (p.2.2.1+q.2) es,[(nid,some (.cells (o.1++q.1) e)),(p.1,none)]⟩):
 AO P ⟨dst,.call ⟨.builtin .append,#[x,y],#[t,t]⟩,ty,pos,af,g⟩ nid st K:=by
 obtain⟨⟨id,off,n,es'⟩,h1,⟨cs,e'⟩,h2,q,h3,h4,h5,h6,h7⟩:=h
 dsimp only at h4 h5 h6 h7
 subst h4;subst h5;subst h6
 exact UO t x y ⟨_,_,_,_,_,nT h1,sQ h2,h3,h7⟩
end
theorem RO{cs:List AV} {off:Nat} {v:AV}:AJ cs off [v]=cs.set off v:=rfl
theorem nk{α:Type} {cs vs:List α}(h:vs.length=cs.length):spl cs 0 vs=vs:=by unfold spl;simp[h]
theorem Ef{v:Value} {n:Nat}:eT [v] n=List.replicate n (ofV v):=by
 unfold eT
 induction n with
 |zero=>rfl
 |succ n ih=>simp only[List.map_cons,List.map_nil] at ih;simp[List.replicate_succ,ih]
theorem RP{α:Type} {l:List α} {n:Nat}(h:l.length≤n):l.take n=l:=List.take_of_length_le h
def sel{α:Type}(z:Bool)(a b:α):α:=if z then a else b
theorem aft{α:Type} {a b:α} {p:Prop} [Decidable p](h:p):sel (decide p) a b=a:=by simp[sel,h]
theorem afu{α:Type} {a b:α} {p:Prop} [Decidable p](h:¬p):sel (decide p) a b=b:=by simp[sel,h]
theorem ajS{α:Type} {a b:α} {z:Bool}(h:z=true):sel z a b=a:=by simp[sel,h]
theorem ajT{α:Type} {a b:α} {z:Bool}(h:z=false):sel z a b=b:=by simp[sel,h]
theorem U9{α:Type} {a b:α}:sel true a b=a:=rfl
theorem RS{α:Type} {a b:α}:sel false a b=b:=rfl
section
variable {id off n es k i t:Nat} {cs:List AV} {z b:Bool} {s:ByteArray} {m:Int} {kd:IntKind} {v:Value} {x y:AV} {st:St} {o:aD} {e:TypeId} {env:List (Nat×AV)} {objs:List (Nat×Option aD)} {β:Type} {u:β} {l:List (Nat×β)}
theorem afv:bg ((i,u)::l) t=if t=i then some u else bg l t:=rfl
theorem aaC:bg ([]:List (Nat×β)) t=none:=rfl
theorem ajU:bg ((i,u)::l) i=some u:=by simp[bg]
theorem e_ev:St.ev ⟨n,k,env,objs⟩ t=(bg env t).getD .any:=rfl
theorem e_ob:St.ob ⟨n,k,env,objs⟩ t=(bg objs t).join:=rfl
theorem ajV:St.op st (.tmp t)=st.ev t:=rfl
theorem ajW:St.op st (.const v)=ofV v:=rfl
theorem e_pt:RN (.pt id off)=some (id,off):=rfl
theorem afw:Ed (.val (.bool b))=some b:=rfl
theorem afx:mJ (.val (.int kd m))=some (kd,m):=rfl
theorem ajX:jQ (.val (.int kd m))=some m:=rfl
theorem ajY:H8 (.val (.string s))=some s:=rfl
theorem ajZ:AQ (.isl z cs n)=some (z,cs,n):=rfl
theorem e_sl:Gv (.sl id off n es)=some (id,off,n,es):=rfl
theorem aj0:vX (.agg cs)=some cs:=rfl
theorem aj1:PO (.tup cs)=some cs:=rfl
theorem e_cl:Jq (some (.cells cs e))=some (cs,e):=rfl
theorem aaD:AB k (.pt id off)=some (.pt id (off+k)):=rfl
theorem Va:AB k (.ipt cs off)=some (.ipt cs (off+k)):=rfl
theorem aj2:KQ i es (.sl id off n k)=some (.pt id (off+i*es),n):=rfl
theorem afy:KQ i es (.isl z cs n)=some (.ipt cs (i*es),n):=rfl
theorem RU:mg ⟨n,k,env,objs⟩ (.pt id off)=vT off (bg objs id).join:=rfl
theorem Np:mg st (.ipt cs off)=some (cs,off):=rfl
theorem RX:vT off (some (.cells cs e))=some (cs,off):=rfl
theorem aaE:HY (.sl id off n es)=some n:=rfl
theorem Vb:HY (.isl z cs n)=some n:=rfl
theorem aaF:gI ⟨n,k,env,objs⟩ (.sl id off i es)=KI off i es (bg objs id).join:=rfl
theorem Vd:gI st (.isl z cs n)=some (cs,n):=rfl
theorem aaG:KI off i es (some (.cells cs e))=some ((cs.drop off).take (i*es),i):=rfl
theorem Ve:KI off i es (some (.full cs e))=some ((cs.drop off).take (i*es),i):=rfl
theorem Vf:bG st k none=some (k:Int):=rfl
theorem Vg{x:Operand}:bG st k (some x)=jQ (st.op x):=rfl
theorem Vh:AV.parts (.agg cs)=some cs:=rfl
theorem Vi:AV.parts (.isl z cs n)=some [.isl z cs n]:=rfl
theorem Vj:AV.parts (.ipt cs n)=some [.ipt cs n]:=rfl
theorem Vk:AV.parts (.sl id off n es)=some [.sl id off n es]:=rfl
theorem Vl:AV.parts (.pt id off)=some [.pt id off]:=rfl
theorem Vm:AV.parts (.mp id)=some [.mp id]:=rfl
theorem Vn:AV.parts (.yl id)=some [.yl id]:=rfl
theorem aj3:AV.scalar (.yl id)=true:=rfl
theorem Vo{f:Nat}:AV.parts (.fn f cs)=some [.fn f cs]:=rfl
theorem Vp:AV.parts (.val (.int kd m))=some [.val (.int kd m)]:=rfl
theorem Vq:AV.parts (.val (.bool b))=some [.val (.bool b)]:=rfl
theorem RY:AV.parts (.val (.string s))=some [.val (.string s)]:=rfl
theorem RZ{ad:Option Addr}:AV.parts (.val (.pointer ad))=some [.val (.pointer ad)]:=rfl
theorem R3{ad:Option Nat}:AV.parts (.val (.map ad))=some [.val (.map ad)]:=rfl
theorem aj4:AV.scalar (.isl z cs n)=true:=rfl
theorem aj5:AV.scalar (.ipt cs n)=true:=rfl
theorem aj6:AV.scalar (.sl id off n es)=true:=rfl
theorem aj7:AV.scalar (.pt id off)=true:=rfl
theorem aj8:AV.scalar (.mp id)=true:=rfl
theorem aj9{f:Nat}:AV.scalar (.fn f cs)=true:=rfl
theorem aka:AV.scalar (.val v)=v.oneCell':=rfl
theorem akb:AV.notNil (.pt id off)=true:=rfl
theorem akc:AV.notNil (.ipt cs off)=true:=rfl
theorem akd{f:Nat}:AV.notNil (.fn f cs)=true:=rfl
theorem ake:AV.notNil (.mp id)=true:=rfl
theorem aaH{p q:Bool}:jw z (.val (.bool p)) (.val (.bool q))= .val (.bool (sel z p q)):=rfl
theorem aaI{p q:Int} {kd':IntKind}:jw z (.val (.int kd p)) (.val (.int kd' q))=sel z (.val (.int kd p)) (.val (.int kd' q)):=rfl
theorem aaJ:jw z .any x=sel z .any x:=by cases x<;>rfl
theorem aaK:jw z noV x=sel z noV x:=by cases x<;>rfl
theorem aaL:jw z x noV=sel z x noV:=by cases x<;>first|rfl|(rename_i v;cases v<;>rfl)
theorem aaM:jw z x .any=sel z x .any:=by cases x<;>first|rfl|(rename_i v;cases v<;>rfl)
end
def cS(l:List ByteArray):List AV:=l.map fun s=> .val (.string s)
def cB(l:List Bool):List AV:=l.map fun b=> .val (.bool b)
def cI(k:IntKind)(l:List Int):List AV:=l.map fun n=> .val (.int k n)
section
variable {k:IntKind}
theorem Vr(l:List ByteArray):(cS l).length=l.length:=by simp[cS]
theorem cB_len(l:List Bool):(cB l).length=l.length:=by simp[cB]
theorem Nq(l:List Int):(cI k l).length=l.length:=by simp[cI]
theorem afz(l:List ByteArray)(i:Nat)(s:ByteArray):(cS l).set i (.val (.string s))=cS (l.set i s):=by simp[cS,List.map_set]
theorem afA(l:List Bool)(i:Nat)(s:Bool):(cB l).set i (.val (.bool s))=cB (l.set i s):=by simp[cB,List.map_set]
theorem afB(l:List Int)(i:Nat)(s:Int):(cI k l).set i (.val (.int k s))=cI k (l.set i s):=by simp[cI,List.map_set]
theorem cS_get(l:List ByteArray)(i:Nat):(cS l)[i]? =l[i]?.map fun s=> .val (.string s):=by simp[cS]
theorem cB_get(l:List Bool)(i:Nat):(cB l)[i]? =l[i]?.map fun s=> .val (.bool s):=by simp[cB]
theorem afC(l:List Int)(i:Nat):(cI k l)[i]? =l[i]?.map fun s=> .val (.int k s):=by simp[cI]
theorem afD(l m:List ByteArray):cS l++cS m=cS (l++m):=by simp[cS]
theorem afE(l m:List Bool):cB l++cB m=cB (l++m):=by simp[cB]
theorem afF(l m:List Int):cI k l++cI k m=cI k (l++m):=by simp[cI]
theorem aaN(l:List ByteArray)(s:ByteArray):cS l++[.val (.string s)]=cS (l++[s]):=by simp[cS]
theorem aaO(l:List Bool)(s:Bool):cB l++[.val (.bool s)]=cB (l++[s]):=by simp[cB]
theorem aaP(l:List Int)(s:Int):cI k l++[.val (.int k s)]=cI k (l++[s]):=by simp[cI]
theorem aaQ(l:List ByteArray)(n:Nat):(cS l).take n=cS (l.take n):=by simp[cS,List.map_take]
theorem aaR(l:List Bool)(n:Nat):(cB l).take n=cB (l.take n):=by simp[cB,List.map_take]
theorem aaS(l:List Int)(n:Nat):(cI k l).take n=cI k (l.take n):=by simp[cI,List.map_take]
theorem aaT(l:List ByteArray)(n:Nat):(cS l).drop n=cS (l.drop n):=by simp[cS,List.map_drop]
theorem aaU(l:List Bool)(n:Nat):(cB l).drop n=cB (l.drop n):=by simp[cB,List.map_drop]
theorem aaV(l:List Int)(n:Nat):(cI k l).drop n=cI k (l.drop n):=by simp[cI,List.map_drop]
theorem aaW(s:ByteArray)(n:Nat):eT [.string s] n=cS (List.replicate n s):=by simp[Ef,cS,ofV]
theorem aaX(s:Bool)(n:Nat):eT [.bool s] n=cB (List.replicate n s):=by simp[Ef,cB,ofV]
theorem aaY(s:Int)(n:Nat):eT [.int k s] n=cI k (List.replicate n s):=by simp[Ef,cI,ofV]
theorem afG(τ:Nat→Nat)(l:List ByteArray):(cS l).map (ren τ)=cS l:=by simp[cS,ren]
theorem afH(τ:Nat→Nat)(l:List Bool):(cB l).map (ren τ)=cB l:=by simp[cB,ren]
theorem afI(τ:Nat→Nat)(l:List Int):(cI k l).map (ren τ)=cI k l:=by simp[cI,ren]
theorem afJ(id:Nat)(cs:List AV)(l:List ByteArray):(cS l).map (bT id cs)=cS l:=by simp[cS,bT]
theorem afK(id:Nat)(cs:List AV)(l:List Bool):(cB l).map (bT id cs)=cB l:=by simp[cB,bT]
theorem afL(id:Nat)(cs:List AV)(l:List Int):(cI k l).map (bT id cs)=cI k l:=by simp[cI,bT]
theorem afM(n:Nat)(l:List ByteArray):(∀x∈cS l,bnd n x)=True:=by simp[cS,bnd]
theorem afN(n:Nat)(l:List Bool):(∀x∈cB l,bnd n x)=True:=by simp only[cB,List.forall_mem_map];simp[bnd]
theorem uV(n:Nat)(l:List Int):(∀x∈cI k l,bnd n x)=True:=by simp[cI,bnd]
theorem Vs(l:List ByteArray):(∀x∈cS l,noImm x)=True:=by simp[cS,noImm]
theorem Vt(l:List Bool):(∀x∈cB l,noImm x)=True:=by simp only[cB,List.forall_mem_map];simp[noImm]
theorem Vu(l:List Int):(∀x∈cI k l,noImm x)=True:=by simp[cI,noImm]
theorem afO(l:List ByteArray):(cS l).all AV.scalar=true:=by simp[cS,AV.scalar,Value.oneCell']
theorem afP(l:List Bool):(cB l).all AV.scalar=true:=by simp[cB,AV.scalar,Value.oneCell']
theorem afQ(l:List Int):(cI k l).all AV.scalar=true:=by simp[cI,AV.scalar,Value.oneCell']
theorem afR(l m:List ByteArray)(h:m.length=l.length):spl (cS l) 0 (cS m)=cS m:=nk (by simpa[cS] using h)
theorem afS(l m:List Bool)(h:m.length=l.length):spl (cB l) 0 (cB m)=cB m:=nk (by simpa[cB] using h)
theorem afT(l m:List Int)(h:m.length=l.length):spl (cI k l) 0 (cI k m)=cI k m:=nk (by simpa[cI] using h)
theorem afU{s:ByteArray}:cS [s]=[.val (.string s)]:=rfl
theorem afV{s:Bool}:cB [s]=[.val (.bool s)]:=rfl
theorem afW{s:Int}:cI k [s]=[.val (.int k s)]:=rfl
theorem afX:cS []=[]:=rfl
theorem afY:cB []=[]:=rfl
theorem lG:cI k []=[]:=rfl
end
theorem Nr{cs vs:List AV} {off:Nat} {a b:AV}:AJ cs off (a::b::vs)=spl cs off (a::b::vs):=rfl
theorem aaZ{α:Type} {cs vs:List α} {off:Nat} {a c:α}:spl (c::cs) off (a::vs)=(c::cs).take off++(a::vs++(c::cs).drop (off+(a::vs).length)):=rfl
def qM(n off:Nat):Option aD→Option AV
 |some (.cells cs _)=>if off+n≤cs.length then some (.agg ((cs.drop off).take n)) else none
 |_=>none
def qN(off:Nat):Option aD→Option AV
 |some (.cells cs _)=>cs[off]?
 |_=>none
def Dl(n:Nat)(st:St):AV→Option AV
 | .pt id off=>qM n off (st.ob id)
 |_=>none
def vY(st:St):AV→Option AV
 | .pt id off=>qN off (st.ob id)
 |_=>none
theorem R4{P:Program} {st:St} {t:Nat}:fG P st (.tmp t)=some (st.ev t):=rfl
theorem K6{P:Program} {st:St} {x t n:Nat} [ha:vJ P t true] [hs:gq P t n]:fG P st (.cell x t)=Dl n st (st.ev x):=by
 simp only[fG,ha.out,hs.out]
 cases st.ev x with
 |pt id off=>
  cases ho:st.ob id with
  |none=>simp[Dl,qM,ho]
  |some o=>cases o<;>simp[Dl,qM,ho]
 |_=>rfl
theorem K7{P:Program} {st:St} {x t:Nat} [ha:vJ P t false]:fG P st (.cell x t)=vY st (st.ev x):=by
 simp only[fG,ha.out]
 cases st.ev x with
 |pt id off=>
  cases ho:st.ob id with
  |none=>simp[vY,qN,ho]
  |some o=>cases o<;>simp[vY,qN,ho]
 |_=>rfl
theorem R5{n k id off:Nat} {m:Nat} {env:List (Nat×AV)} {objs:List (Nat×Option aD)}:Dl n ⟨k,m,env,objs⟩ (.pt id off)=qM n off (bg objs id).join:=rfl
theorem Ns{k id off:Nat} {m:Nat} {env:List (Nat×AV)} {objs:List (Nat×Option aD)}:vY ⟨k,m,env,objs⟩ (.pt id off)=qN off (bg objs id).join:=rfl
theorem Nt{n off:Nat} {cs:List AV} {e:TypeId}:qM n off (some (.cells cs e))=if off+n≤cs.length then some (.agg ((cs.drop off).take n)) else none:=rfl
theorem Nu{off:Nat} {cs:List AV} {e:TypeId}:qN off (some (.cells cs e))=cs[off]? :=rfl
def kC(n id es:Nat):AV:=if n=0 then .isl true [] 0 else .sl id 0 n es
def kD(n id:Nat)(cs:List AV)(e:TypeId):List (Nat×Option aD):=if n=0 then [] else [(id,some (.cells cs e))]
theorem aa0{n id es:Nat}(h:n=0):kC n id es= .isl true [] 0:=by unfold kC;rw[if_pos h]
theorem aa1{n id es:Nat}(h:0<n):kC n id es= .sl id 0 n es:=by unfold kC;rw[if_neg (by omega)]
theorem aa2{n id:Nat} {cs:List AV} {e:TypeId}(h:n=0):kD n id cs e=[]:=by unfold kD;rw[if_pos h]
theorem aa3{n id:Nat} {cs:List AV} {e:TypeId}(h:0<n):kD n id cs e=[(id,some (.cells cs e))]:=by unfold kD;rw[if_neg (by omega)]
def Nxt{ι:Type}(I:ι→St)(μ:ι→Nat)(m:Nat)(i:ι)(s:St):Prop:=∃(σ':List Nat) (j:ι),σ'.length=m∧Sub σ' (I j) s∧μ j<μ i
theorem Nxt.mk{ι:Type} {I:ι→St} {μ:ι→Nat} {m:Nat} {i:ι} {s:St}(σ:List Nat)(j:ι)(h1:σ.length=m)(h2:Sub σ (I j) s)(h3:μ j<μ i):Nxt I μ m i s:=⟨σ,j,h1,h2,h3⟩
theorem au{P:Program} {Q:Exit→Nat→St→Prop} {nid:Nat} {st:St} {code:Code} {ι:Type}(σ:List Nat)(m:Nat)(I:ι→St)(μ:ι→Nat)(i0:ι)(hm:σ.length=m)(h0:Sub σ (I i0) st)
 (round:∀i,AC P code (Thn (fun _ s=>Nxt I μ m i s) Q) m (I i)):AC P (.loop code) Q nid st:=Z4 σ m I μ i0 hm h0 round
theorem K8{n:Int}(h: -9223372036854775808≤n∧n≤9223372036854775807):IntKind.i64.wrap n=n:=by unfold IntKind.wrap;simp only[IntKind.bits,IntKind.signed];simp;omega
theorem akf{n:Int}(h: -2147483648≤n∧n≤2147483647):IntKind.i32.wrap n=n:=by unfold IntKind.wrap;simp only[IntKind.bits,IntKind.signed];simp;omega
theorem w_u8{n:Int}(h:0≤n∧n≤255):IntKind.u8.wrap n=n:=by unfold IntKind.wrap;simp only[IntKind.bits,IntKind.signed];simp;omega
theorem aey{n:Int}(h:0≤n∧n≤65535):IntKind.u16.wrap n=n:=by unfold IntKind.wrap;simp only[IntKind.bits,IntKind.signed];simp;omega
theorem aez{n:Int}(h:0≤n∧n≤4294967295):IntKind.u32.wrap n=n:=by unfold IntKind.wrap;simp only[IntKind.bits,IntKind.signed];simp;omega
theorem akg{n:Int}(h:0≤n∧n≤18446744073709551615):IntKind.u64.wrap n=n:=by unfold IntKind.wrap;simp only[IntKind.bits,IntKind.signed];simp;omega
theorem ai{P:Program} {Q:Exit→Nat→St→Prop} {nid:Nat} {st:St} {code:Code}(h:AC P (.loop code) Q nid st):AC P (.loop code) Q nid st:=h
theorem ax{ι:Type} {I:ι→St} {μ:ι→Nat} {m:Nat} {i:ι} {s:St}(h:Nxt I μ m i s):Nxt I μ m i s:=h
theorem K9{a b:Int}(h:0≤a):a.tmod b=a%b:=Int.tmod_eq_emod_of_nonneg h
theorem La{a b:Int}(h:0≤a):a.tdiv b=a/b:=Int.tdiv_eq_ediv_of_nonneg h
section
variable {τ:Nat→Nat} {σ:List Nat} {st:St} {id i off len es n k f:Nat} {z:Bool} {cs l:List AV} {v:Value} {e:TypeId}
theorem afZ:ren τ noV=noV:=by simp[noV,ren]
theorem aa4:ren τ (.val v)= .val v:=by simp[ren]
theorem aa5:ren τ (.isl z cs n)= .isl z cs n:=by simp[ren]
theorem aa6:ren τ (.ipt cs k)= .ipt cs k:=by simp[ren]
theorem af0:ren τ (.sl id off len es)= .sl (τ id) off len es:=by simp[ren]
theorem af1:ren τ (.pt id off)= .pt (τ id) off:=by simp[ren]
theorem af2:ren τ (.mp id)= .mp (τ id):=by simp[ren]
theorem af3:ren τ (.yl id)= .yl (τ id):=by simp[ren]
theorem aa7{H:sG} {j:Nat}:uw τ (.tr H j)= .tr H j:=rfl
theorem aa8:ren τ (.agg cs)= .agg (cs.map (ren τ)):=by simp[ren]
theorem aa9:ren τ (.tup cs)= .tup (cs.map (ren τ)):=by simp[ren]
theorem af4:ren τ (.fn f cs)= .fn f (cs.map (ren τ)):=by simp[ren]
theorem aba:ren τ .any= .any:=by simp[ren]
theorem R6:uw τ (.full cs e)= .full (cs.map (ren τ)) e:=rfl
theorem Nv:uw τ (.cells cs e)= .cells (cs.map (ren τ)) e:=rfl
theorem af5:bT id cs (.sl i off len es)=if i=id then .isl false ((cs.drop off).take (len*es)) len else .sl i off len es:=by simp[bT]
theorem af6:bT id cs (.pt i off)=if i=id then .ipt cs off else .pt i off:=by simp[bT]
theorem abb:bT id cs (.agg l)= .agg (l.map (bT id cs)):=by simp[bT]
theorem abd:bT id cs (.tup l)= .tup (l.map (bT id cs)):=by simp[bT]
theorem af7:bT id cs (.fn f l)= .fn f (l.map (bT id cs)):=by simp[bT]
theorem af8:bT id cs noV=noV:=by simp[noV,bT]
theorem abe:bT id cs (.val v)= .val v:=by simp[bT]
theorem abf:bT id cs (.isl z l n)= .isl z l n:=by simp[bT]
theorem abg:bT id cs (.ipt l k)= .ipt l k:=by simp[bT]
theorem af9:bT id cs (.mp i)= .mp i:=by simp[bT]
theorem aga:bT id cs (.yl i)= .yl i:=by simp[bT]
theorem abh{H:sG} {j:Nat}:Bv id cs (.tr H j)= .tr H j:=rfl
theorem abj:bT id cs .any= .any:=by simp[bT]
theorem Nw:Bv id cs (.cells l e)= .cells (l.map (bT id cs)) e:=rfl
def dfzS(st:St)(σ:List Nat)(k off len es:Nat):Option aD→AV
 |some (.cells cs _)=> .isl false (((cs.drop off).take (len*es)).map (dfz st σ k)) len
 |_=> .any
def dfzP(st:St)(σ:List Nat)(k off:Nat):Option aD→AV
 |some (.cells cs _)=> .ipt (cs.map (dfz st σ k)) off
 |_=> .any
theorem agb:dfzS st σ k off len es (some (.cells cs e))= .isl false (((cs.drop off).take (len*es)).map (dfz st σ k)) len:=rfl
theorem agc:dfzP st σ k off (some (.cells cs e))= .ipt (cs.map (dfz st σ k)) off:=rfl
theorem agd(h:0<k):dfz st σ k (.sl id off len es)=if l7 σ id=true then .any else dfzS st σ (k-1) off len es (bg st.objs id).join:=by
 obtain⟨k,rfl⟩:∃j,k=j+1:=⟨k-1,by omega⟩
 rw[dfz];split
 ·rfl
 ·cases(bg st.objs id).join with
  |none=>rfl
  |some o=>cases o<;>rfl
theorem age(h:0<k):dfz st σ k (.pt id off)=if l7 σ id=true then .any else dfzP st σ (k-1) off (bg st.objs id).join:=by
 obtain⟨k,rfl⟩:∃j,k=j+1:=⟨k-1,by omega⟩
 rw[dfz];split
 ·rfl
 ·cases(bg st.objs id).join with
  |none=>rfl
  |some o=>cases o<;>rfl
theorem abk(h:0<k):dfz st σ k (.agg l)= .agg (l.map (dfz st σ (k-1))):=by obtain⟨k,rfl⟩:∃j,k=j+1:=⟨k-1,by omega⟩;rw[dfz];rfl
theorem abl(h:0<k):dfz st σ k (.tup l)= .tup (l.map (dfz st σ (k-1))):=by obtain⟨k,rfl⟩:∃j,k=j+1:=⟨k-1,by omega⟩;rw[dfz];rfl
theorem agf(h:0<k):dfz st σ k (.fn f l)= .fn f (l.map (dfz st σ (k-1))):=by obtain⟨k,rfl⟩:∃j,k=j+1:=⟨k-1,by omega⟩;rw[dfz];rfl
theorem vZ(h:0<k):dfz st σ k (.val v)= .val v:=by obtain⟨k,rfl⟩:∃j,k=j+1:=⟨k-1,by omega⟩;rw[dfz]
theorem PP(h:0<k):dfz st σ k (.isl z l n)= .isl z l n:=by obtain⟨k,rfl⟩:∃j,k=j+1:=⟨k-1,by omega⟩;rw[dfz]
theorem PQ(h:0<k):dfz st σ k (.ipt l n)= .ipt l n:=by obtain⟨k,rfl⟩:∃j,k=j+1:=⟨k-1,by omega⟩;rw[dfz]
theorem agh:dfz st σ k (.mp id)= .any:=by cases k<;>rw[dfz]
theorem agi:dfz st σ k (.yl id)= .any:=by cases k<;>rw[dfz]
theorem abm:dfz st σ k .any= .any:=by cases k<;>rw[dfz]
variable {fz:Bool}
theorem agj(h:0<k):toA st σ fz k (.sl id off len es)=if l7 σ id=true then .sl (uy σ id) off len es else if fz=true then dfz st σ (k-1) (.sl id off len es) else .any:=by obtain⟨k,rfl⟩:∃j,k=j+1:=⟨k-1,by omega⟩;rw[toA];rfl
theorem agk(h:0<k):toA st σ fz k (.pt id off)=if l7 σ id=true then .pt (uy σ id) off else if fz=true then dfz st σ (k-1) (.pt id off) else .any:=by obtain⟨k,rfl⟩:∃j,k=j+1:=⟨k-1,by omega⟩;rw[toA];rfl
theorem agl(h:0<k):toA st σ fz k (.mp id)=if l7 σ id=true then .mp (uy σ id) else .any:=by obtain⟨k,rfl⟩:∃j,k=j+1:=⟨k-1,by omega⟩;rw[toA]
theorem agm(h:0<k):toA st σ fz k (.yl id)=if l7 σ id=true then .yl (uy σ id) else .any:=by obtain⟨k,rfl⟩:∃j,k=j+1:=⟨k-1,by omega⟩;rw[toA]
theorem abn(h:0<k):toA st σ fz k (.agg l)= .agg (l.map (toA st σ fz (k-1))):=by obtain⟨k,rfl⟩:∃j,k=j+1:=⟨k-1,by omega⟩;rw[toA];rfl
theorem abo(h:0<k):toA st σ fz k (.tup l)= .tup (l.map (toA st σ fz (k-1))):=by obtain⟨k,rfl⟩:∃j,k=j+1:=⟨k-1,by omega⟩;rw[toA];rfl
theorem agn(h:0<k):toA st σ fz k (.fn f l)= .fn f (l.map (toA st σ fz (k-1))):=by obtain⟨k,rfl⟩:∃j,k=j+1:=⟨k-1,by omega⟩;rw[toA];rfl
theorem wm(h:0<k):toA st σ fz k (.val v)= .val v:=by obtain⟨k,rfl⟩:∃j,k=j+1:=⟨k-1,by omega⟩;rw[toA]
theorem PR(h:0<k):toA st σ fz k (.isl z l n)= .isl z l n:=by obtain⟨k,rfl⟩:∃j,k=j+1:=⟨k-1,by omega⟩;rw[toA]
theorem PS(h:0<k):toA st σ fz k (.ipt l n)= .ipt l n:=by obtain⟨k,rfl⟩:∃j,k=j+1:=⟨k-1,by omega⟩;rw[toA]
theorem abp:toA st σ fz k .any= .any:=by cases k<;>rw[toA]
theorem R7:toO st σ fz (.cells cs e)= .cells (cs.map (toA st σ fz 8)) e:=rfl
theorem abq{ag:Bool} {lm:List (List Int×AV)}:toO st σ fz (.map ag n lm)= .map ag n (lm.map fun x=>(x.1,toA st σ fz 8 x.2)):=rfl
theorem Vv:toO st σ fz (.full cs e)= .full (cs.map (toA st σ fz 8)) e:=rfl
theorem agp{H:sG} {j:Nat}:toO st σ fz (.tr H j)= .tr H j:=rfl
theorem abr:trs []=[]:=rfl
theorem R8{cs:List AV} {e:TypeId} {l:List aD}:trs (.cells cs e::l)=trs l:=rfl
theorem abt{ag:Bool} {n:Nat} {m:List (List Int×AV)} {l:List aD}:trs (.map ag n m::l)=trs l:=rfl
theorem Vw{cs:List AV} {e:TypeId} {l:List aD}:trs (.full cs e::l)=trs l:=rfl
theorem agq{H:sG} {j:Nat} {l:List aD}:trs (.tr H j::l)=H::trs l:=rfl
theorem agr{o:aD}:aaB st σ fz (some o)=toO st σ fz o:=rfl
theorem Vx:H7 st σ fz id=aaB st σ fz (bg st.objs id).join:=rfl
end
section
variable {st:St} {σ:List Nat} {fz:Bool} {n:Nat} {kd:IntKind}
theorem ags{l:List ByteArray}(h:0<n):(cS l).map (dfz st σ n)=cS l:=by
 unfold cS;rw[List.map_map];exact List.map_congr_left (fun x _=>vZ h)
theorem agt{l:List Bool}(h:0<n):(cB l).map (dfz st σ n)=cB l:=by
 unfold cB;rw[List.map_map];exact List.map_congr_left (fun x _=>vZ h)
theorem agu{l:List Int}(h:0<n):(cI kd l).map (dfz st σ n)=cI kd l:=by
 unfold cI;rw[List.map_map];exact List.map_congr_left (fun x _=>vZ h)
theorem agv{l:List ByteArray}(h:0<n):(cS l).map (toA st σ fz n)=cS l:=by
 unfold cS;rw[List.map_map];exact List.map_congr_left (fun x _=>wm h)
theorem agw{l:List Bool}(h:0<n):(cB l).map (toA st σ fz n)=cB l:=by
 unfold cB;rw[List.map_map];exact List.map_congr_left (fun x _=>wm h)
theorem agx{l:List Int}(h:0<n):(cI kd l).map (toA st σ fz n)=cI kd l:=by
 unfold cI;rw[List.map_map];exact List.map_congr_left (fun x _=>wm h)
end
theorem Sub.mk2{σ:List Nat} {n m:Nat} {env env':List (Nat×AV)} {objs objs':List (Nat×Option aD)}(h:σ.Nodup∧σ.take m=List.range m∧qJ σ ⟨n,m,env,objs⟩ objs'∧D7 σ ⟨n,m,env,objs⟩ env'):
 Sub σ ⟨n,m,env',objs'⟩ ⟨n,m,env,objs⟩:=Sub.mk' h.2.2.2 h.2.2.1 h.1 h.2.1
end
section
def cAt:List Nat→Code→Code
 |0::p,.seq a _=>cAt p a
 |1::p,.seq _ b=>cAt p b
 |0::p,.block _ c=>cAt p c
 |0::p,.loop c=>cAt p c
 |0::p,.cond _ x _=>cAt p x
 |1::p,.cond _ _ y=>cAt p y
 |_,c=>c
attribute [push_cast] ZQ Ut ZR ZT ZU ZV jY kS
attribute [push_cast] ou idx Z7 Z8 Z9 aaa aab aac
attribute [push_cast] afj aad M4 aae aaf aag aah aai
attribute [push_cast] aaj aak aal UE UF UG UH UI
attribute [push_cast] UJ UK afk ajM ajN afl
attribute [push_cast] D7 qJ aa4 aa5 aa6 af0 af1
attribute [push_cast] af2 aa8 aa9 af4 aba Nv aau aav
attribute [push_cast] aaw aax afo afp afq aaz aaA afs
attribute [push_cast] Nf K4 Ry Rz RA RB U0 U1
attribute [push_cast] U2 RF RG U4 Jp K9 La K8
attribute [push_cast] akf w_u8 aey aez akg aa0 aa1 aa2
attribute [push_cast] aa3 R4 K6 K7 R5 Ns
attribute [push_cast] Nt Nu Nr aaZ Nl Nh Ni Nj
attribute [push_cast] Nk uy l7 agj agk agl abn abo agn wm PR PS abp
attribute [push_cast] agd age agh abk abl agf vZ PP PQ abm agb agc
attribute [push_cast] ags agt agu agv agw agx R7 abq Vv agr Vx
attribute [push_cast] aaK aaL afZ af8 afh g_no
attribute [push_cast] K5 eP eU mI M9 nQ jS inN
attribute [push_cast] af3 aa7 aga abh agi agm agp abr R8 abt Vw agq afr aay U3 RD
attribute [push_cast] af5 af6 abb abd af7 abe abf abg
attribute [push_cast] af9 abj Nw qK KU Jl UU uU
attribute [push_cast] Nn RH RI U7 RO nk afR afS
attribute [push_cast] afT RP Vr afz cS_get afD aaN aaQ
attribute [push_cast] afU afV afW aaT aaW afG afJ afM Vs afO afX
attribute [push_cast] cB_len afA cB_get afE aaO aaR aaU aaX
attribute [push_cast] afH afK afN Vt afP afY Nq afB
attribute [push_cast] afC afF aaP aaS aaV aaY afI afL
attribute [push_cast] uV Vu afQ lG ajU afv aaC e_ev
attribute [push_cast] e_ob ajV ajW e_pt afw afx ajX ajY
attribute [push_cast] ajZ e_sl aj0 aj1 e_cl aaD Va aj2
attribute [push_cast] afy RU Np RX aaE Vb aaF Vd
attribute [push_cast] Ve aaG Vf Vg Vh Vi Vj Vk Vl
attribute [push_cast] Vn aj3 Vm Vo Vp Vq RY RZ R3 aj4
attribute [push_cast] aj5 aj6 aj7 aj8 aj9 aka akb akc
attribute [push_cast] akd ake aaH aaI aaJ aaM U9 RS
attribute [push_cast] aft afu ajS ajT Go.Value.oneCell' List.map_cons List.map_nil List.nil_append
attribute [push_cast] List.cons_append List.append_nil Nat.add_zero Nat.zero_add Nat.mul_one Nat.zero_mul Int.toNat_natCast Int.toNat_zero
attribute [push_cast] if_true if_false Option.getD_some Option.getD_none Option.join_some Option.join_none Option.bind_some Option.map_some
attribute [push_cast] Option.some.injEq Prod.mk.injEq AV.val.injEq Value.int.injEq Value.bool.injEq Value.string.injEq AV.pt.injEq AV.ipt.injEq
attribute [push_cast] AV.sl.injEq AV.isl.injEq AV.agg.injEq AV.tup.injEq aD.cells.injEq exists_eq_left' exists_eq_left exists_and_left
attribute [push_cast] exists_and_right and_assoc true_and and_true and_self exists_const false_and and_false
attribute [push_cast] false_or or_false true_or or_true exists_false ne_eq not_true_eq_false not_false_eq_true
attribute [push_cast] List.getElem?_cons_zero List.getElem?_cons_succ List.length_cons List.length_nil List.length_map List.length_append List.length_set List.length_replicate
attribute [push_cast] List.all_cons List.all_nil Bool.and_true Bool.true_and Bool.and_self List.drop_zero List.take_succ_cons List.drop_succ_cons
attribute [push_cast] List.take_zero List.drop_nil List.take_nil List.set_cons_zero List.set_cons_succ Bool.not_true Bool.not_false Bool.false_eq_true
attribute [push_cast] Bool.true_eq_false decide_eq_true_eq decide_eq_false_iff_not Bool.not_eq_true' Bool.not_eq_false' false_implies true_implies Bool.not_eq_true
attribute [push_cast] Bool.not_eq_false Bool.not_not decide_true decide_false Int.natCast_zero Int.natCast_add Int.natCast_one eq_self
attribute [push_cast] List.mem_cons forall_eq_or_imp forall_eq List.not_mem_nil implies_true List.map_map Function.comp_def List.getD_cons_zero
attribute [push_cast] List.getD_cons_succ List.forall_mem_map List.forall_mem_append List.nodup_cons List.nodup_nil List.Nodup.eq_1 or_self not_or
attribute [push_cast] List.range_succ List.range_zero List.contains_cons List.contains_nil Bool.or_false Bool.false_or Bool.or_true Bool.true_or
attribute [push_cast] Option.isSome_some Option.isSome_none Nat.le_refl
end
section
open Go.ChangeShapes Go.WideShapes Go.ChangeAt Go.RowKit
def More(W W':World):Prop:=W'.os=W.os∧W'.output=W.output∧W.heap.size≤W'.heap.size∧∀b,b<W.heap.size→W'.heap[b]? =W.heap[b]?
theorem More.kept{W W':World}(h:More W W')(may:MemPlace→Prop):W.keptBut W' may:=by
 refine⟨h.1,h.2.1,fun i hi=>?_⟩
 rw[h.2.2.2 i hi]
 cases W.heap[i]? with
 |none=>rfl
 |some o=>cases o<;>simp
theorem ACall.law{P:Program} {f:FuncId} {args:List AV} {vs:Array Value}(h:ACall P f args [] 0 (.val (.bool true)) [])(w:World)(hs:vs.size=args.length)
 (hr:∀j (h:j<args.length),Rep w (fun b=>b<w.heap.size) (fun _=>none) (vs.getD j undef) args[j]) (hl:Laid (fun b=>b<w.heap.size) w):
 Calls P f vs w fun e w'=>e= .returned (.bool true)∧More w w':=by
 have:=h w (fun b=>b<w.heap.size) (fun _=>False) (fun _=>none) vs hs hr (fun b hb=>⟨hb,id⟩) (fun b hb=>hb.elim) (fun j h=>by simp at h) (fun j p h=>by cases h) (fun i j b s s' h=>by cases h) (Hid.none (fun _ _ _=>by simp)) hl
 refine this.mono fun e w'=>?_
 rintro⟨v,ρ',J',rfl,hv,_,hk,_⟩
 refine⟨?_,hk.os,hk.output,hk.size,fun b hb=>hk.block b hb id⟩
 cases hv;rfl
theorem Vy{H:Type} {enc:TypeId×Value→H} {P:Program} {f:Func} {s:ChangeSpec} {apart fresh handsOn:Bool} {W W':World} {args:Array Value} {v:Value} {ds gs:List (DataW H)} {before pa pv:List MemPlace}
 (hW:DataW.Whole enc P f.params.toList s.vars apart W args.toList ds gs before)
 (hres:∀(b:Nat) (sp:Nat→Bool) (hd:Bool),DataW.TrodAll enc P W' b sp hd f.resultTypes.toList (v.resultList f.resultTypes.size) (s.fn H (ds++gs)).results [])
 (hargs:∀sp:Nat→Bool,(∀p∈before,sp p.block=true)→DataW.TrodAll enc P W' 0 sp true f.params.toList args.toList (s.fn H (ds++gs)).args pa)
 (hvars:∀sp:Nat→Bool,(∀p∈before,sp p.block=true)→DataW.TrodVars enc P W' sp s.vars (s.fn H (ds++gs)).vars pv)
 (hm:More W W'):s.post enc P f apart fresh handsOn false W args v W':=by
 have hold:∀p∈before,(fun b=>decide (b<W.heap.size)) p.block=true:=fun p hp=>by simpa using hW.lt p hp
 exact⟨ds,gs,before,[],pa,pv,hW,hres _ _ _,hargs _ hold,hvars _ hold,hm.kept _,fun h=>by cases h⟩
end
section
open Go.ChangeShapes Go.WideShapes Go.ChangeAt Go.RowKit
def mK(P:Program):Nat→TypeId→Bool
 |0,_=>false
 |n+1,t=>match P.underlying t with
  |some .bool=>true
  |some (.int _)=>true
  |some .string=>true
  |some (.slice e)=>mK P n e
  |some (.struct fs)=>fs.toList.all fun f=>mK P n f.type
  |_=>false
def dO(P:Program):Nat→TypeId→List AV→Prop
 |0,_,_=>False
 |n+1,t,as=>match P.underlying t with
  |some .bool=>∃b,as=[.val (.bool b)]
  |some (.int k)=>∃m,as=[.val (.int k m)]∧(Lit.int k m).wf=true
  |some .string=>∃s:ByteArray,as=[.val (.string s)]∧s.size≤reachBytes
  |some (.slice e)=>as=[.isl true [] 0]∨∃xs:List (List AV),as=[.isl false xs.flatten xs.length]∧(∀x∈xs,x.length=P.cellsOf e∧dO P n e x)∧xs.length*P.bytesOf e≤reachBytes
  |some (.struct fs)=>∃xs:List (List AV),as=xs.flatten∧xs.length=fs.size∧∀(i:Nat) (f:Field) (x:List AV),fs[i]? =some f→xs[i]? =some x→dO P n f.type x
  |_=>False
def Good(w:World)(cs:List Value)(as:List AV):Prop:=as.length=cs.length∧∀(j:Nat) (x:AV),as[j]? =some x→(cs.getD j undef).oneCell'=true∧Rep w (fun b=>b<w.heap.size) (fun _=>none) (cs.getD j undef) x
theorem Good.one{w:World} {v:Value} {x:AV}(h1:v.oneCell'=true)(h2:Rep w (fun b=>b<w.heap.size) (fun _=>none) v x):Good w [v] [x]:=by
 refine⟨rfl,fun j y hj=>?_⟩
 cases j with
 |zero=>simp at hj;subst hj;exact⟨h1,h2⟩
 |succ j=>simp at hj
theorem Good.nil{w:World}:Good w [] []:=⟨rfl,fun j x h=>by simp at h⟩
theorem Good.append{w:World} {cs ds:List Value} {as bs:List AV}(h:Good w cs as)(k:Good w ds bs):Good w (cs++ds) (as++bs):=by
 refine⟨by rw[List.length_append,List.length_append,h.1,k.1],fun j x hx=>?_⟩
 by_cases hj:j<as.length
 ·rw[List.getElem?_append_left hj] at hx
  have:=h.2 j x hx
  rw[List.getD_eq_getElem?_getD,List.getElem?_append_left (by rw[←h.1];exact hj),←List.getD_eq_getElem?_getD]
  exact this
 ·rw[List.getElem?_append_right (by omega)] at hx
  have:=k.2 _ x hx
  rw[List.getD_eq_getElem?_getD,List.getElem?_append_right (by rw[←h.1];omega),←List.getD_eq_getElem?_getD,←h.1]
  exact this
theorem Vz{α:Type} {ce:Nat} {xs:List (List α)}(h:∀x∈xs,x.length=ce):xs.flatten.length=xs.length*ce:=by
 induction xs with
 |nil=>simp
 |cons x xs ih=>rw[List.flatten_cons,List.length_append,ih (fun y hy=>h y (List.mem_cons_of_mem _ hy)),h x (List.mem_cons_self ..),List.length_cons,Nat.add_mul];omega
theorem VA{α:Type} {ce:Nat} {xs:List (List α)}(h:∀x∈xs,x.length=ce){i r:Nat} {x:List α}(hi:xs[i]? =some x)(hr:r<ce):xs.flatten[i*ce+r]? =x[r]? :=by
 induction xs generalizing i with
 |nil=>simp at hi
 |cons y xs ih=>
  have hy:=h y (List.mem_cons_self ..)
  cases i with
  |zero=>simp at hi;subst hi;rw[List.flatten_cons,List.getElem?_append_left (by omega)];simp
  |succ i=>
   rw[List.flatten_cons,List.getElem?_append_right (by rw[hy,Nat.add_mul];omega),hy,show(i+1)*ce+r-ce=i*ce+r by rw[Nat.add_mul];omega]
   exact ih (fun z hz=>h z (List.mem_cons_of_mem _ hz)) (by simpa using hi)
theorem qO{α β:Type} {R:α→β→Prop}:∀(l:List α),(∀(i:Nat) (x:α),l[i]? =some x→∃y,R x y)→∃ys:List β,ys.length=l.length∧∀(i:Nat) (x:α) (y:β),l[i]? =some x→ys[i]? =some y→R x y
 |[],_=>⟨[],rfl,fun i x y h=>by simp at h⟩
 |a::l,h=>by
  obtain⟨ys,h1,h2⟩:=qO l (fun i x hx=>h (i+1) x (by simpa using hx))
  obtain⟨y,hy⟩:=h 0 a rfl
  refine⟨y::ys,by simp[h1],fun i x z hx hz=>?_⟩
  cases i with
  |zero=>simp at hx hz;subst hx;subst hz;exact hy
  |succ i=>exact h2 i x z (by simpa using hx) (by simpa using hz)
theorem lH{H:Type} {P:Program} {e:TypeId} {d:DataW H} {k:Nat}:∀{l:List (DataW H)},d∈l→k∈d.weights P e→k∈DataW.weightsAll P e l
 |x::l,hd,hk=>by
  rw[DataW.weightsAll]
  rcases List.mem_cons.1 hd with rfl|hd
  ·exact List.mem_append_left _ hk
  ·exact List.mem_append_right _ (lH hd hk)
theorem aO{H:Type} {P:Program} {k:Nat}:∀{ts:List TypeId} {l:List (DataW H)} {i:Nat} {t:TypeId} {d:DataW H},ts[i]? =some t→l[i]? =some d→k∈d.weights P t→k∈DataW.weightsEach P ts l
 |t::ts,d::l,0,t',d',ht,hd,hk=>by simp at ht hd;subst ht;subst hd;rw[DataW.weightsEach];exact List.mem_append_left _ hk
 |t::ts,d::l,i+1,t',d',ht,hd,hk=>by rw[DataW.weightsEach];exact List.mem_append_right _ (aO (by simpa using ht) (by simpa using hd) hk)
 |[],_,_,_,_,ht,_,_=>by simp at ht
 |_::_,[],_,_,_,_,hd,_=>by simp at hd
section
variable {H:Type} {enc:TypeId×Value→H} {P:Program} {W:World} {held:Bool}
theorem AR(g:Nat→Nat):∀(fs:List Field) (k0:Nat) (cs:List Value) (R:Field→List AV→Prop),
 (∀(i:Nat) f,fs[i]? =some f→f.offset=k0+((fs.take i).map fun f=>P.cellsOf f.type).sum)→
 (∀(i:Nat) f,fs[i]? =some f→∃as,R f as∧Good W ((cs.drop f.offset).take (P.cellsOf f.type)) as)→
 ∃xs:List (List AV),xs.length=fs.length∧(∀(i:Nat) f x,fs[i]? =some f→xs[i]? =some x→R f x)∧Good W ((cs.drop k0).take ((fs.map fun f=>P.cellsOf f.type).sum)) xs.flatten
 |[],k0,cs,R,_,_=>⟨[],rfl,fun i f x h=>by simp at h,by simpa using Good.nil⟩
 |f::fs,k0,cs,R,h1,h2=>by
  obtain⟨as,hR,hG⟩:=h2 0 f rfl
  have e0:=h1 0 f rfl
  simp at e0
  obtain⟨xs,k1,k2,k3⟩:=AR g fs (k0+P.cellsOf f.type) cs R (fun i f' hf=>by
   have:=h1 (i+1) f' (by simpa using hf)
   rw[List.take_succ_cons,List.map_cons,List.sum_cons] at this;omega) (fun i f' hf=>h2 (i+1) f' (by simpa using hf))
  refine⟨as::xs,by simp[k1],fun i f' x hf hx=>?_,?_⟩
  ·cases i with
   |zero=>simp at hf hx;subst hf;subst hx;exact hR
   |succ i=>exact k2 i f' x (by simpa using hf) (by simpa using hx)
  ·rw[e0] at hG
   have:=hG.append k3
   rw[List.flatten_cons,List.map_cons,List.sum_cons,List.take_add,List.drop_drop]
   exact this
theorem yh(K:Kids P (· <P.types.size))(hz:∀t e,t<P.types.size→P.underlying t=some (.slice e)→0<P.cellsOf e):∀(m:Nat) (t:TypeId) (cs:List Value) (x:DataW H×List MemPlace) (fuel:Nat),t<P.types.size→mK P m t=true→
 DataW.trod enc P W 0 (fun _=>true) held fuel t cs=some x→(∀k∈x.1.weights P t,k≤reachBytes)→∃as,dO P m t as∧Good W cs as:=by
 intro m
 induction m with
 |zero=>intro t cs x fuel _ h;simp[mK] at h
 |succ m ih=>
  intro t cs x fuel ht hp h hw
  unfold mK at hp
  split at hp
  ·rename_i hu
   obtain⟨b,rfl,_⟩:=DataW.trod_bool hu h
   exact⟨[.val (.bool b)],by unfold dO;rw[hu];exact⟨b,rfl⟩,Good.one rfl (.val _)⟩
  ·rename_i k hu
   obtain⟨n,rfl,_,hwf⟩:=DataW.trod_int hu h
   exact⟨[.val (.int k n)],by unfold dO;rw[hu];exact⟨n,rfl,hwf⟩,Good.one rfl (.val _)⟩
  ·rename_i hu
   obtain⟨s,rfl,rfl,_⟩:=DataW.trod_string hu h
   have:=hw s.data.toList.length (by rw[DataW.weights];exact List.mem_singleton.2 rfl)
   refine⟨[.val (.string s)],?_,Good.one rfl (.val _)⟩
   unfold dO;rw[hu];exact⟨s,rfl,by rw[Array.length_toList] at this;exact this⟩
  ·rename_i e hu
   rcases DataW.trod_slice hu h with⟨rfl,rfl⟩|⟨a,len,cap,elems,rest,n,rfl,rfl,rfl,_,hl,hc,hlen,hel,_,_⟩
   ·exact⟨[.isl true [] 0],by unfold dO;rw[hu];exact .inl rfl,Good.one rfl .inil⟩
   ·have he:=K.slice ht hu
    have hpos:=hz t e ht hu
    have hwe:∀y∈elems,∀k∈y.1.weights P e,k≤reachBytes:=fun y hy k hk=>hw k (by
     simp only[DataW.weights,hu]
     exact List.mem_cons_of_mem _ (List.mem_append_left _ (lH (List.mem_map.2 ⟨y,hy,rfl⟩) hk)))
    have hwl:(elems.length+rest.length)*P.bytesOf e≤reachBytes:=hw _ (by simp only[DataW.weights,hu,List.length_map];exact List.mem_cons_self ..)
    have each:∀(i:Nat) (y:Nat),(List.range len)[i]? =some y→∃z:List Value×List AV,W.cells? 0 (a.add (y*P.cellsOf e)) (P.cellsOf e)=some z.1∧dO P m e z.2∧Good W z.1 z.2:=by
     intro i y hy
     have hi:y<len:=by have:=List.mem_of_getElem? hy;simpa using this
     have h1:=hel y hi
     obtain⟨q,hq⟩:∃q,elems[y]? =some q:=⟨_,List.getElem?_eq_getElem (by omega)⟩
     rw[hq,Option.bind_eq_some_iff] at h1
     obtain⟨cs',hcs,htr⟩:=h1
     obtain⟨as,h2,h3⟩:=ih e cs' q n he hp htr (hwe q (List.mem_of_getElem? hq))
     exact⟨⟨cs',as⟩,hcs,h2,h3⟩
    obtain⟨zs,hz1,hz2⟩:=qO _ each
    rw[List.length_range] at hz1
    have hzi:∀(i:Nat) (z:List Value×List AV),zs[i]? =some z→W.cells? 0 (a.add (i*P.cellsOf e)) (P.cellsOf e)=some z.1∧dO P m e z.2∧Good W z.1 z.2:=fun i z hi=>by
     have hil:i<len:=by have:=(List.getElem?_eq_some_iff.1 hi).1;omega
     exact hz2 i i z (by simp[hil]) hi
    have hxl:∀x∈zs.map (·.2),x.length=P.cellsOf e:=by
     intro x hx
     obtain⟨z,hz',rfl⟩:=List.mem_map.1 hx
     obtain⟨i,hi⟩:=List.mem_iff_getElem?.1 hz'
     obtain⟨h1,_,h3⟩:=hzi i z hi
     rw[h3.1,(World.cells?_some h1).2.1]
    refine⟨[.isl false (zs.map (·.2)).flatten (zs.map (·.2)).length],?_,Good.one rfl ?_⟩
    ·unfold dO;rw[hu]
     refine .inr ⟨zs.map (·.2),rfl,fun x hx=>⟨hxl x hx,?_⟩,?_⟩
     ·obtain⟨z,hz',rfl⟩:=List.mem_map.1 hx
      obtain⟨i,hi⟩:=List.mem_iff_getElem?.1 hz'
      exact(hzi i z hi).2.1
     ·refine Nat.le_trans (Nat.mul_le_mul_right _ ?_) hwl
      rw[List.length_map];omega
    ·have hln:(zs.map (·.2)).length=len:=by simp[hz1]
     rw[hln]
     by_cases h0:len=0
     ·have:zs=[]:=List.length_eq_zero_iff.1 (by omega)
      subst this;subst h0;exact .iemp a cap
     ·have hcell:∀(i r:Nat),i<len→r<P.cellsOf e→∃z v x,zs[i]? =some z∧z.1[r]? =some v∧z.2[r]? =some x∧W.cell? ((a.add (i*P.cellsOf e)).add r)=some v∧v.oneCell'=true∧Rep W (fun b=>b<W.heap.size) (fun _=>none) v x:=by
       intro i r hi hr
       obtain⟨z,hz'⟩:∃z,zs[i]? =some z:=⟨_,List.getElem?_eq_getElem (by omega)⟩
       obtain⟨h1,_,h3⟩:=hzi i z hz'
       obtain⟨_,h4,h5⟩:=World.cells?_some h1
       obtain⟨v,hv⟩:∃v,z.1[r]? =some v:=⟨_,List.getElem?_eq_getElem (by omega)⟩
       obtain⟨x,hx⟩:∃x,z.2[r]? =some x:=⟨_,List.getElem?_eq_getElem (by rw[h3.1];omega)⟩
       obtain⟨g1,g2⟩:=h3.2 r x hx
       have e1:z.1.getD r undef=v:=by rw[List.getD_eq_getElem?_getD,hv];rfl
       rw[e1] at g1 g2
       exact⟨z,v,x,hz',hv,hx,by rw[h5 r hr,hv],g1,g2⟩
      obtain⟨b,off,sp⟩:=a
      obtain⟨z0,v0,x0,_,_,_,hc0,_⟩:=hcell 0 0 (by omega) hpos
      have hsp:sp=none:=by
       cases sp with
       |none=>rfl
       |some k=>
        have e0:((⟨b,off,some k⟩:Addr).add (0*P.cellsOf e)).add 0=⟨b,off,some k⟩:=by simp[Addr.add]
        rw[e0] at hc0
        unfold World.cell? at hc0
        simp only[Option.isSome_some,if_true] at hc0
        split at hc0<;>simp at hc0
      subst hsp
      have hbl:b<W.heap.size:=by
       rw[Addr.add_lit,Addr.add_lit] at hc0
       exact World.block_lt_of_cell? W _ hc0
      have hflen:=Vz hxl
      rw[hln] at hflen
      have hdm:∀j,j<(zs.map (·.2)).flatten.length→∃z v x,zs[j/P.cellsOf e]? =some z∧z.1[j%P.cellsOf e]? =some v∧(zs.map (·.2)).flatten[j]? =some x∧W.cell? ⟨b,off+j,none⟩=some v∧v.oneCell'=true∧Rep W (fun b=>b<W.heap.size) (fun _=>none) v x:=by
       intro j hj
       have hi:j/P.cellsOf e<len:=(Nat.div_lt_iff_lt_mul hpos).2 (by rw[←hflen];exact hj)
       have hr:j%P.cellsOf e<P.cellsOf e:=Nat.mod_lt _ hpos
       obtain⟨z,v,x,g1,g2,g3,g4,g5,g6⟩:=hcell _ _ hi hr
       have hj':j/P.cellsOf e*P.cellsOf e+j%P.cellsOf e=j:=by rw[Nat.mul_comm];exact Nat.div_add_mod _ _
       refine⟨z,v,x,g1,g2,?_,?_,g5,g6⟩
       ·rw[←g3,←VA hxl (i:=j/P.cellsOf e) (by simp[g1]) hr,hj']
       ·rw[←g4,Addr.add_lit,Addr.add_lit];rw[show off+j/P.cellsOf e*P.cellsOf e+j%P.cellsOf e=off+j by omega]
      have hu':∀j,j<(zs.map (·.2)).flatten.length→((W.cell? ⟨b,off+j,none⟩).getD undef).oneCell'=true∧W.cell? ⟨b,off+j,none⟩=some ((W.cell? ⟨b,off+j,none⟩).getD undef)∧
       ∀h:j<(zs.map (·.2)).flatten.length,Rep W (fun b=>b<W.heap.size) (fun _=>none) ((W.cell? ⟨b,off+j,none⟩).getD undef) (zs.map (·.2)).flatten[j]:=by
       intro j hj
       obtain⟨z,v,x,_,_,g3,g4,g5,g6⟩:=hdm j hj
       rw[g4]
       refine⟨g5,rfl,fun h=>?_⟩
       rw[List.getElem?_eq_getElem h] at g3
       rw[Option.some.inj g3];exact g6
      exact .isl b off len cap _ (fun j=>(W.cell? ⟨b,off+j,none⟩).getD undef) (fun _=>⟨hbl,hbl⟩) hl (fun j hj=>(hu' j hj).1) (fun j hj=>(hu' j hj).2.1) (fun j hj=>(hu' j hj).2.2 hj)
  ·rename_i fs hu
   obtain⟨xs,n,rfl,rfl,hcl,hxl,hf⟩:=DataW.trod_struct hu h
   obtain⟨k1,k2,k3⟩:=K.struct ht hu
   have hone:∀(i:Nat) f,fs.toList[i]? =some f→∃as,dO P m f.type as∧Good W ((cs.drop f.offset).take (P.cellsOf f.type)) as:=by
    intro i f hfi
    have hfa:fs[i]? =some f:=by simpa using hfi
    have h1:=hf i f hfa
    obtain⟨q,hq⟩:∃q,xs[i]? =some q:=⟨_,List.getElem?_eq_getElem (by rw[hxl];exact(Array.getElem?_eq_some_iff.1 hfa).1)⟩
    rw[hq] at h1
    refine ih f.type _ q n (k1 f (List.mem_of_getElem? hfi)) (List.all_eq_true.1 hp f (List.mem_of_getElem? hfi)) h1 (fun k hk=>hw k ?_)
    simp only[DataW.weights,hu]
    exact aO (i:=i) (by rw[List.getElem?_map,hfi];rfl) (by rw[List.getElem?_map,hq];rfl) hk
   obtain⟨ys,g1,g2,g3⟩:=AR (W:=W) (P:=P) id fs.toList 0 cs (fun f as=>dO P m f.type as) (fun i f hfi=>by rw[k3 i f hfi];simp) hone
   refine⟨ys.flatten,?_,?_⟩
   ·unfold dO;rw[hu]
    exact⟨ys,rfl,by simpa using g1,fun i f x hfi hx=>g2 i f x (by simpa using hfi) hx⟩
   ·rw[←k2,List.drop_zero,←hcl,List.take_length] at g3
    exact g3
  ·cases hp
end
end
section
open Go.ChangeShapes Go.WideShapes Go.ChangeAt Go.RowKit
section
variable {H:Type} {enc:TypeId×Value→H} {P:Program} {W W':World}
theorem TrodAll.carry(hm:More W W'):∀{ts:List TypeId} {vs:List Value} {ds:List (DataW H)} {ps:List MemPlace},(∀p∈ps,p.block<W.heap.size)→DataW.TrodAll enc P W 0 (fun _=>true) true ts vs ds ps→DataW.TrodAll enc P W' 0 (fun _=>true) true ts vs ds ps
 |[],[],[],_,_,h=>h
 |t::ts,v::vs,d::ds,ps,hlt,⟨p,q,⟨n,h1⟩,h2,e⟩=>by
  refine⟨p,q,⟨n,DataW.trod_carry n t _ (d,p) h1 (fun x hx=>?_)⟩,TrodAll.carry hm (fun x hx=>hlt x (by rw[e];exact List.mem_append_right _ hx)) h2,e⟩
  have hb:=hm.2.2.2 x.block (hlt x (by rw[e];exact List.mem_append_left _ hx))
  cases x with
  |cell b off=>exact World.cell?_of_block (w:=W) (a:=⟨b,off,none⟩) hb
  |map b=>exact hb
end
end
section
section
variable {P:Program} {st:St} {nid:Nat} {dst:Option Nat} {ty:TypeId} {pos:String} {af:Array Edge} {g:Option (Nat×Bool)}
theorem Gw(t:TypeId)(x y:Operand)(e:TypeId)(id off n es m:Nat)(cs cells:List AV)(he:jc P t=some e)(hs:siz P e=some es)(hp:0<es)
 (hx:st.op x= .sl id off n es) (ho:st.ob id=some (.cells cs e)) (hy:gI st (st.op y)=some (cells,m)) (hl:cells.length=m*es) (hfit:off+(n+m)*es≤cs.length):
 OpT P ⟨dst,.call ⟨.builtin .append,#[x,y],#[t,t]⟩,ty,pos,af,g⟩ nid 0 st ⟨.sl id off (n+m) es,[(id,some (.cells (spl cs (off+n*es) cells) e))]⟩:=OpT.modify ho fun c ρ D J a w b s h hρ hob hJ=>by
 have e1:=h.op x;rw[hx] at e1
 obtain⟨i,hi,his⟩:∃i,P.info? e=some i∧i.size=es:=by
  unfold siz at hs
  cases hi:P.info? e with
  |none=>simp[hi] at hs
  |some i=>exact⟨i,rfl,by simpa[hi] using hs⟩
 generalize hv:a.eval x=v at e1
 cases e1 with
 |sl b' s' _ _ _ _ cap hρ' hc hsz=>
  rw[hρ] at hρ';cases hρ'
  have hcs:cs.length≤s:=by obtain⟨arr,_,has,hcr⟩:=hob;have:=hcr.1;omega
  have hroom:n+m≤cap:=by
   have h1:(n+m)*es≤cap*es:=by omega
   exact Nat.le_of_mul_le_mul_right h1 hp
  have hpos:off+n*es+cells.length≤cs.length:=by rw[hl];rw[Nat.add_mul] at hfit;omega
  rcases vR h (h.op y) hy hl with⟨hy0,h0,hc0⟩|⟨ad,cp,news,hyv,hmc,hnl,hnews,hone,hrep⟩
  ·subst h0;subst hc0
   refine⟨.value (.slice (some ⟨b,off,none⟩) (n+0) cap),w,_,?_,.inl rfl,rfl,rfl,rfl,rfl,fun _ _=>rfl,fun hi'=>⟨.sl b s id off _ es cap hρ (by omega) hsz,?_⟩⟩
   ·simp[execOp,resolve,invoke,builtin,hv,hy0,Builtin.append_,run_underlying (bi he),sizeOf,typeInfo,hi,Builtin.lenOf,hc,Builtin.firstCells,storeCells]
   ·have:spl cs (off+n*es) []=cs:=by unfold spl;simp
    rw[this];exact hob
  ·obtain⟨w',hst,k1,k2,k3,k4,k5,k6⟩:=Rm (P:=P) (off:=off+n*es) (avs:=cells) hob (by rw[hnl,hl]) hone hrep hpos
   have hfc:=run_firstCells_some (P:=P) w i.size m ad m cp news (by rw[his];exact hnl) hnews
   refine⟨.value (.slice (some ⟨b,off,none⟩) (n+m) cap),w',_,?_,.inl rfl,k1,k2,k3,k4,k5,fun hi'=>⟨.sl b s id off _ es cap hρ hroom hsz,k6 hi'⟩⟩
   subst his
   simp[execOp,resolve,invoke,builtin,hv,hyv,Builtin.append_,run_underlying (bi he),sizeOf,typeInfo,hi,Builtin.lenOf,hroom,hfc,Addr.add_lit,hst]
theorem Js(f:FuncId)(caps:Array Operand):OpT P ⟨dst,.makeFunc (.func f) #[] caps,ty,pos,af,g⟩ nid 0 st ⟨.fn f (caps.toList.map fun x=>st.op x),[]⟩:= .pure fun c ρ D J a w h=>by
 refine⟨.func (.func f) #[] (caps.map a.eval),by simp[execOp,Instr.makeFunc],.fn f _ _ (by simp) (fun j hj=>?_)⟩
 have hj':j<caps.size:=by simpa using hj
 have:=h.op caps[j]
 simpa[Array.getD,hj'] using this
theorem Ny{f:FuncId} {x0:Operand} {caps:List AV} {xs:Array Operand} {tys:Array TypeId}
 {cargs:List AV} {cobjs:List aD} {m:Nat} {r:AV} {cobjs':List aD} (hx0:st.op x0= .fn f caps) (hc:ACall P f cargs cobjs m r cobjs') (σ:List Nat) (fz:Bool) (hp:sM P f=true) (hm:m≤cobjs.length) (hm':m≤cobjs'.length)
 (hσ:σ.length=cobjs.length) (hnd:σ.Nodup) (hlt:∀i∈σ,i<nid)
 (hob:∀j (h:j<cobjs.length),∃o,st.ob (σ.getD j 0)=some o∧cobjs[j]=toO st σ fz o)
 (hargs:cargs=((xs.toList.map fun x=>st.op x)++caps).map (toA st σ fz 8))
 (hfz:fz=true→noImm r∧∀j (h:j<cobjs'.length),lF cobjs'[j]) (htr:trs cobjs'=trs cobjs):
 OpT P ⟨dst,.call ⟨.value x0,xs,tys⟩,ty,pos,af,g⟩ nid (cobjs'.length-m) st ⟨ren (eU σ m nid) r,eP σ m nid cobjs'⟩:=by
 refine HV (xvs:=(xs.toList.map fun x=>st.op x)++caps) hc σ fz hm hm' (fun c ρ D J a w hs=>?_) hσ hnd hlt hob hargs hfz htr
 have h0:=hs.op x0;rw[hx0] at h0
 generalize hv:a.eval x0=v at h0
 cases h0 with
 |fn _ ws _ hsz hcap=>
  refine⟨xs.map a.eval++ws,?_,by simp[hsz],fun j hj=>?_⟩
  ·simp[execOp,resolve,hv,Deferred.ofValue,invoke,KO hp]
  ·by_cases hj1:j<xs.size
   ·have:=hs.op xs[j]
    have e1:(xs.map a.eval++ws).getD j undef=a.eval xs[j]:=by simp[Array.getD,Array.getElem_append,hj1];intro h;omega
    rw[e1,List.getElem_append_left (by simpa using hj1)]
    simpa using this
   ·have hj2:j-xs.size<caps.length:=by simp at hj;omega
    have:=hcap (j-xs.size) hj2
    have e1:(xs.map a.eval++ws).getD j undef=ws.getD (j-xs.size) undef:=by
     have h3:j<xs.size+ws.size:=by omega
     have h4:j-xs.size<ws.size:=by omega
     simp[Array.getD,Array.getElem_append,hj1,h3,h4]
    rw[e1,List.getElem_append_right (by simpa using Nat.le_of_not_lt hj1)]
    simpa using this
variable {K:Nat→Eff→Prop}
def abu:AV→Option (FuncId×List AV)
 | .fn f cs=>some (f,cs)
 |_=>none
theorem abv{x:AV} {p:FuncId×List AV}(h:abu x=some p):x= .fn p.1 p.2:=by
 cases x<;>simp[abu] at h
 subst h;rfl
theorem e_fn{f:FuncId} {cs:List AV}:abu (.fn f cs)=some (f,cs):=rfl
theorem jg(f:FuncId)(caps:Array Operand)(h:K 0 ⟨.fn f (caps.toList.map fun x=>st.op x),[]⟩):AO P ⟨dst,.makeFunc (.func f) #[] caps,ty,pos,af,g⟩ nid st K:=⟨_,_,Js f caps,h⟩
theorem eH{e:TypeId} {es:Nat}(t:TypeId)(x y:Operand) [he:d9 P t e] [hs:gq P e es]
 (h:aH (Gv (st.op x)) fun p=>aH (Jq (st.ob p.1)) fun o=>aH (gI st (st.op y)) fun q=>p.2.2.2=es∧o.2=e∧0<es∧q.1.length=q.2*es∧p.2.1+(p.2.2.1+q.2)*es≤o.1.length∧
   K 0 ⟨.sl p.1 p.2.1 (p.2.2.1+q.2) es,[(p.1,some (.cells (spl o.1 (p.2.1+p.2.2.1*es) q.1) e))]⟩):
 AO P ⟨dst,.call ⟨.builtin .append,#[x,y],#[t,t]⟩,ty,pos,af,g⟩ nid st K:=by
 obtain⟨⟨id,off,n,es'⟩,h1,⟨cs,e'⟩,h2,⟨cells,m⟩,h3,h4,h5,h6,h7,h8,h9⟩:=h
 dsimp only at h4 h5 h6 h7 h8 h9
 subst h4;subst h5
 exact⟨_,_,Gw t x y _ id off n _ m cs cells he.out hs.out h6 (nT h1) (sQ h2) h3 h7 h8,h9⟩
theorem bq(f:FuncId){x0:Operand} {xs:Array Operand} {tys:Array TypeId} [hp:mW P f](σ:List Nat)(m:Nat)(fz:Bool)
 (h:aH (abu (st.op x0)) fun q=>q.1=f∧K5 st σ∧m≤σ.length∧σ.Nodup∧(∀i∈σ,i<nid)∧
   ∀G:List AV→List aD→Prop,(∀as' os,U5 P f σ m fz nid K as' os→G as' os)→G (((xs.toList.map fun x=>st.op x)++q.2).map (toA st σ fz 8)) (σ.map (H7 st σ fz))):
 AO P ⟨dst,.call ⟨.value x0,xs,tys⟩,ty,pos,af,g⟩ nid st K:=by
 obtain⟨⟨f',caps⟩,h0,rfl,h2,h3,h4,h5,h6⟩:=h
 dsimp only at h0 h2 h3 h4 h5 h6
 obtain⟨r,cobjs',hc,hm,hfz,htr,hK⟩:=h6 _ (fun _ _ h=>h)
 exact⟨_,_,Ny (abv h0) hc σ fz hp.out (by simpa using h3) hm (by simp) h4 h5 (yg h2) rfl (fun hf=>⟨(hfz hf).1,fun j hj=>(hfz hf).2 _ (List.getElem_mem hj)⟩) htr,hK⟩
theorem Frz.cut{n m:Nat} {env:List (Nat×AV)} {objs:List (Nat×Option aD)}(id k:Nat){cs:List AV} {e:TypeId}(h1':(⟨n,m,env,objs⟩:St).ob id=some (.cells cs e)):Frz ⟨n,m,env,objs⟩ ⟨n,m,env,(id,some (.cells (cs.take k) e))::objs⟩:=fun c ρ D J a w hs=>by
 have hob:∀i o,(⟨n,m,env,(id,some (.cells (cs.take k) e))::objs⟩:St).ob i=some o→(i=id∧o= .cells (cs.take k) e)∨(⟨n,m,env,objs⟩:St).ob i=some o:=by
  intro i o hi
  simp only[St.ob,bg] at hi
  split at hi
  ·rename_i hid;simp at hi;exact .inl ⟨hid,hi.symm⟩
  ·exact .inr hi
 have hex:∀i o,(⟨n,m,env,(id,some (.cells (cs.take k) e))::objs⟩:St).ob i=some o→∃o',(⟨n,m,env,objs⟩:St).ob i=some o':=by
  intro i o hi
  rcases hob i o hi with⟨rfl,_⟩|hi
  ·exact⟨_,h1'⟩
  ·exact⟨_,hi⟩
 refine⟨J,hs.defers,hs.tmps,hs.env,fun i o ho=>?_,fun i i' o o' b s s' g1 g2=>?_,hs.dom,hs.jok,hs.jlt,hs.ilt,hs.pin,hs.kept,hs.hid_of (fun i=>i) (fun i o ho=>?_) (fun _ _ _ _ _ _ _ _ e=>e) (fun _ h=> .inl h),hs.laid⟩
 ·rcases hob i o ho with⟨rfl,rfl⟩|ho
  ·obtain⟨b,s,k1,⟨arr,k2,k3,k4⟩,k5⟩:=hs.obj _ _ h1'
   refine⟨b,s,k1,⟨arr,k2,k3,?_,fun j hj=>?_,k4.2.2⟩,k5⟩
   ·have:=k4.1;simp;omega
   ·have hj':j<cs.length:=by simp at hj;omega
    have:=k4.2.1 j hj'
    simpa using this
  ·exact hs.obj i o ho
 ·obtain⟨o1,q1⟩:=hex i o g1
  obtain⟨o2,q2⟩:=hex i' o' g2
  exact hs.inj i i' o1 o2 b s s' q1 q2
 ·rcases hob i o ho with⟨rfl,rfl⟩|ho
  ·exact⟨_,h1',fun _ _ e=>(by cases e),rfl⟩
  ·exact⟨o,ho,fun _ _ e=>e,rfl⟩
theorem Ends.cut{fn:Func} {objs0:List aD} {m0:Nat} {r:AV} {objs':List aD} {e:Exit} {n m:Nat} {env:List (Nat×AV)} {objs:List (Nat×Option aD)}(id k:Nat)
 (h:aH (Jq (bg objs id).join) fun o=>∀K:List (Nat×Option aD)→Prop,(∀objs'',Ends P fn objs0 m0 r objs' e ⟨n,m,env,objs''⟩→K objs'')→K ((id,some (.cells (o.1.take k) o.2))::objs)):Ends P fn objs0 m0 r objs' e ⟨n,m,env,objs⟩:=by
 obtain⟨⟨cs,e'⟩,h1,h2⟩:=h
 obtain⟨he,st',σ,hf,h⟩:=h2 (fun objs''=>Ends P fn objs0 m0 r objs' e ⟨n,m,env,objs''⟩) (fun _ h=>h)
 exact⟨he,st',σ,(Frz.cut id k (n:=n) (m:=m) (env:=env) (sQ h1)).trans hf,h⟩
end
end
section
def jh(P:Program):Nat→List Field→Option (List IntKind)
 |_,[]=>some []
 |i,f::fs=>match kJ P f.type,jh P (i+1) fs with
  |some k,some ks=>if f.offset=i∧f.name≠ "_" then some (k::ks) else none
  |_,_=>none
def uW(P:Program)(t:TypeId):Option (List IntKind):=match P.underlying t with
 |some (.struct fs)=>if P.stoodInHeld t then none else jh P 0 fs.toList
 |some (.array n e)=>match kJ P e,siz P e with
  |some k,some 1=>some (List.replicate n k)
  |_,_=>none
 |_=>none
def jA(ks:List IntKind)(a:List Int):List Value:=List.zipWith (fun k n=> .int k n) ks a
theorem lI{P:Program} {w:World} {t:TypeId} {k:IntKind}(h:kJ P t=some k){cs:Array Value} {i:Nat} {v:Value}(hv:cs[i]? =some v):(part t cs i).run P w= .ok v w:=by
 have ha:jr P t=some false:=by unfold jr;rw[fE h];rfl
 obtain⟨hlt,rfl⟩:=Array.getElem?_eq_some_iff.1 hv
 simp[part,eY ha,hlt]
theorem Gx{P:Program} {d:Nat} {xs ys:Array Value}:∀(fs:List Field) (i:Nat) (ks:List IntKind) (a b:List Int) (w:World),jh P i fs=some ks→a.length=ks.length→b.length=ks.length→
 (∀j k n,ks[j]? =some k→a[j]? =some n→xs[i+j]? =some (.int k n))→(∀j k n,ks[j]? =some k→b[j]? =some n→ys[i+j]? =some (.int k n))→
 (Op.eqFields (d+1) xs ys fs).run P w= .ok (decide (a=b)) w:=by
 intro fs
 induction fs with
 |nil=>
  intro i ks a b w h ha hb _ _
  simp[jh] at h;subst h
  have:a=[]:=List.length_eq_zero_iff.1 ha
  have:b=[]:=List.length_eq_zero_iff.1 hb
  subst a;subst b
  simp[Op.eqFields]
 |cons f fs ih=>
  intro i ks a b w h ha hb hx hy
  unfold jh at h
  split at h
  ·rename_i k ks' hk hks
   split at h
   ·rename_i hc
    cases h
    obtain⟨x,a,rfl⟩:∃x l,a=x::l:=by cases a with|nil=>simp at ha|cons x l=>exact⟨x,l,rfl⟩
    obtain⟨y,b,rfl⟩:∃x l,b=x::l:=by cases b with|nil=>simp at hb|cons x l=>exact⟨x,l,rfl⟩
    have e1:=lI (w:=w) hk (hx 0 k x rfl rfl)
    have e2:=lI (w:=w) hk (hy 0 k y rfl rfl)
    simp only[Nat.add_zero] at e1 e2
    have e3:=ih (i+1) ks' a b w hks (by simpa using ha) (by simpa using hb) (fun j k n h1 h2=>by have:=hx (j+1) k n (by simpa using h1) (by simpa using h2);rwa [show i+(j+1)=i+1+j by omega] at this)
     (fun j k n h1 h2=>by have:=hy (j+1) k n (by simpa using h1) (by simpa using h2);rwa [show i+(j+1)=i+1+j by omega] at this)
    have e4:(Op.equalIn (d+1) f.type (.int k x) (.int k y)).run P w= .ok (x==y) w:=run_equalIn_int w d f.type k k x y (fE hk)
    simp only[Op.eqFields,if_pos hc.2,Sem.run_bind,hc.1,e1,e2,Result.andThen_ok,e4]
    by_cases hxy:x=y
    ·subst hxy;simp[e3]
    ·simp[hxy]
   ·cases h
  ·cases h
theorem R9{P:Program} {d:Nat} {e:TypeId} {k:IntKind}(hk:kJ P e=some k){xs ys:Array Value}(w:World):∀(n i:Nat) (a b:List Int),a.length=n→b.length=n→
 (∀j n,a[j]? =some n→xs[i+j]? =some (.int k n))→(∀j n,b[j]? =some n→ys[i+j]? =some (.int k n))→
 (forIn (m:=Sem) (List.range' i n 1) ((none,()):Option Bool×Unit) (fun i _=>do
   let x←part e xs (i*1)
   let y←part e ys (i*1)
   let r←Op.equalIn (d+1) e x y
   if(!r)=true then pure (ForInStep.done (some false,())) else pure (ForInStep.yield (none,())))).run P w= .ok (if a=b then(none,()) else(some false,())) w:=by
 intro n
 induction n with
 |zero=>
  intro i a b ha hb _ _
  have:a=[]:=List.length_eq_zero_iff.1 ha
  have:b=[]:=List.length_eq_zero_iff.1 hb
  subst a;subst b
  simp[List.range']
 |succ n ih=>
  intro i a b ha hb hx hy
  obtain⟨x,a,rfl⟩:∃x l,a=x::l:=by cases a with|nil=>simp at ha|cons x l=>exact⟨x,l,rfl⟩
  obtain⟨y,b,rfl⟩:∃x l,b=x::l:=by cases b with|nil=>simp at hb|cons x l=>exact⟨x,l,rfl⟩
  have e1:=lI (w:=w) hk (hx 0 x rfl)
  have e2:=lI (w:=w) hk (hy 0 y rfl)
  simp only[Nat.add_zero] at e1 e2
  have e4:(Op.equalIn (d+1) e (.int k x) (.int k y)).run P w= .ok (x==y) w:=run_equalIn_int w d e k k x y (fE hk)
  have e3:=ih (i+1) a b (by simpa using ha) (by simpa using hb) (fun j n h2=>by have:=hx (j+1) n (by simpa using h2);rwa [show i+(j+1)=i+1+j by omega] at this)
        (fun j n h2=>by have:=hy (j+1) n (by simpa using h2);rwa [show i+(j+1)=i+1+j by omega] at this)
  rw[List.range',List.forIn_cons]
  simp only[Nat.mul_one] at e3⊢
  simp only[Sem.run_bind,e1,e2,Result.andThen_ok,e4]
  by_cases hxy:x=y
  ·subst hxy
   simp only[beq_self_eq_true,Bool.not_true,Bool.false_eq_true,if_false,Sem.run_pure,Result.andThen_ok,e3,List.cons.injEq,true_and]
  ·simp[hxy]
theorem wo{ks:List IntKind} {a:List Int}(hl:a.length=ks.length)(j:Nat)(k:IntKind)(n:Int)(h1:ks[j]? =some k)(h2:a[j]? =some n):(jA ks a).toArray[0+j]? =some (.int k n):=by
 simp[jA,List.getElem?_zipWith,h1,h2]
theorem uX{P:Program} {t:TypeId} {ks:List IntKind}(h:uW P t=some ks){a b:List Int}(ha:a.length=ks.length)(hb:b.length=ks.length)(w:World):
 (Op.equal t (.agg (jA ks a).toArray) (.agg (jA ks b).toArray)).run P w= .ok (decide (a=b)) w:=by
 show(Op.equalIn (9998+1+1) t _ _).run P w=_
 unfold uW at h
 split at h
 ·rename_i fs hu
  split at h
  ·cases h
  ·rename_i hst
   have hst':P.stoodInHeld t=false:=by simpa using hst
   have hf:P.fieldsOf t=fs:=by unfold Program.fieldsOf;rw[hu]
   rw[run_equalIn_struct w (9998+1) t _ _ (by rw[hf];exact hu) hst',hf]
   exact Gx fs.toList 0 ks a b w h ha hb (wo ha) (wo hb)
 ·rename_i n e hu
  split at h
  ·rename_i k hk hz
   cases h
   simp only[List.length_replicate] at ha hb
   have hr:∀{a:List Int},a.length=n→∀j m,a[j]? =some m→(jA (List.replicate n k) a).toArray[0+j]? =some (.int k m):=fun{a} ha j m hm=>
    wo (ks:=List.replicate n k) (by simpa using ha) j k m (by have:=(List.getElem?_eq_some_iff.1 hm).1;rw[List.getElem?_replicate,if_pos (by omega)]) hm
   have:=R9 (d:=9998) hk w n 0 a b ha hb (hr ha) (hr hb)
   rw[Op.equalIn]
   simp only[Sem.run_bind,run_underlying hu,Result.andThen_ok,dw hz,Std.Legacy.Range.forIn_eq_forIn_range',Std.Legacy.Range.size,Nat.sub_zero,Nat.add_sub_cancel,Nat.div_one]
   rw[this]
   by_cases hab:a=b<;>simp[hab]
  ·cases h
 ·cases h
class uP(P:Program)(t:TypeId)(ks:outParam (List IntKind)):Prop where
 out:uW P t=some ks
 gd:P.eqGuardType P.depth t=false
def qP:List AV→Option (List (IntKind×Int))
 |[]=>some []
 |x::l=>match mJ x,qP l with
  |some p,some ps=>some (p::ps)
  |_,_=>none
def qQ:AV→Option (List (IntKind×Int))
 | .agg cs=>qP cs
 |_=>none
theorem VB{cs:List AV}:qQ (.agg cs)=qP cs:=rfl
theorem VC:qP []=some []:=rfl
theorem VD{k:IntKind} {n:Int} {l:List AV}:qP (.val (.int k n)::l)=(qP l).map (fun ps=>(k,n)::ps):=by
 show(match some (k,n),qP l with|some p,some ps=>some (p::ps)|_,_=>none)=_
 cases qP l<;>rfl
theorem Lb:∀{cs:List AV} {ps:List (IntKind×Int)},qP cs=some ps→cs=ps.map (fun p=> .val (.int p.1 p.2))
 |[],ps,h=>by simp[qP] at h;subst h;rfl
 |x::l,ps,h=>by
  unfold qP at h
  split at h
  ·rename_i p qs h1 h2
   cases h
   rw[Lb h2,jZ h1];rfl
  ·cases h
theorem qR{w:World} {J:Nat→Prop} {ρ:Rho} {v:Value} {ps:List (IntKind×Int)} {ks:List IntKind}(h:Rep w J ρ v (.agg (ps.map fun p=> .val (.int p.1 p.2))))(hk:ps.map (·.1)=ks):v= .agg (jA ks (ps.map (·.2))).toArray:=by
 subst hk
 cases h with
 |agg vs _ hs h=>
  congr 1
  apply Array.ext_getElem?
  intro j
  by_cases hj:j<ps.length
  ·have:=h j (by simpa using hj)
   have e:=aN (by simpa using this)
   have hj':j<vs.size:=by rw[hs];simpa using hj
   have e2:vs[j]? =some (Value.int ps[j].1 ps[j].2):=by
    rw[Array.getElem?_eq_getElem hj']
    simpa[Array.getD,hj'] using e
   rw[e2]
   simp[jA,hj]
  ·rw[Array.getElem?_eq_none (by rw[hs];simpa using hj)]
   simp[jA,List.getElem?_zipWith,List.getElem?_eq_none (Nat.le_of_not_lt hj)]
theorem nu{x:AV} {ps:List (IntKind×Int)}(h:qQ x=some ps):x= .agg (ps.map fun p=> .val (.int p.1 p.2)):=by
 unfold qQ at h
 split at h
 ·rw[Lb h]
 ·cases h
def eqI:List Int→List Int→Bool
 |[],[]=>true
 |a::l,b::m=>decide (a=b)&&eqI l m
 |_,_=>false
theorem Eg:∀(a b:List Int),eqI a b=decide (a=b)
 |[],[]=>by simp[eqI]
 |a::l,b::m=>by simp[eqI,Eg l m]
 |[],_::_=>by simp[eqI]
 |_::_,[]=>by simp[eqI]
theorem agy:eqI [] []=true:=rfl
theorem agz{a b:Int} {l m:List Int}:eqI (a::l) (b::m)=(decide (a=b)&&eqI l m):=rfl
section
variable {P:Program} {Q:Exit→Nat→St→Prop} {nid:Nat} {st:St} {dst:Option Nat} {ty:TypeId} {pos:String} {af:Array Edge} {g:Option (Nat×Bool)} {K:Nat→Eff→Prop}
theorem dP{ks:List IntKind}(t:TypeId)(x y:Operand)(t':TypeId) [ht:uP P t ks](h:aH (qQ (st.op x)) fun xs=>aH (qQ (st.op y)) fun ys=>xs.map (·.1)=ks∧ys.map (·.1)=ks∧K 0 ⟨.val (.bool (eqI (xs.map (·.2)) (ys.map (·.2)))),[]⟩):
 AO P ⟨dst,.binOp .eql t x y t',ty,pos,af,g⟩ nid st K:=by
 obtain⟨xs,h1,ys,h2,h3,h4,h5⟩:=h
 refine⟨0,_,.pure fun c ρ D J a w hs=>?_,h5⟩
 have e1:=hs.op x;have e2:=hs.op y
 have k1:=nu h1
 have k2:=nu h2
 rw[k1] at e1;rw[k2] at e2
 refine⟨_,?_,.val _⟩
 simp only[execOp,qR e1 h3,qR e2 h4,Sem.run_bind,run_eqGuard_agg w _ t x y _ _ ht.gd,Result.andThen_ok,binOp,Op.equal]
 have:=uX ht.out (a:=xs.map (·.2)) (b:=ys.map (·.2)) (by rw[←h3];simp) (by rw[←h4];simp) w
 unfold Op.equal at this
 simp[this,Eg]
theorem dm{ks:List IntKind}(t:TypeId)(x y:Operand)(t':TypeId) [ht:uP P t ks](h:aH (qQ (st.op x)) fun xs=>aH (qQ (st.op y)) fun ys=>xs.map (·.1)=ks∧ys.map (·.1)=ks∧K 0 ⟨.val (.bool !(eqI (xs.map (·.2)) (ys.map (·.2)))),[]⟩):
 AO P ⟨dst,.binOp .neq t x y t',ty,pos,af,g⟩ nid st K:=by
 obtain⟨xs,h1,ys,h2,h3,h4,h5⟩:=h
 refine⟨0,_,.pure fun c ρ D J a w hs=>?_,h5⟩
 have e1:=hs.op x;have e2:=hs.op y
 have k1:=nu h1
 have k2:=nu h2
 rw[k1] at e1;rw[k2] at e2
 refine⟨_,?_,.val _⟩
 simp only[execOp,qR e1 h3,qR e2 h4,Sem.run_bind,run_eqGuard_agg w _ t x y _ _ ht.gd,Result.andThen_ok,binOp,Op.equal]
 have:=uX ht.out (a:=xs.map (·.2)) (b:=ys.map (·.2)) (by rw[←h3];simp) (by rw[←h4];simp) w
 unfold Op.equal at this
 simp[this,Eg]
theorem ji{fo n:Nat} {ft:TypeId}(s:TypeId)(x:Operand)(f:Nat) [hf:vH P s f fo ft] [ha:vJ P ft true] [hz:gq P ft n](h:aH (vX (st.op x)) fun cs=>fo+n≤cs.length∧K 0 ⟨.agg ((cs.drop fo).take n),[]⟩):
 AO P ⟨dst,.field s x f,ty,pos,af,g⟩ nid st K:=by
 obtain⟨cs,h1,h2,h3⟩:=h
 refine⟨0,_,.pure fun c ρ D J a w hs=>?_,h3⟩
 have e1:=hs.op x
 rw[mZ h1] at e1
 obtain⟨fs,fd,hu,hfs,rfl,rfl⟩:=mf hf.out
 generalize hv:a.eval x=v at e1
 cases e1 with
 |agg vs _ hs' hr=>
  refine⟨.agg (vs.extract fd.offset (fd.offset+n)),by simp[execOp,hv,Instr.field,run_underlying hu,hfs,asAgg,part,eY ha.out,dw hz.out],.agg _ _ (by simp;omega) (fun j hj=>?_)⟩
  have hj':fd.offset+j<cs.length:=by simp at hj;omega
  have:=hr (fd.offset+j) hj'
  have hj2:fd.offset+j<vs.size:=by omega
  have hj3:j<n:=by simp at hj;omega
  have e2:(vs.extract fd.offset (fd.offset+n)).getD j undef=vs.getD (fd.offset+j) undef:=by
   have h1:j<min (fd.offset+n) vs.size-fd.offset:=by omega
   simp[Array.getD_eq_getD_getElem?,Array.getElem?_extract,h1,hj2]
  rw[e2]
  simpa using this
theorem Eh(x y:Operand)(t1 t2:TypeId)(h:aH (mJ (st.op x)) fun p=>aH (mJ (st.op y)) fun q=>K 0 ⟨.val (.int p.1 (max p.2 q.2)),[]⟩):
 AO P ⟨dst,.call ⟨.builtin .max,#[x,y],#[t1,t2]⟩,ty,pos,af,g⟩ nid st K:=by
 obtain⟨p,h1,q,h2,h3⟩:=h
 refine⟨0,_,.pure fun c ρ D J a w hs=>?_,h3⟩
 have e1:=hs.op x;have e2:=hs.op y
 rw[jZ h1] at e1;rw[jZ h2] at e2
 refine⟨_,?_,.val _⟩
 have hm:(if q.2>p.2 then q.2 else p.2)=max p.2 q.2:=by split<;>omega
 simp[execOp,resolve,invoke,builtin,aN e1,aN e2,Builtin.max_,Builtin.max2,hm]
theorem Ei(x y:Operand)(t1 t2:TypeId)(h:aH (mJ (st.op x)) fun p=>aH (mJ (st.op y)) fun q=>K 0 ⟨.val (.int p.1 (min p.2 q.2)),[]⟩):
 AO P ⟨dst,.call ⟨.builtin .min,#[x,y],#[t1,t2]⟩,ty,pos,af,g⟩ nid st K:=by
 obtain⟨p,h1,q,h2,h3⟩:=h
 refine⟨0,_,.pure fun c ρ D J a w hs=>?_,h3⟩
 have e1:=hs.op x;have e2:=hs.op y
 rw[jZ h1] at e1;rw[jZ h2] at e2
 refine⟨_,?_,.val _⟩
 have hm:(if q.2<p.2 then q.2 else p.2)=min p.2 q.2:=by split<;>omega
 simp[execOp,resolve,invoke,builtin,aN e1,aN e2,Builtin.min_,Builtin.min2,hm]
theorem jB{n:Nat} {e:TypeId}(t:TypeId)(x ix:Operand) [ht:Di P t n e] [ha:vJ P e false] [hz:gq P e 1](h:aH (vX (st.op x)) fun cs=>aH (jQ (st.op ix)) fun i=>(0≤i∧i<n)∧aH cs[i.toNat]? fun y=>K 0 ⟨y,[]⟩):
 AO P ⟨dst,.index t x ix,ty,pos,af,g⟩ nid st K:=by
 obtain⟨cs,h1,i,h2,h3,y,h4,h5⟩:=h
 refine⟨0,_,.pure fun c ρ D J a w hs=>?_,h5⟩
 have e1:=hs.op x;have e2:=hs.op ix
 rw[mZ h1] at e1
 obtain⟨k,hk⟩:=gP h2
 rw[hk] at e2
 have e2:=aN e2
 obtain⟨hlt,rfl⟩:=List.getElem?_eq_some_iff.1 h4
 generalize hv:a.eval x=v at e1
 cases e1 with
 |agg vs _ hs' hr=>
  have hj:i.toNat<vs.size:=by omega
  exact⟨vs.getD i.toNat undef,by simp[execOp,hv,e2,Instr.index,asIntOf,run_underlying (ll ht.out),h3,dw hz.out,part,eY ha.out,hj,Array.getD],hr _ hlt⟩
theorem iH{n m:Nat} {e:TypeId}(t:TypeId)(x ix:Operand) [ht:Di P t n e] [ha:vJ P e true] [hz:gq P e m](h:aH (vX (st.op x)) fun cs=>aH (jQ (st.op ix)) fun i=>(0≤i∧i<n)∧i.toNat*m+m≤cs.length∧K 0 ⟨.agg ((cs.drop (i.toNat*m)).take m),[]⟩):
 AO P ⟨dst,.index t x ix,ty,pos,af,g⟩ nid st K:=by
 obtain⟨cs,h1,i,h2,h3,h4,h5⟩:=h
 refine⟨0,_,.pure fun c ρ D J a w hs=>?_,h5⟩
 have e1:=hs.op x;have e2:=hs.op ix
 rw[mZ h1] at e1
 obtain⟨k,hk⟩:=gP h2
 rw[hk] at e2
 have e2:=aN e2
 generalize hv:a.eval x=v at e1
 cases e1 with
 |agg vs _ hs' hr=>
  refine⟨.agg (vs.extract (i.toNat*m) (i.toNat*m+m)),by simp[execOp,hv,e2,Instr.index,asIntOf,run_underlying (ll ht.out),h3,dw hz.out,part,eY ha.out],.agg _ _ (by simp;omega) (fun j hj=>?_)⟩
  have hj':i.toNat*m+j<cs.length:=by simp at hj;omega
  have:=hr (i.toNat*m+j) hj'
  have hj2:i.toNat*m+j<vs.size:=by omega
  have hj3:j<m:=by simp at hj;omega
  have e2:(vs.extract (i.toNat*m) (i.toNat*m+m)).getD j undef=vs.getD (i.toNat*m+j) undef:=by
   have h1:j<min (i.toNat*m+m) vs.size-i.toNat*m:=by omega
   simp[Array.getD_eq_getD_getElem?,Array.getElem?_extract,h1,hj2]
  rw[e2]
  simpa using this
theorem jC(t:TypeId)(x ix:Operand) [ht:Ky P t](h:aH (H8 (st.op x)) fun s=>aH (jQ (st.op ix)) fun i=>(0≤i∧i<s.size)∧K 0 ⟨.val (.int .u8 (s.get! i.toNat).toNat),[]⟩):
 AO P ⟨dst,.index t x ix,ty,pos,af,g⟩ nid st K:=by
 obtain⟨s,h1,i,h2,h3,h5⟩:=h
 refine⟨0,_,.pure fun c ρ D J a w hs=>?_,h5⟩
 have e1:=hs.op x;have e2:=hs.op ix
 rw[Ee h1] at e1
 have e1:=aN e1
 obtain⟨k,hk⟩:=gP h2
 rw[hk] at e2
 have e2:=aN e2
 have hj:i.toNat<s.size:=by omega
 refine⟨_,?_,.val _⟩
 have e3:s[i.toNat]? =some (s.get! i.toNat):=by
  rw[getElem?_pos s i.toNat hj]
  congr 1
  simp[ByteArray.get!,ByteArray.getElem_eq_getElem_data]
  rw[getElem!_pos]
 simp[execOp,e1,e2,Instr.index,asIntOf,run_underlying (jd ht.out),h3.1,e3]
end
end
