/- Sym15 Sym16 Sym17 Sym18 Sym19. No condition. -/
import Derived.Test.YtgmpdplpodemaaaGreatDoorSymG10
import Derived.ProofKit
import Derived.OpenShut
import Derived.ChangeArms
import Derived.ChangeBears
import Derived.ReadAgain
import Derived.Handed
import Derived.Laws.StructEq
import Derived.Lib.Overlaps
set_option linter.all false
namespace Go.Sy
section
structure Ph{α:Type}(k:α->Prop):Type where
def aH{α:Type}(o:Option α)(k:α->Prop)(_:Ph k:=⟨⟩):Prop:=∃a,o=some a/\k a
theorem HY{α:Type} {a:α} {k:α->Prop} {h}:aH (some a) k h=k a:=by simp[aH]
theorem MM{α β:Type} {o:Option α} {f:α->β} {k:β->Prop} {h}:aH (o.map f) k h=aH o (λa=>k (f a)):=by cases o<;>simp[aH]
theorem MN{α:Type} [Inhabited α]{l:List α} {i:Nat} {k:α->Prop} {p}(h:i<l.length):aH l[i]? k p=k (l.getD i default):=by
 simp[aH,List.getD_eq_getElem?_getD,List.getElem?_eq_getElem h]
theorem Ps{α:Type} {p:Prop} [Decidable p]{a:α} {k:α->Prop} {q}(h:p):aH (if p then some a else none) k q=k a:=by simp[aH,h]
theorem MO{α:Type} {p:Prop} [Decidable p]{a:α} {k:α->Prop} {q}(h:¬p):aH (if p then none else some a) k q=k a:=by simp[aH,h]
def y7:AV->Option Bool
 | .val (.bool b)=>some b
 |_=>none
def ou:AV->Option (IntKind×Int)
 | .val (.int k n)=>some (k,n)
 |_=>none
def y8:AV->Option ByteArray
 | .val (.string s)=>some s
 |_=>none
def CJ:AV->Option (Nat×Nat)
 | .pt id off=>some (id,off)
 |_=>none
def wO:AV->Option (Bool×List AV×Nat)
 | .isl z cs n=>some (z,cs,n)
 |_=>none
def A7:AV->Option (Nat×Nat×Nat×Nat)
 | .sl id off n es=>some (id,off,n,es)
 |_=>none
def y9:AV->Option (List AV)
 | .agg cs=>some cs
 |_=>none
def J8:AV->Option (List AV)
 | .tup cs=>some cs
 |_=>none
def za:Option aC->Option (List AV×TypeId)
 |some (.cells cs e)=>some (cs,e)
 |_=>none
theorem BB{x:AV} {b:Bool}(h:y7 x=some b):x= .val (.bool b):=by unfold y7 at h;split at h<;>simp_all
theorem lU{x:AV} {p:IntKind×Int}(h:ou x=some p):x= .val (.int p.1 p.2):=by unfold ou at h;split at h<;>simp_all[Prod.ext_iff]
theorem uj{x:AV} {b:ByteArray}(h:y8 x=some b):x= .val (.string b):=by unfold y8 at h;split at h<;>simp_all
theorem qN{x:AV} {p:Nat×Nat}(h:CJ x=some p):x= .pt p.1 p.2:=by unfold CJ at h;split at h<;>simp_all[Prod.ext_iff]
theorem pu{x:AV} {p:Bool×List AV×Nat}(h:wO x=some p):x= .isl p.1 p.2.1 p.2.2:=by unfold wO at h;split at h<;>simp_all[Prod.ext_iff]
theorem ow{x:AV} {p:Nat×Nat×Nat×Nat}(h:A7 x=some p):x= .sl p.1 p.2.1 p.2.2.1 p.2.2.2:=by unfold A7 at h;split at h<;>simp_all[Prod.ext_iff]
theorem uk{x:AV} {p:List AV}(h:y9 x=some p):x= .agg p:=by unfold y9 at h;split at h<;>simp_all
theorem Pt{x:AV} {p:List AV}(h:J8 x=some p):x= .tup p:=by unfold J8 at h;split at h<;>simp_all
theorem mU{x:Option aC} {p:List AV×TypeId}(h:za x=some p):x=some (.cells p.1 p.2):=by unfold za at h;split at h<;>simp_all[Prod.ext_iff]
theorem iB{x:AV} {n:Int}(h:jK x=some n):∃k,x= .val (.int k n):=by unfold jK at h;split at h<;>simp_all
section
variable {P:Program} {Q:Exit->Nat->St->Prop} {nid:Nat} {st:St} {dst:Option Nat} {ty:TypeId} {pos:String} {af:Array Edge} {g:Option (Nat×Bool)} {K:Nat->Eff->Prop}
theorem gU(x y z:Operand)(h:aH (y7 (st.op x)) λb=>K 0 ⟨jI b (st.op y) (st.op z),[]⟩):AO P ⟨dst,.pick x y z,ty,pos,af,g⟩ nid st K:=by
 obtain⟨b,h1,h2⟩:=h;exact ac7 x y z ⟨b,BB h1,h2⟩
theorem gZ(t:TypeId)(x:Operand)(h:aH (y7 (st.op x)) λb=>K 0 ⟨.val (.bool !b),[]⟩):AO P ⟨dst,.unOp .not t x,ty,pos,af,g⟩ nid st K:=by
 obtain⟨b,h1,h2⟩:=h;exact ah9 t x ⟨b,BB h1,h2⟩
theorem ic(t:TypeId)(x:Operand)(h:aH (ou (st.op x)) λp=>K 0 ⟨.val (.int p.1 (p.1.wrap (0-p.2))),[]⟩):AO P ⟨dst,.unOp .neg t x,ty,pos,af,g⟩ nid st K:=by
 obtain⟨b,h1,h2⟩:=h;exact aia t x ⟨_,_,lU h1,h2⟩
theorem dM{ks k:IntKind}(s t:TypeId)(x:Operand) [hs:nI P s ks] [ht:nI P t k](h:aH (jK (st.op x)) λn=>K 0 ⟨.val (.int k (k.wrap n)),[]⟩):AO P ⟨dst,.convert s t x,ty,pos,af,g⟩ nid st K:=by
 obtain⟨n,h1,h2⟩:=h;obtain⟨k',hk⟩:=iB h1;exact Mt s t x ⟨k',n,hk,h2⟩
theorem eH(bo:BinOp)(t:TypeId)(x y:Operand)(t':TypeId)(h:aH (bW P bo t (st.op x) (st.op y)) λr=>K 0 ⟨r,[]⟩):AO P ⟨dst,.binOp bo t x y t',ty,pos,af,g⟩ nid st K:=ah6 bo t x y t' h
theorem mV(t:TypeId)(x y:Operand)(t':TypeId)(h:aH (rA P t (st.op x) (st.op y)) λb=>K 0 ⟨.val (.bool b),[]⟩):AO P ⟨dst,.binOp .eql t x y t',ty,pos,af,g⟩ nid st K:=VJ t x y t' h
theorem kV(t:TypeId)(x y:Operand)(t':TypeId)(h:aH (rA P t (st.op x) (st.op y)) λb=>K 0 ⟨.val (.bool !b),[]⟩):AO P ⟨dst,.binOp .neq t x y t',ty,pos,af,g⟩ nid st K:=O1 t x y t' h
theorem bD{fo n:Nat} {ft:TypeId}(s:TypeId)(x:Operand)(f:Nat) [hf:Ep P s f fo ft] [hz:gJ P ft (n+1)](h:aH (wK fo (st.op x)) λy=>K 0 ⟨y,[]⟩):AO P ⟨dst,.fieldAddr s x f,ty,pos,af,g⟩ nid st K:=EH s x f h
theorem bE{e:TypeId} {es:Nat}(t:TypeId)(x ix:Operand) [he:dW P t e] [hz:gJ P e es](h:aH (jK (st.op ix)) λi=>aH (EI i.toNat es (st.op x)) λp=>(0<=i/\i<p.2)/\K 0 ⟨p.1,[]⟩):AO P ⟨dst,.indexAddr t x ix,ty,pos,af,g⟩ nid st K:=by
 obtain⟨i,h1,p,h2,h3,h4⟩:=h;obtain⟨k,hk⟩:=iB h1;exact EJ t x ix ⟨k,i,p.1,p.2,hk,h2,h3,h4⟩
theorem bO{e:TypeId} {n es:Nat}(t:TypeId)(x ix:Operand) [he:vz P t n e] [hz:gJ P e es](h:aH (jK (st.op ix)) λi=>aH (wK (i.toNat*es) (st.op x)) λy=>(0<=i/\i<n)/\K 0 ⟨y,[]⟩):AO P ⟨dst,.indexAddr t x ix,ty,pos,af,g⟩ nid st K:=by
 obtain⟨i,h1,p,h2,h3,h4⟩:=h;obtain⟨k,hk⟩:=iB h1;exact Hd t x ix ⟨k,i,p,hk,h2,h3,h4⟩
theorem dz(t:TypeId)(x:Operand) [ha:xw P t false](h:aH (mP st (st.op x)) λp=>aH p.1[p.2]? λy=>K 0 ⟨y,[]⟩):AO P ⟨dst,.load t x,ty,pos,af,g⟩ nid st K:=by
 obtain⟨p,h1,y,h2,h3⟩:=h;exact adb t x ⟨p.1,p.2,y,h1,h2,h3⟩
theorem aR{n:Nat}(t:TypeId)(x:Operand) [ha:xw P t true] [hz:gJ P t n](h:aH (mP st (st.op x)) λp=>p.2+n<=p.1.length/\K 0 ⟨.agg ((p.1.drop p.2).take n),[]⟩):AO P ⟨dst,.load t x,ty,pos,af,g⟩ nid st K:=by
 obtain⟨p,h1,h2,h3⟩:=h;exact Mv t x ⟨p.1,p.2,h1,h2,h3⟩
theorem eY(x:Operand)(i:Nat)(h:aH (J8 (st.op x)) λcs=>aH cs[i]? λy=>K 0 ⟨y,[]⟩):AO P ⟨dst,.extract x i,ty,pos,af,g⟩ nid st K:=by
 obtain⟨cs,h1,y,h2,h3⟩:=h;exact Mw x i ⟨cs,y,Pt h1,h2,h3⟩
theorem dh(t:TypeId)(x:Operand) [ht:Eo P t](h:aH (y8 (st.op x)) λs=>K 0 ⟨.val (.int .i64 s.size),[]⟩):AO P ⟨dst,.call ⟨.builtin .len,#[x],#[t]⟩,ty,pos,af,g⟩ nid st K:=by
 obtain⟨s,h1,h2⟩:=h;exact O3 t x ⟨s,uj h1,h2⟩
theorem iI{e:TypeId}(t:TypeId)(x:Operand) [ht:dW P t e](h:aH (Bu (st.op x)) λn=>K 0 ⟨.val (.int .i64 n),[]⟩):AO P ⟨dst,.call ⟨.builtin .len,#[x],#[t]⟩,ty,pos,af,g⟩ nid st K:=aib t x h
theorem iD(e:TypeId)(x:Operand)(h:aH (st.op x).parts λcs=>cs.all AV.scalar=true/\K 1 ⟨.pt nid 0,[(nid,some (.cells cs e))]⟩):AO P ⟨dst,.box e x,ty,pos,af,g⟩ nid st K:=aic e x h
theorem dO{n:Nat}(t:TypeId)(x y:Operand) [hz:gJ P t n](h:aH (CJ (st.op x)) λp=>aH (za (st.ob p.1)) λq=>aH (st.op y).parts λvs=>vs.all AV.scalar=true/\vs.length=n/\p.2+n<=q.1.length/\
 K 0 ⟨.any,[(p.1,some (.cells (wL q.1 p.2 vs) q.2))]⟩):AO P ⟨dst,.store t x y,ty,pos,af,g⟩ nid st K:=by
 obtain⟨p,h1,q,h2,vs,h3,h4,h5,h6,h7⟩:=h;exact VK t x y ⟨_,_,_,_,vs,qN h1,mU h2,h3,h4,h5,h6,h7⟩
theorem kN{zs:List Value} {pl:List (Nat×Nat)}(t:TypeId)(ps:Array (Nat×Operand)) [hz:jY P t zs] [hp:iK P t pl]
 (h:aH (kC (pl[·]?) (zs.map ofV) (ps.toList.map λp=>(p.1,st.op p.2))) λout=>K 0 ⟨.agg out,[]⟩):AO P ⟨dst,.build t ps,ty,pos,af,g⟩ nid st K:=VL t ps h
theorem aV{e:TypeId} {es:Nat} {zs:List Value}(t:TypeId)(len:Nat)(ps:Array (Nat×Operand)) [he:dW P t e] [hs:gJ P e es] [hz:jY P e zs]
 (h:aH (kC (λi=>some (i*es,es)) (eO zs len) (ps.toList.map λp=>(p.1,st.op p.2))) λout=>zs.length=es/\zs.all Value.oneCell'=true/\len*es<=16777216/\out.all AV.scalar=true/\out.length=len*es/\
   K 1 ⟨.sl nid 0 len es,[(nid,some (.cells out e))]⟩):AO P ⟨dst,.buildSlice t len ps,ty,pos,af,g⟩ nid st K:=Cx t len ps h
theorem gy{e:TypeId} {es by':Nat} {zs:List Value}(t:TypeId)(l c:Operand) [he:dW P t e] [hs:gJ P e es] [hb:vC P e by'] [hz:jY P e zs]
 (h:aH (jK (st.op l)) λn=>aH (jK (st.op c)) λn'=>n'=n/\zs.length=es/\zs.all Value.oneCell'=true/\0<=n/\n<=9223372036854775807/\(by':Int)*n<=281474976710656/\
   K 1 ⟨.sl nid 0 n.toNat es,[(nid,some (.cells (eO zs n.toNat) e))]⟩):AO P ⟨dst,.makeSlice t l c,ty,pos,af,g⟩ nid st K:=by
 obtain⟨n,h1,n',h2,rfl,h3⟩:=h
 obtain⟨k1,hk1⟩:=iB h1;obtain⟨k2,hk2⟩:=iB h2
 exact EK t l c ⟨k1,k2,_,hk1,hk2,h3⟩
theorem ik(t:TypeId)(x:Operand)(lo hi:Option Operand) [ht:Eo P t](h:aH (y8 (st.op x)) λs=>aH (bv st 0 lo) λl=>aH (bv st s.size hi) λu=>(0<=l/\l<=u/\u<=s.size)/\K 0 ⟨.val (.string (s.extract l.toNat u.toNat)),[]⟩):
 AO P ⟨dst,.slice t x lo hi none,ty,pos,af,g⟩ nid st K:=by
 obtain⟨s,h1,l,h2,u,h3,h4,h5⟩:=h;exact He t x lo hi ⟨s,l,u,uj h1,h2,h3,h4,h5⟩
theorem jL{e:TypeId} {es:Nat}(t:TypeId)(x:Operand)(lo hi:Option Operand) [ht:dW P t e] [hs:gJ P e es](h:aH (wO (st.op x)) λp=>aH (bv st 0 lo) λl=>aH (bv st p.2.2 hi) λu=>(0<=l/\l<=u/\u<=p.2.2)/\
 K 0 ⟨.isl p.1 ((p.2.1.drop (l.toNat*es)).take ((u.toNat-l.toNat)*es)) (u.toNat-l.toNat),[]⟩):AO P ⟨dst,.slice t x lo hi none,ty,pos,af,g⟩ nid st K:=by
 obtain⟨p,h1,l,h2,u,h3,h4,h5⟩:=h;exact O4 t x lo hi ⟨_,_,_,l,u,pu h1,h2,h3,h4,h5⟩
theorem lF{e:TypeId} {es:Nat}(t:TypeId)(x:Operand)(lo hi:Option Operand) [ht:dW P t e] [hs:gJ P e es](h:aH (A7 (st.op x)) λp=>aH (bv st 0 lo) λl=>aH (bv st p.2.2.1 hi) λu=>p.2.2.2=es/\(0<=l/\l<=u/\u<=p.2.2.1)/\
 (l<p.2.2.1\/l=0)/\K 0 ⟨.sl p.1 (p.2.1+l.toNat*es) (u.toNat-l.toNat) es,[]⟩):AO P ⟨dst,.slice t x lo hi none,ty,pos,af,g⟩ nid st K:=by
 obtain⟨p,h1,l,h2,u,h3,h4,h5,h6,h7⟩:=h;exact VM t x lo hi ⟨_,_,_,_,l,u,ow h1,h4,h2,h3,h5,h6,h7⟩
theorem il{e:TypeId} {es:Nat}(t:TypeId)(x:Operand)(lo hi:Option Operand) [ht:dW P t e] [hs:gJ P e es](h:aH (A7 (st.op x)) λp=>aH (bv st 0 lo) λl=>aH (bv st p.2.2.1 hi) λu=>p.2.2.2=es/\(0<=l/\l=u/\u<=p.2.2.1)/\
 K 0 ⟨.isl false [] 0,[]⟩):AO P ⟨dst,.slice t x lo hi none,ty,pos,af,g⟩ nid st K:=by
 obtain⟨p,h1,l,h2,u,h3,h4,h5,h6⟩:=h;exact Hf t x lo hi ⟨_,_,_,_,l,u,ow h1,h4,h2,h3,h5,h6⟩
theorem dH{e:TypeId} {es by':Nat} {zs:List Value}(t:TypeId)(x y:Operand) [he:dW P t e] [hs:gJ P e es] [hb:vC P e by'] [hz:jY P e zs]
 (h:aH (wO (st.op x)) λp=>aH (gY st (st.op y)) λq=>p=(true,[],0)/\zs.length=es/\zs.all Value.oneCell'=true/\q.1.length=q.2*es/\0<q.2/\q.2*by'<=140737488355328/\q.2<=9223372036854775807/\K 1 ⟨.sl nid 0 q.2 es,[(nid,some (.cells q.1 e))]⟩):
 AO P ⟨dst,.call ⟨.builtin .append,#[x,y],#[t,t]⟩,ty,pos,af,g⟩ nid st K:=by
 obtain⟨p,h1,q,h2,rfl,h3⟩:=h;exact EL t x y ⟨_,_,pu h1,h2,h3⟩
theorem gz{e:TypeId} {es by':Nat} {zs:List Value}(t:TypeId)(x y:Operand) [he:dW P t e] [hs:gJ P e es] [hb:vC P e by'] [hz:jY P e zs]
 (h:aH (A7 (st.op x)) λp=>aH (za (st.ob p.1)) λo=>aH (gY st (st.op y)) λq=>p.2.1=0/\p.2.2.2=es/\o.2=e/\zs.length=es/\zs.all Value.oneCell'=true/\o.1.length=p.2.2.1*es/\q.1.length=q.2*es/\(p.2.2.1+q.2)*by'<=140737488355328/\p.2.2.1+q.2<=9223372036854775807/\
   K 1 ⟨.sl nid 0 (p.2.2.1+q.2) es,[(nid,some (.cells (o.1++q.1) e)),(p.1,none)]⟩):
 AO P ⟨dst,.call ⟨.builtin .append,#[x,y],#[t,t]⟩,ty,pos,af,g⟩ nid st K:=by
 obtain⟨⟨id,off,n,es'⟩,h1,⟨cs,e'⟩,h2,q,h3,h4,h5,h6,h7⟩:=h
 dsimp only at h4 h5 h6 h7
 subst h4;subst h5;subst h6
 exact O5 t x y ⟨_,_,_,_,_,ow h1,mU h2,h3,h7⟩
end
theorem MP{cs:List AV} {off:Nat} {v:AV}:wL cs off [v]=cs.set off v:=rfl
theorem nO{α:Type} {cs vs:List α}(h:vs.length=cs.length):spl cs 0 vs=vs:=by unfold spl;simp[h]
theorem zb{v:Value} {n:Nat}:eO [v] n=List.replicate n (ofV v):=by
 unfold eO
 induction n with
 |zero=>rfl
 |succ n ih=>simp only[List.map_cons,List.map_nil] at ih;simp[List.replicate_succ,ih]
theorem MQ{α:Type} {l:List α} {n:Nat}(h:l.length<=n):l.take n=l:=List.take_of_length_le h
def sel{α:Type}(z:Bool)(a b:α):α:=if z then a else b
theorem adj{α:Type} {a b:α} {p:Prop} [Decidable p](h:p):sel (decide p) a b=a:=by simp[sel,h]
theorem adk{α:Type} {a b:α} {p:Prop} [Decidable p](h:¬p):sel (decide p) a b=b:=by simp[sel,h]
theorem aid{α:Type} {a b:α} {z:Bool}(h:z=true):sel z a b=a:=by simp[sel,h]
theorem aie{α:Type} {a b:α} {z:Bool}(h:z=false):sel z a b=b:=by simp[sel,h]
theorem Pv{α:Type} {a b:α}:sel true a b=a:=rfl
theorem MR{α:Type} {a b:α}:sel false a b=b:=rfl
section
variable {id off n es k i t:Nat} {cs:List AV} {z b:Bool} {s:ByteArray} {m:Int} {kd:IntKind} {v:Value} {x y:AV} {st:St} {o:aC} {e:TypeId} {env:List (Nat×AV)} {objs:List (Nat×Option aC)} {β:Type} {u:β} {l:List (Nat×β)}
theorem adl:aQ ((i,u)::l) t=if t=i then some u else aQ l t:=rfl
theorem VZ:aQ ([]:List (Nat×β)) t=none:=rfl
theorem aif:aQ ((i,u)::l) i=some u:=by simp[aQ]
theorem e_ev:St.ev ⟨n,k,env,objs⟩ t=(aQ env t).getD .any:=rfl
theorem e_ob:St.ob ⟨n,k,env,objs⟩ t=(aQ objs t).join:=rfl
theorem aig:St.op st (.tmp t)=st.ev t:=rfl
theorem aih:St.op st (.const v)=ofV v:=rfl
theorem e_pt:CJ (.pt id off)=some (id,off):=rfl
theorem adm:y7 (.val (.bool b))=some b:=rfl
theorem adn:ou (.val (.int kd m))=some (kd,m):=rfl
theorem aii:jK (.val (.int kd m))=some m:=rfl
theorem aij:y8 (.val (.string s))=some s:=rfl
theorem aik:wO (.isl z cs n)=some (z,cs,n):=rfl
theorem e_sl:A7 (.sl id off n es)=some (id,off,n,es):=rfl
theorem ail:y9 (.agg cs)=some cs:=rfl
theorem aim:J8 (.tup cs)=some cs:=rfl
theorem e_cl:za (some (.cells cs e))=some (cs,e):=rfl
theorem V3:wK k (.pt id off)=some (.pt id (off+k)):=rfl
theorem Pw:wK k (.ipt cs off)=some (.ipt cs (off+k)):=rfl
theorem ain:EI i es (.sl id off n k)=some (.pt id (off+i*es),n):=rfl
theorem ado:EI i es (.isl z cs n)=some (.ipt cs (i*es),n):=rfl
theorem MS:mP ⟨n,k,env,objs⟩ (.pt id off)=tZ off (aQ objs id).join:=rfl
theorem HZ:mP st (.ipt cs off)=some (cs,off):=rfl
theorem MU:tZ off (some (.cells cs e))=some (cs,off):=rfl
theorem V4:Bu (.sl id off n es)=some n:=rfl
theorem Px:Bu (.isl z cs n)=some n:=rfl
theorem V5:gY ⟨n,k,env,objs⟩ (.sl id off i es)=EC off i es (aQ objs id).join:=rfl
theorem Py:gY st (.isl z cs n)=some (cs,n):=rfl
theorem V6:EC off i es (some (.cells cs e))=some ((cs.drop off).take (i*es),i):=rfl
theorem Pz:EC off i es (some (.full cs e))=some ((cs.drop off).take (i*es),i):=rfl
theorem PD:bv st k none=some (k:Int):=rfl
theorem PE{x:Operand}:bv st k (some x)=jK (st.op x):=rfl
theorem PG:AV.parts (.agg cs)=some cs:=rfl
theorem PH:AV.parts (.isl z cs n)=some [.isl z cs n]:=rfl
theorem PI:AV.parts (.ipt cs n)=some [.ipt cs n]:=rfl
theorem PK:AV.parts (.sl id off n es)=some [.sl id off n es]:=rfl
theorem PL:AV.parts (.pt id off)=some [.pt id off]:=rfl
theorem PM:AV.parts (.mp id)=some [.mp id]:=rfl
theorem PN:AV.parts (.yl id)=some [.yl id]:=rfl
theorem aio:AV.scalar (.yl id)=true:=rfl
theorem PO{f:Nat}:AV.parts (.fn f cs)=some [.fn f cs]:=rfl
theorem PP:AV.parts (.val (.int kd m))=some [.val (.int kd m)]:=rfl
theorem PQ:AV.parts (.val (.bool b))=some [.val (.bool b)]:=rfl
theorem MV:AV.parts (.val (.string s))=some [.val (.string s)]:=rfl
theorem MW{ad:Option Addr}:AV.parts (.val (.pointer ad))=some [.val (.pointer ad)]:=rfl
theorem MX{ad:Option Nat}:AV.parts (.val (.map ad))=some [.val (.map ad)]:=rfl
theorem aip:AV.scalar (.isl z cs n)=true:=rfl
theorem aiq:AV.scalar (.ipt cs n)=true:=rfl
theorem air:AV.scalar (.sl id off n es)=true:=rfl
theorem ais:AV.scalar (.pt id off)=true:=rfl
theorem ait:AV.scalar (.mp id)=true:=rfl
theorem aiu{f:Nat}:AV.scalar (.fn f cs)=true:=rfl
theorem aiv:AV.scalar (.val v)=v.oneCell':=rfl
theorem aiw:AV.notNil (.pt id off)=true:=rfl
theorem aix:AV.notNil (.ipt cs off)=true:=rfl
theorem aiy{f:Nat}:AV.notNil (.fn f cs)=true:=rfl
theorem aiz:AV.notNil (.mp id)=true:=rfl
theorem V7{p q:Bool}:jI z (.val (.bool p)) (.val (.bool q))= .val (.bool (sel z p q)):=rfl
theorem V8{p q:Int} {kd':IntKind}:jI z (.val (.int kd p)) (.val (.int kd' q))=sel z (.val (.int kd p)) (.val (.int kd' q)):=rfl
theorem V9:jI z .any x=sel z .any x:=by cases x<;>rfl
theorem Wd:jI z noV x=sel z noV x:=by cases x<;>rfl
theorem We:jI z x noV=sel z x noV:=by cases x<;>first|rfl|(rename_i v;cases v<;>rfl)
theorem Wh:jI z x .any=sel z x .any:=by cases x<;>first|rfl|(rename_i v;cases v<;>rfl)
end
def cS(l:List ByteArray):List AV:=l.map λs=> .val (.string s)
def cB(l:List Bool):List AV:=l.map λb=> .val (.bool b)
def cI(k:IntKind)(l:List Int):List AV:=l.map λn=> .val (.int k n)
section
variable {k:IntKind}
theorem PR(l:List ByteArray):(cS l).length=l.length:=by simp[cS]
theorem PS(l:List Bool):(cB l).length=l.length:=by simp[cB]
theorem H5(l:List Int):(cI k l).length=l.length:=by simp[cI]
theorem adp(l:List ByteArray)(i:Nat)(s:ByteArray):(cS l).set i (.val (.string s))=cS (l.set i s):=by simp[cS,List.map_set]
theorem adq(l:List Bool)(i:Nat)(s:Bool):(cB l).set i (.val (.bool s))=cB (l.set i s):=by simp[cB,List.map_set]
theorem adr(l:List Int)(i:Nat)(s:Int):(cI k l).set i (.val (.int k s))=cI k (l.set i s):=by simp[cI,List.map_set]
theorem cS_get(l:List ByteArray)(i:Nat):(cS l)[i]? =l[i]?.map λs=> .val (.string s):=by simp[cS]
theorem cB_get(l:List Bool)(i:Nat):(cB l)[i]? =l[i]?.map λs=> .val (.bool s):=by simp[cB]
theorem ads(l:List Int)(i:Nat):(cI k l)[i]? =l[i]?.map λs=> .val (.int k s):=by simp[cI]
theorem adt(l m:List ByteArray):cS l++cS m=cS (l++m):=by simp[cS]
theorem adu(l m:List Bool):cB l++cB m=cB (l++m):=by simp[cB]
theorem adv(l m:List Int):cI k l++cI k m=cI k (l++m):=by simp[cI]
theorem Wi(l:List ByteArray)(s:ByteArray):cS l++[.val (.string s)]=cS (l++[s]):=by simp[cS]
theorem Wj(l:List Bool)(s:Bool):cB l++[.val (.bool s)]=cB (l++[s]):=by simp[cB]
theorem Wl(l:List Int)(s:Int):cI k l++[.val (.int k s)]=cI k (l++[s]):=by simp[cI]
theorem Wm(l:List ByteArray)(n:Nat):(cS l).take n=cS (l.take n):=by simp[cS,List.map_take]
theorem Wo(l:List Bool)(n:Nat):(cB l).take n=cB (l.take n):=by simp[cB,List.map_take]
theorem Wp(l:List Int)(n:Nat):(cI k l).take n=cI k (l.take n):=by simp[cI,List.map_take]
theorem Wq(l:List ByteArray)(n:Nat):(cS l).drop n=cS (l.drop n):=by simp[cS,List.map_drop]
theorem Ws(l:List Bool)(n:Nat):(cB l).drop n=cB (l.drop n):=by simp[cB,List.map_drop]
theorem Wt(l:List Int)(n:Nat):(cI k l).drop n=cI k (l.drop n):=by simp[cI,List.map_drop]
theorem Wu(s:ByteArray)(n:Nat):eO [.string s] n=cS (List.replicate n s):=by simp[zb,cS,ofV]
theorem Wv(s:Bool)(n:Nat):eO [.bool s] n=cB (List.replicate n s):=by simp[zb,cB,ofV]
theorem Ww(s:Int)(n:Nat):eO [.int k s] n=cI k (List.replicate n s):=by simp[zb,cI,ofV]
theorem adw(τ:Nat->Nat)(l:List ByteArray):(cS l).map (ren τ)=cS l:=by simp[cS,ren]
theorem adx(τ:Nat->Nat)(l:List Bool):(cB l).map (ren τ)=cB l:=by simp[cB,ren]
theorem ady(τ:Nat->Nat)(l:List Int):(cI k l).map (ren τ)=cI k l:=by simp[cI,ren]
theorem adz(id:Nat)(cs:List AV)(l:List ByteArray):(cS l).map (bP id cs)=cS l:=by simp[cS,bP]
theorem adA(id:Nat)(cs:List AV)(l:List Bool):(cB l).map (bP id cs)=cB l:=by simp[cB,bP]
theorem adB(id:Nat)(cs:List AV)(l:List Int):(cI k l).map (bP id cs)=cI k l:=by simp[cI,bP]
theorem adC(n:Nat)(l:List ByteArray):(∀x∈cS l,bnd n x)=True:=by simp[cS,bnd]
theorem adD(n:Nat)(l:List Bool):(∀x∈cB l,bnd n x)=True:=by simp only[cB,List.forall_mem_map];simp[bnd]
theorem sH(n:Nat)(l:List Int):(∀x∈cI k l,bnd n x)=True:=by simp[cI,bnd]
theorem PT(l:List ByteArray):(∀x∈cS l,noImm x)=True:=by simp[cS,noImm]
theorem PU(l:List Bool):(∀x∈cB l,noImm x)=True:=by simp only[cB,List.forall_mem_map];simp[noImm]
theorem PV(l:List Int):(∀x∈cI k l,noImm x)=True:=by simp[cI,noImm]
theorem adE(l:List ByteArray):(cS l).all AV.scalar=true:=by simp[cS,AV.scalar,Value.oneCell']
theorem adF(l:List Bool):(cB l).all AV.scalar=true:=by simp[cB,AV.scalar,Value.oneCell']
theorem adG(l:List Int):(cI k l).all AV.scalar=true:=by simp[cI,AV.scalar,Value.oneCell']
theorem adH(l m:List ByteArray)(h:m.length=l.length):spl (cS l) 0 (cS m)=cS m:=nO (by simpa[cS] using h)
theorem adI(l m:List Bool)(h:m.length=l.length):spl (cB l) 0 (cB m)=cB m:=nO (by simpa[cB] using h)
theorem adJ(l m:List Int)(h:m.length=l.length):spl (cI k l) 0 (cI k m)=cI k m:=nO (by simpa[cI] using h)
theorem adK{s:ByteArray}:cS [s]=[.val (.string s)]:=rfl
theorem adL{s:Bool}:cB [s]=[.val (.bool s)]:=rfl
theorem adM{s:Int}:cI k [s]=[.val (.int k s)]:=rfl
theorem adN:cS []=[]:=rfl
theorem adO:cB []=[]:=rfl
theorem fF:cI k []=[]:=rfl
end
theorem H6{cs vs:List AV} {off:Nat} {a b:AV}:wL cs off (a::b::vs)=spl cs off (a::b::vs):=rfl
theorem Wx{α:Type} {cs vs:List α} {off:Nat} {a c:α}:spl (c::cs) off (a::vs)=(c::cs).take off++(a::vs++(c::cs).drop (off+(a::vs).length)):=rfl
def pz(n off:Nat):Option aC->Option AV
 |some (.cells cs _)=>if off+n<=cs.length then some (.agg ((cs.drop off).take n)) else none
 |_=>none
def pE(off:Nat):Option aC->Option AV
 |some (.cells cs _)=>cs[off]?
 |_=>none
def xA(n:Nat)(st:St):AV->Option AV
 | .pt id off=>pz n off (st.ob id)
 |_=>none
def um(st:St):AV->Option AV
 | .pt id off=>pE off (st.ob id)
 |_=>none
theorem MZ{P:Program} {st:St} {t:Nat}:fK P st (.tmp t)=some (st.ev t):=rfl
theorem EU{P:Program} {st:St} {x t n:Nat} [ha:xw P t true] [hs:gJ P t n]:fK P st (.cell x t)=xA n st (st.ev x):=by
 simp only[fK,ha.out,hs.out]
 cases st.ev x with
 |pt id off=>
  cases ho:st.ob id with
  |none=>simp[xA,pz,ho]
  |some o=>cases o<;>simp[xA,pz,ho]
 |_=>rfl
theorem EW{P:Program} {st:St} {x t:Nat} [ha:xw P t false]:fK P st (.cell x t)=um st (st.ev x):=by
 simp only[fK,ha.out]
 cases st.ev x with
 |pt id off=>
  cases ho:st.ob id with
  |none=>simp[um,pE,ho]
  |some o=>cases o<;>simp[um,pE,ho]
 |_=>rfl
theorem M0{n k id off:Nat} {m:Nat} {env:List (Nat×AV)} {objs:List (Nat×Option aC)}:xA n ⟨k,m,env,objs⟩ (.pt id off)=pz n off (aQ objs id).join:=rfl
theorem H7{k id off:Nat} {m:Nat} {env:List (Nat×AV)} {objs:List (Nat×Option aC)}:um ⟨k,m,env,objs⟩ (.pt id off)=pE off (aQ objs id).join:=rfl
theorem H8{n off:Nat} {cs:List AV} {e:TypeId}:pz n off (some (.cells cs e))=if off+n<=cs.length then some (.agg ((cs.drop off).take n)) else none:=rfl
theorem H9{off:Nat} {cs:List AV} {e:TypeId}:pE off (some (.cells cs e))=cs[off]? :=rfl
def fw(n id es:Nat):AV:=if n=0 then .isl true [] 0 else .sl id 0 n es
def fA(n id:Nat)(cs:List AV)(e:TypeId):List (Nat×Option aC):=if n=0 then [] else [(id,some (.cells cs e))]
theorem Wy{n id es:Nat}(h:n=0):fw n id es= .isl true [] 0:=by unfold fw;rw[if_pos h]
theorem Wz{n id es:Nat}(h:0<n):fw n id es= .sl id 0 n es:=by unfold fw;rw[if_neg omgz]
theorem WA{n id:Nat} {cs:List AV} {e:TypeId}(h:n=0):fA n id cs e=[]:=by unfold fA;rw[if_pos h]
theorem WB{n id:Nat} {cs:List AV} {e:TypeId}(h:0<n):fA n id cs e=[(id,some (.cells cs e))]:=by unfold fA;rw[if_neg omgz]
def Nxt{ι:Type}(I:ι->St)(μ:ι->Nat)(m:Nat)(i:ι)(s:St):Prop:=∃(σ':List Nat) (j:ι),σ'.length=m/\Sub σ' (I j) s/\μ j<μ i
theorem Nxt.mk{ι:Type} {I:ι->St} {μ:ι->Nat} {m:Nat} {i:ι} {s:St}(σ:List Nat)(j:ι)(h1:σ.length=m)(h2:Sub σ (I j) s)(h3:μ j<μ i):Nxt I μ m i s:=⟨σ,j,h1,h2,h3⟩
theorem ak{P:Program} {Q:Exit->Nat->St->Prop} {nid:Nat} {st:St} {code:Code} {ι:Type}(σ:List Nat)(m:Nat)(I:ι->St)(μ:ι->Nat)(i0:ι)(hm:σ.length=m)(h0:Sub σ (I i0) st)
 (round:∀i,AC P code (Thn (λ_ s=>Nxt I μ m i s) Q) m (I i)):AC P (.loop code) Q nid st:=Vr σ m I μ i0 hm h0 round
theorem PW{n:Int}(h: -9223372036854775808<=n/\n<=9223372036854775807):IntKind.i64.wrap n=n:=by unfold IntKind.wrap;simp only[IntKind.bits,IntKind.signed];simp;omega
theorem aiA{n:Int}(h: -2147483648<=n/\n<=2147483647):IntKind.i32.wrap n=n:=by unfold IntKind.wrap;simp only[IntKind.bits,IntKind.signed];simp;omega
theorem w_u8{n:Int}(h:0<=n/\n<=255):IntKind.u8.wrap n=n:=by unfold IntKind.wrap;simp only[IntKind.bits,IntKind.signed];simp;omega
theorem ab2{n:Int}(h:0<=n/\n<=65535):IntKind.u16.wrap n=n:=by unfold IntKind.wrap;simp only[IntKind.bits,IntKind.signed];simp;omega
theorem ab3{n:Int}(h:0<=n/\n<=4294967295):IntKind.u32.wrap n=n:=by unfold IntKind.wrap;simp only[IntKind.bits,IntKind.signed];simp;omega
theorem aiB{n:Int}(h:0<=n/\n<=18446744073709551615):IntKind.u64.wrap n=n:=by unfold IntKind.wrap;simp only[IntKind.bits,IntKind.signed];simp;omega
theorem ah{P:Program} {Q:Exit->Nat->St->Prop} {nid:Nat} {st:St} {code:Code}(h:AC P (.loop code) Q nid st):AC P (.loop code) Q nid st:=h
theorem aj{ι:Type} {I:ι->St} {μ:ι->Nat} {m:Nat} {i:ι} {s:St}(h:Nxt I μ m i s):Nxt I μ m i s:=h
theorem EX{a b:Int}(h:0<=a):a.tmod b=a%b:=Int.tmod_eq_emod_of_nonneg h
theorem EY{a b:Int}(h:0<=a):a.tdiv b=a/b:=Int.tdiv_eq_ediv_of_nonneg h
section
variable {τ:Nat->Nat} {σ:List Nat} {st:St} {id i off len es n k f:Nat} {z:Bool} {cs l:List AV} {v:Value} {e:TypeId}
theorem adP:ren τ noV=noV:=by simp[noV,ren]
theorem WC:ren τ (.val v)= .val v:=by simp[ren]
theorem WE:ren τ (.isl z cs n)= .isl z cs n:=by simp[ren]
theorem WF:ren τ (.ipt cs k)= .ipt cs k:=by simp[ren]
theorem adQ:ren τ (.sl id off len es)= .sl (τ id) off len es:=by simp[ren]
theorem adR:ren τ (.pt id off)= .pt (τ id) off:=by simp[ren]
theorem adS:ren τ (.mp id)= .mp (τ id):=by simp[ren]
theorem adT:ren τ (.yl id)= .yl (τ id):=by simp[ren]
theorem WG{H:jG} {j:Nat}:rD τ (.tr H j)= .tr H j:=rfl
theorem WH:ren τ (.agg cs)= .agg (cs.map (ren τ)):=by simp[ren]
theorem WI:ren τ (.tup cs)= .tup (cs.map (ren τ)):=by simp[ren]
theorem adU:ren τ (.fn f cs)= .fn f (cs.map (ren τ)):=by simp[ren]
theorem WJ:ren τ .any= .any:=by simp[ren]
theorem M4:rD τ (.full cs e)= .full (cs.map (ren τ)) e:=rfl
theorem Ia:rD τ (.cells cs e)= .cells (cs.map (ren τ)) e:=rfl
theorem adV:bP id cs (.sl i off len es)=if i=id then .isl false ((cs.drop off).take (len*es)) len else .sl i off len es:=by simp[bP]
theorem adW:bP id cs (.pt i off)=if i=id then .ipt cs off else .pt i off:=by simp[bP]
theorem WK:bP id cs (.agg l)= .agg (l.map (bP id cs)):=by simp[bP]
theorem WL:bP id cs (.tup l)= .tup (l.map (bP id cs)):=by simp[bP]
theorem adX:bP id cs (.fn f l)= .fn f (l.map (bP id cs)):=by simp[bP]
theorem adY:bP id cs noV=noV:=by simp[noV,bP]
theorem WM:bP id cs (.val v)= .val v:=by simp[bP]
theorem WN:bP id cs (.isl z l n)= .isl z l n:=by simp[bP]
theorem WO:bP id cs (.ipt l k)= .ipt l k:=by simp[bP]
theorem adZ:bP id cs (.mp i)= .mp i:=by simp[bP]
theorem ad1:bP id cs (.yl i)= .yl i:=by simp[bP]
theorem WP{H:jG} {j:Nat}:w9 id cs (.tr H j)= .tr H j:=rfl
theorem WQ:bP id cs .any= .any:=by simp[bP]
theorem Ib:w9 id cs (.cells l e)= .cells (l.map (bP id cs)) e:=rfl
def dfzS(st:St)(σ:List Nat)(k off len es:Nat):Option aC->AV
 |some (.cells cs _)=> .isl false (((cs.drop off).take (len*es)).map (dfz st σ k)) len
 |_=> .any
def dfzP(st:St)(σ:List Nat)(k off:Nat):Option aC->AV
 |some (.cells cs _)=> .ipt (cs.map (dfz st σ k)) off
 |_=> .any
theorem ad2:dfzS st σ k off len es (some (.cells cs e))= .isl false (((cs.drop off).take (len*es)).map (dfz st σ k)) len:=rfl
theorem ad3:dfzP st σ k off (some (.cells cs e))= .ipt (cs.map (dfz st σ k)) off:=rfl
theorem ad4(h:0<k):dfz st σ k (.sl id off len es)=if mM σ id=true then .any else dfzS st σ (k-1) off len es (aQ st.objs id).join:=by
 obtain⟨k,rfl⟩:∃j,k=j+1:=⟨k-1,omgz⟩
 rw[dfz];split
 ·rfl
 ·cases(aQ st.objs id).join with
  |none=>rfl
  |some o=>cases o<;>rfl
theorem ad5(h:0<k):dfz st σ k (.pt id off)=if mM σ id=true then .any else dfzP st σ (k-1) off (aQ st.objs id).join:=by
 obtain⟨k,rfl⟩:∃j,k=j+1:=⟨k-1,omgz⟩
 rw[dfz];split
 ·rfl
 ·cases(aQ st.objs id).join with
  |none=>rfl
  |some o=>cases o<;>rfl
theorem WR(h:0<k):dfz st σ k (.agg l)= .agg (l.map (dfz st σ (k-1))):=by obtain⟨k,rfl⟩:∃j,k=j+1:=⟨k-1,omgz⟩;rw[dfz];rfl
theorem WS(h:0<k):dfz st σ k (.tup l)= .tup (l.map (dfz st σ (k-1))):=by obtain⟨k,rfl⟩:∃j,k=j+1:=⟨k-1,omgz⟩;rw[dfz];rfl
theorem ad6(h:0<k):dfz st σ k (.fn f l)= .fn f (l.map (dfz st σ (k-1))):=by obtain⟨k,rfl⟩:∃j,k=j+1:=⟨k-1,omgz⟩;rw[dfz];rfl
theorem uo(h:0<k):dfz st σ k (.val v)= .val v:=by obtain⟨k,rfl⟩:∃j,k=j+1:=⟨k-1,omgz⟩;rw[dfz]
theorem J9(h:0<k):dfz st σ k (.isl z l n)= .isl z l n:=by obtain⟨k,rfl⟩:∃j,k=j+1:=⟨k-1,omgz⟩;rw[dfz]
theorem Ka(h:0<k):dfz st σ k (.ipt l n)= .ipt l n:=by obtain⟨k,rfl⟩:∃j,k=j+1:=⟨k-1,omgz⟩;rw[dfz]
theorem ad7:dfz st σ k (.mp id)= .any:=by cases k<;>rw[dfz]
theorem ad8:dfz st σ k (.yl id)= .any:=by cases k<;>rw[dfz]
theorem WT:dfz st σ k .any= .any:=by cases k<;>rw[dfz]
variable {fz:Bool}
theorem ad9(h:0<k):toA st σ fz k (.sl id off len es)=if mM σ id=true then .sl (rF σ id) off len es else if fz=true then dfz st σ (k-1) (.sl id off len es) else .any:=by obtain⟨k,rfl⟩:∃j,k=j+1:=⟨k-1,omgz⟩;rw[toA];rfl
theorem aea(h:0<k):toA st σ fz k (.pt id off)=if mM σ id=true then .pt (rF σ id) off else if fz=true then dfz st σ (k-1) (.pt id off) else .any:=by obtain⟨k,rfl⟩:∃j,k=j+1:=⟨k-1,omgz⟩;rw[toA];rfl
theorem aeb(h:0<k):toA st σ fz k (.mp id)=if mM σ id=true then .mp (rF σ id) else .any:=by obtain⟨k,rfl⟩:∃j,k=j+1:=⟨k-1,omgz⟩;rw[toA]
theorem aec(h:0<k):toA st σ fz k (.yl id)=if mM σ id=true then .yl (rF σ id) else .any:=by obtain⟨k,rfl⟩:∃j,k=j+1:=⟨k-1,omgz⟩;rw[toA]
theorem WU(h:0<k):toA st σ fz k (.agg l)= .agg (l.map (toA st σ fz (k-1))):=by obtain⟨k,rfl⟩:∃j,k=j+1:=⟨k-1,omgz⟩;rw[toA];rfl
theorem WV(h:0<k):toA st σ fz k (.tup l)= .tup (l.map (toA st σ fz (k-1))):=by obtain⟨k,rfl⟩:∃j,k=j+1:=⟨k-1,omgz⟩;rw[toA];rfl
theorem aed(h:0<k):toA st σ fz k (.fn f l)= .fn f (l.map (toA st σ fz (k-1))):=by obtain⟨k,rfl⟩:∃j,k=j+1:=⟨k-1,omgz⟩;rw[toA];rfl
theorem uq(h:0<k):toA st σ fz k (.val v)= .val v:=by obtain⟨k,rfl⟩:∃j,k=j+1:=⟨k-1,omgz⟩;rw[toA]
theorem Kb(h:0<k):toA st σ fz k (.isl z l n)= .isl z l n:=by obtain⟨k,rfl⟩:∃j,k=j+1:=⟨k-1,omgz⟩;rw[toA]
theorem Kc(h:0<k):toA st σ fz k (.ipt l n)= .ipt l n:=by obtain⟨k,rfl⟩:∃j,k=j+1:=⟨k-1,omgz⟩;rw[toA]
theorem WW:toA st σ fz k .any= .any:=by cases k<;>rw[toA]
theorem M5:toO st σ fz (.cells cs e)= .cells (cs.map (toA st σ fz 8)) e:=rfl
theorem WX{ag:Bool} {lm:List (List Int×AV)}:toO st σ fz (.map ag n lm)= .map ag n (lm.map λx=>(x.1,toA st σ fz 8 x.2)):=rfl
theorem PX:toO st σ fz (.full cs e)= .full (cs.map (toA st σ fz 8)) e:=rfl
theorem aee{H:jG} {j:Nat}:toO st σ fz (.tr H j)= .tr H j:=rfl
theorem WY:trs []=[]:=rfl
theorem M6{cs:List AV} {e:TypeId} {l:List aC}:trs (.cells cs e::l)=trs l:=rfl
theorem WZ{ag:Bool} {n:Nat} {m:List (List Int×AV)} {l:List aC}:trs (.map ag n m::l)=trs l:=rfl
theorem PY{cs:List AV} {e:TypeId} {l:List aC}:trs (.full cs e::l)=trs l:=rfl
theorem aef{H:jG} {j:Nat} {l:List aC}:trs (.tr H j::l)=H::trs l:=rfl
theorem aeg{o:aC}:VY st σ fz (some o)=toO st σ fz o:=rfl
theorem PZ:BA st σ fz id=VY st σ fz (aQ st.objs id).join:=rfl
end
section
variable {st:St} {σ:List Nat} {fz:Bool} {n:Nat} {kd:IntKind}
theorem aeh{l:List ByteArray}(h:0<n):(cS l).map (dfz st σ n)=cS l:=by
 unfold cS;rw[List.map_map];exact List.map_congr_left (λx _=>uo h)
theorem aei{l:List Bool}(h:0<n):(cB l).map (dfz st σ n)=cB l:=by
 unfold cB;rw[List.map_map];exact List.map_congr_left (λx _=>uo h)
theorem aej{l:List Int}(h:0<n):(cI kd l).map (dfz st σ n)=cI kd l:=by
 unfold cI;rw[List.map_map];exact List.map_congr_left (λx _=>uo h)
theorem aek{l:List ByteArray}(h:0<n):(cS l).map (toA st σ fz n)=cS l:=by
 unfold cS;rw[List.map_map];exact List.map_congr_left (λx _=>uq h)
theorem ael{l:List Bool}(h:0<n):(cB l).map (toA st σ fz n)=cB l:=by
 unfold cB;rw[List.map_map];exact List.map_congr_left (λx _=>uq h)
theorem aem{l:List Int}(h:0<n):(cI kd l).map (toA st σ fz n)=cI kd l:=by
 unfold cI;rw[List.map_map];exact List.map_congr_left (λx _=>uq h)
end
theorem Sub.mk2{σ:List Nat} {n m:Nat} {env env':List (Nat×AV)} {objs objs':List (Nat×Option aC)}(h:σ.Nodup/\σ.take m=List.range m/\kE σ ⟨n,m,env,objs⟩ objs'/\yT σ ⟨n,m,env,objs⟩ env'):
 Sub σ ⟨n,m,env',objs'⟩ ⟨n,m,env,objs⟩:=Sub.mk' h.2.2.2 h.2.2.1 h.1 h.2.1
end
section
def cAt:List Nat->Code->Code
 |0::p,.seq a _=>cAt p a
 |1::p,.seq _ b=>cAt p b
 |0::p,.block _ c=>cAt p c
 |0::p,.loop c=>cAt p c
 |0::p,.cond _ x _=>cAt p x
 |1::p,.cond _ _ y=>cAt p y
 |_,c=>c
attribute [push_cast] Vh OE Vi Vj Vk Vl kC lD
attribute [push_cast] oU idx Vu Vv Vw Vx Vy Vz
attribute [push_cast] ac8 VA Ha VB VC VD VE VF
attribute [push_cast] VG VH VI OT OU OW OX OY
attribute [push_cast] OZ O0 ac9 ah7 ah8 ada
attribute [push_cast] yT kE WC WE WF adQ adR
attribute [push_cast] adS WH WI adU WJ Ia VR VS
attribute [push_cast] VT VU ade adf adg VW VX adi
attribute [push_cast] Hr ES MF MG MH MI Pi Pj
attribute [push_cast] Pk MK ML Po CF EX EY PW
attribute [push_cast] aiA w_u8 ab2 ab3 aiB Wy Wz WA
attribute [push_cast] WB MZ EU EW M0 H7
attribute [push_cast] H8 H9 H6 Wx HV Hu Hw Hy
attribute [push_cast] Hz rF mM ad9 aea aeb WU WV aed uq Kb Kc WW
attribute [push_cast] ad4 ad5 ad7 WR WS ad6 uo J9 Ka WT ad2 ad3
attribute [push_cast] aeh aei aej aek ael aem M5 WX PX aeg PZ
attribute [push_cast] Wd We adP adY ac6 g_no
attribute [push_cast] ET eP eX nK Hl om j6 inN
attribute [push_cast] adT WG ad1 WP ad8 aec aee WY M6 WZ PY aef adh VV Pm MJ
attribute [push_cast] adV adW WK WL adX WM WN WO
attribute [push_cast] adZ WQ Ib pq EM Cy O9 sG
attribute [push_cast] HY MM MN Ps MP nO adH adI
attribute [push_cast] adJ MQ PR adp cS_get adt Wi Wm
attribute [push_cast] adK adL adM Wq Wu adw adz adC PT adE adN
attribute [push_cast] PS adq cB_get adu Wj Wo Ws Wv
attribute [push_cast] adx adA adD PU adF adO H5 adr
attribute [push_cast] ads adv Wl Wp Wt Ww ady adB
attribute [push_cast] sH PV adG fF aif adl VZ e_ev
attribute [push_cast] e_ob aig aih e_pt adm adn aii aij
attribute [push_cast] aik e_sl ail aim e_cl V3 Pw ain
attribute [push_cast] ado MS HZ MU V4 Px V5 Py
attribute [push_cast] Pz V6 PD PE PG PH PI PK PL
attribute [push_cast] PN aio PM PO PP PQ MV MW MX aip
attribute [push_cast] aiq air ais ait aiu aiv aiw aix
attribute [push_cast] aiy aiz V7 V8 V9 Wh Pv MR
attribute [push_cast] adj adk aid aie Go.Value.oneCell' List.map_cons List.map_nil List.nil_append
attribute [push_cast] List.cons_append List.append_nil Nat.add_zero Nat.zero_add Nat.mul_one Nat.zero_mul Int.toNat_natCast Int.toNat_zero
attribute [push_cast] if_true if_false Option.getD_some Option.getD_none Option.join_some Option.join_none Option.bind_some Option.map_some
attribute [push_cast] Option.some.injEq Prod.mk.injEq AV.val.injEq Value.int.injEq Value.bool.injEq Value.string.injEq AV.pt.injEq AV.ipt.injEq
attribute [push_cast] AV.sl.injEq AV.isl.injEq AV.agg.injEq AV.tup.injEq aC.cells.injEq exists_eq_left' exists_eq_left exists_and_left
attribute [push_cast] exists_and_right and_assoc true_and and_true and_self exists_const false_and and_false
attribute [push_cast] false_or or_false true_or or_true exists_false ne_eq not_true_eq_false not_false_eq_true
attribute [push_cast] List.getElem?_cons_zero List.getElem?_cons_succ List.length_cons List.length_nil List.length_map List.length_append List.length_set List.length_replicate
attribute [push_cast] List.all_cons List.all_nil Bool.and_true Bool.true_and Bool.and_self List.drop_zero List.take_succ_cons List.drop_succ_cons
attribute [push_cast] List.take_zero List.drop_nil List.take_nil List.set_cons_zero List.set_cons_succ Bool.not_true Bool.not_false Bool.false_eq_true
attribute [push_cast] Bool.true_eq_false decide_eq_true_eq decide_eq_false_iff_not Bool.not_eq_true' Bool.not_eq_false' false_implies true_implies Bool.not_eq_true
attribute [push_cast] Bool.not_eq_false Bool.not_not decide_true decide_false Int.natCast_zero Int.natCast_add Int.natCast_one eq_self
attribute [push_cast] List.mem_cons forall_eq_or_imp forall_eq List.not_mem_nil implies_true List.map_map Function.comp_def List.getD_cons_zero
attribute [push_cast] List.getD_cons_succ List.forall_mem_map List.forall_mem_append List.nodup_cons List.nodup_nil List.Nodup.eq_1 or_self not_or
attribute [push_cast] List.range_succ List.range_zero List.contains_cons List.contains_nil Bool.or_false Bool.false_or Bool.or_true Bool.true_or
attribute [push_cast] Option.isSome_some Option.isSome_none Nat.le_refl
end
section
open Go.ChangeShapes Go.WideShapes Go.ChangeAt Go.RowKit
def More(W W':World):Prop:=W'.os=W.os/\W'.output=W.output/\W.heap.size<=W'.heap.size/\∀b,b<W.heap.size->W'.heap[b]? =W.heap[b]?
theorem More.kept{W W':World}(h:More W W')(may:MemPlace->Prop):W.keptBut W' may:=by
 refine⟨h.1,h.2.1,λi hi=>?_⟩
 rw[h.2.2.2 i hi]
 cases W.heap[i]? with
 |none=>rfl
 |some o=>cases o<;>simp
theorem ACall.law{P:Program} {f:FuncId} {args:List AV} {vs:Array Value}(h:ACall P f args [] 0 (.val (.bool true)) [])(w:World)(hs:vs.size=args.length)
 (hr:∀j (h:j<args.length),Rep w (λb=>b<w.heap.size) (λ_=>none) (vs.getD j undef) args[j]) (hl:Laid (λb=>b<w.heap.size) w):
 Calls P f vs w λe w'=>e= .returned (.bool true)/\More w w':=by
 have:=h w (λb=>b<w.heap.size) (λ_=>False) (λ_=>none) vs hs hr (λb hb=>⟨hb,id⟩) (λb hb=>hb.elim) (λj h=>by simp at h) (λj p h=>by cases h) (λi j b s s' h=>by cases h) (Hid.none (λ_ _ _=>by simp)) hl
 refine this.mono λe w'=>?_
 rintro⟨v,ρ',J',rfl,hv,_,hk,_⟩
 refine⟨?_,hk.os,hk.output,hk.size,λb hb=>hk.block b hb id⟩
 cases hv;rfl
theorem P5{H:Type} {enc:TypeId×Value->H} {P:Program} {f:Func} {s:ChangeSpec} {apart fresh handsOn:Bool} {W W':World} {args:Array Value} {v:Value} {ds gs:List (DataW H)} {before pa pv:List MemPlace}
 (hW:DataW.Whole enc P f.params.toList s.vars apart W args.toList ds gs before)
 (hres:∀(b:Nat) (sp:Nat->Bool) (hd:Bool),DataW.TrodAll enc P W' b sp hd f.resultTypes.toList (v.resultList f.resultTypes.size) (s.fn H (ds++gs)).results [])
 (hargs:∀sp:Nat->Bool,(∀p∈before,sp p.block=true)->DataW.TrodAll enc P W' 0 sp true f.params.toList args.toList (s.fn H (ds++gs)).args pa)
 (hvars:∀sp:Nat->Bool,(∀p∈before,sp p.block=true)->DataW.TrodVars enc P W' sp s.vars (s.fn H (ds++gs)).vars pv)
 (hm:More W W'):s.post enc P f apart fresh handsOn false W args v W':=by
 have hold:∀p∈before,(λb=>decide (b<W.heap.size)) p.block=true:=λp hp=>by simpa using hW.lt p hp
 exact⟨ds,gs,before,[],pa,pv,hW,hres _ _ _,hargs _ hold,hvars _ hold,hm.kept _,λh=>by cases h⟩
end
section
open Go.ChangeShapes Go.WideShapes Go.ChangeAt Go.RowKit
def pF(P:Program):Nat->TypeId->Bool
 |0,_=>false
 |n+1,t=>match P.underlying t with
  |some .bool=>true
  |some (.int _)=>true
  |some .string=>true
  |some (.slice e)=>pF P n e
  |some (.struct fs)=>fs.toList.all λf=>pF P n f.type
  |_=>false
def je(P:Program):Nat->TypeId->List AV->Prop
 |0,_,_=>False
 |n+1,t,as=>match P.underlying t with
  |some .bool=>∃b,as=[.val (.bool b)]
  |some (.int k)=>∃m,as=[.val (.int k m)]/\(Lit.int k m).wf=true
  |some .string=>∃s:ByteArray,as=[.val (.string s)]/\s.size<=reachBytes
  |some (.slice e)=>as=[.isl true [] 0]\/∃xs:List (List AV),as=[.isl false xs.flatten xs.length]/\(∀x∈xs,x.length=P.cellsOf e/\je P n e x)/\xs.length*P.bytesOf e<=reachBytes
  |some (.struct fs)=>∃xs:List (List AV),as=xs.flatten/\xs.length=fs.size/\∀(i:Nat) (f:Field) (x:List AV),fs[i]? =some f->xs[i]? =some x->je P n f.type x
  |_=>False
def nN(w:World)(cs:List Value)(as:List AV):Prop:=as.length=cs.length/\∀(j:Nat) (x:AV),as[j]? =some x->(cs.getD j undef).oneCell'=true/\Rep w (λb=>b<w.heap.size) (λ_=>none) (cs.getD j undef) x
theorem nN.one{w:World} {v:Value} {x:AV}(h1:v.oneCell'=true)(h2:Rep w (λb=>b<w.heap.size) (λ_=>none) v x):nN w [v] [x]:=by
 refine⟨rfl,λj y hj=>?_⟩
 cases j with
 |zero=>simp at hj;subst hj;exact⟨h1,h2⟩
 |succ j=>simp at hj
theorem nN.nil{w:World}:nN w [] []:=⟨rfl,λj x h=>by simp at h⟩
theorem nN.append{w:World} {cs ds:List Value} {as bs:List AV}(h:nN w cs as)(k:nN w ds bs):nN w (cs++ds) (as++bs):=by
 refine⟨by rw[List.length_append,List.length_append,h.1,k.1],λj x hx=>?_⟩
 by_cases hj:j<as.length
 ·rw[List.getElem?_append_left hj] at hx
  have:=h.2 j x hx
  rw[List.getD_eq_getElem?_getD,List.getElem?_append_left (by rw[<-h.1];exact hj),<-List.getD_eq_getElem?_getD]
  exact this
 ·rw[List.getElem?_append_right omgz] at hx
  have:=k.2 _ x hx
  rw[List.getD_eq_getElem?_getD,List.getElem?_append_right (by rw[<-h.1];omega),<-List.getD_eq_getElem?_getD,<-h.1]
  exact this
theorem P6{α:Type} {ce:Nat} {xs:List (List α)}(h:∀x∈xs,x.length=ce):xs.flatten.length=xs.length*ce:=by
 induction xs with
 |nil=>simp
 |cons x xs ih=>rw[List.flatten_cons,List.length_append,ih (λy hy=>h y (List.mem_cons_of_mem _ hy)),h x (List.mem_cons_self ..),List.length_cons,Nat.add_mul];omega
theorem P7{α:Type} {ce:Nat} {xs:List (List α)}(h:∀x∈xs,x.length=ce){i r:Nat} {x:List α}(hi:xs[i]? =some x)(hr:r<ce):xs.flatten[i*ce+r]? =x[r]? :=by
 induction xs generalizing i with
 |nil=>simp at hi
 |cons y xs ih=>
  have hy:=h y (List.mem_cons_self ..)
  cases i with
  |zero=>simp at hi;subst hi;rw[List.flatten_cons,List.getElem?_append_left omgz];simp
  |succ i=>
   rw[List.flatten_cons,List.getElem?_append_right (by rw[hy,Nat.add_mul];omega),hy,show(i+1)*ce+r-ce=i*ce+r by rw[Nat.add_mul];omega]
   exact ih (λz hz=>h z (List.mem_cons_of_mem _ hz)) (by simpa using hi)
theorem pG{α β:Type} {R:α->β->Prop}:∀(l:List α),(∀(i:Nat) (x:α),l[i]? =some x->∃y,R x y)->∃ys:List β,ys.length=l.length/\∀(i:Nat) (x:α) (y:β),l[i]? =some x->ys[i]? =some y->R x y
 |[],_=>⟨[],rfl,λi x y h=>by simp at h⟩
 |a::l,h=>by
  obtain⟨ys,h1,h2⟩:=pG l (λi x hx=>h (i+1) x (by simpa using hx))
  obtain⟨y,hy⟩:=h 0 a rfl
  refine⟨y::ys,by simp[h1],λi x z hx hz=>?_⟩
  cases i with
  |zero=>simp at hx hz;subst hx;subst hz;exact hy
  |succ i=>exact h2 i x z (by simpa using hx) (by simpa using hz)
theorem pI{H:Type} {P:Program} {e:TypeId} {d:DataW H} {k:Nat}:∀{l:List (DataW H)},d∈l->k∈d.weights P e->k∈DataW.weightsAll P e l
 |x::l,hd,hk=>by
  rw[DataW.weightsAll]
  rcases List.mem_cons.1 hd with rfl|hd
  ·exact List.mem_append_left _ hk
  ·exact List.mem_append_right _ (pI hd hk)
theorem jw{H:Type} {P:Program} {k:Nat}:∀{ts:List TypeId} {l:List (DataW H)} {i:Nat} {t:TypeId} {d:DataW H},ts[i]? =some t->l[i]? =some d->k∈d.weights P t->k∈DataW.weightsEach P ts l
 |t::ts,d::l,0,t',d',ht,hd,hk=>by simp at ht hd;subst ht;subst hd;rw[DataW.weightsEach];exact List.mem_append_left _ hk
 |t::ts,d::l,i+1,t',d',ht,hd,hk=>by rw[DataW.weightsEach];exact List.mem_append_right _ (jw (by simpa using ht) (by simpa using hd) hk)
 |[],_,_,_,_,ht,_,_=>by simp at ht
 |_::_,[],_,_,_,_,hd,_=>by simp at hd
section
variable {H:Type} {enc:TypeId×Value->H} {P:Program} {W:World} {held:Bool}
theorem wP(g:Nat->Nat):∀(fs:List Field) (k0:Nat) (cs:List Value) (R:Field->List AV->Prop),
 (∀(i:Nat) f,fs[i]? =some f->f.offset=k0+((fs.take i).map λf=>P.cellsOf f.type).sum)->
 (∀(i:Nat) f,fs[i]? =some f->∃as,R f as/\nN W ((cs.drop f.offset).take (P.cellsOf f.type)) as)->
 ∃xs:List (List AV),xs.length=fs.length/\(∀(i:Nat) f x,fs[i]? =some f->xs[i]? =some x->R f x)/\nN W ((cs.drop k0).take ((fs.map λf=>P.cellsOf f.type).sum)) xs.flatten
 |[],k0,cs,R,_,_=>⟨[],rfl,λi f x h=>by simp at h,by simpa using nN.nil⟩
 |f::fs,k0,cs,R,h1,h2=>by
  obtain⟨as,hR,hG⟩:=h2 0 f rfl
  have e0:=h1 0 f rfl
  simp at e0
  obtain⟨xs,k1,k2,k3⟩:=wP g fs (k0+P.cellsOf f.type) cs R (λi f' hf=>by
   have:=h1 (i+1) f' (by simpa using hf)
   rw[List.take_succ_cons,List.map_cons,List.sum_cons] at this;omega) (λi f' hf=>h2 (i+1) f' (by simpa using hf))
  refine⟨as::xs,by simp[k1],λi f' x hf hx=>?_,?_⟩
  ·cases i with
   |zero=>simp at hf hx;subst hf;subst hx;exact hR
   |succ i=>exact k2 i f' x (by simpa using hf) (by simpa using hx)
  ·rw[e0] at hG
   have:=hG.append k3
   rw[List.flatten_cons,List.map_cons,List.sum_cons,List.take_add,List.drop_drop]
   exact this
theorem M7(K:Kids P (· <P.types.size))(hz:∀t e,t<P.types.size->P.underlying t=some (.slice e)->0<P.cellsOf e):∀(m:Nat) (t:TypeId) (cs:List Value) (x:DataW H×List MemPlace) (fuel:Nat),t<P.types.size->pF P m t=true->
 DataW.trod enc P W 0 (λ_=>true) held fuel t cs=some x->(∀k∈x.1.weights P t,k<=reachBytes)->∃as,je P m t as/\nN W cs as:=by
 intro m
 induction m with
 |zero=>intro t cs x fuel _ h;simp[pF] at h
 |succ m ih=>
  intro t cs x fuel ht hp h hw
  unfold pF at hp
  split at hp
  ·rename_i hu
   obtain⟨b,rfl,_⟩:=DataW.trod_bool hu h
   exact⟨[.val (.bool b)],by unfold je;rw[hu];exact⟨b,rfl⟩,nN.one rfl (.val _)⟩
  ·rename_i k hu
   obtain⟨n,rfl,_,hwf⟩:=DataW.trod_int hu h
   exact⟨[.val (.int k n)],by unfold je;rw[hu];exact⟨n,rfl,hwf⟩,nN.one rfl (.val _)⟩
  ·rename_i hu
   obtain⟨s,rfl,rfl,_⟩:=DataW.trod_string hu h
   have:=hw s.data.toList.length (by rw[DataW.weights];exact List.mem_singleton.2 rfl)
   refine⟨[.val (.string s)],?_,nN.one rfl (.val _)⟩
   unfold je;rw[hu];exact⟨s,rfl,by rw[Array.length_toList] at this;exact this⟩
  ·rename_i e hu
   rcases DataW.trod_slice hu h with⟨rfl,rfl⟩|⟨a,len,cap,elems,rest,n,rfl,rfl,rfl,_,hl,hc,hlen,hel,_,_⟩
   ·exact⟨[.isl true [] 0],by unfold je;rw[hu];exact .inl rfl,nN.one rfl .inil⟩
   ·have he:=K.slice ht hu
    have hpos:=hz t e ht hu
    have hwe:∀y∈elems,∀k∈y.1.weights P e,k<=reachBytes:=λy hy k hk=>hw k (by
     simp only[DataW.weights,hu]
     exact List.mem_cons_of_mem _ (List.mem_append_left _ (pI (List.mem_map.2 ⟨y,hy,rfl⟩) hk)))
    have hwl:(elems.length+rest.length)*P.bytesOf e<=reachBytes:=hw _ (by simp only[DataW.weights,hu,List.length_map];exact List.mem_cons_self ..)
    have each:∀(i:Nat) (y:Nat),(List.range len)[i]? =some y->∃z:List Value×List AV,W.cells? 0 (a.add (y*P.cellsOf e)) (P.cellsOf e)=some z.1/\je P m e z.2/\nN W z.1 z.2:=by
     intro i y hy
     have hi:y<len:=by have:=List.mem_of_getElem? hy;simpa using this
     have h1:=hel y hi
     obtain⟨q,hq⟩:∃q,elems[y]? =some q:=⟨_,List.getElem?_eq_getElem omgz⟩
     rw[hq,Option.bind_eq_some_iff] at h1
     obtain⟨cs',hcs,htr⟩:=h1
     obtain⟨as,h2,h3⟩:=ih e cs' q n he hp htr (hwe q (List.mem_of_getElem? hq))
     exact⟨⟨cs',as⟩,hcs,h2,h3⟩
    obtain⟨zs,hz1,hz2⟩:=pG _ each
    rw[List.length_range] at hz1
    have hzi:∀(i:Nat) (z:List Value×List AV),zs[i]? =some z->W.cells? 0 (a.add (i*P.cellsOf e)) (P.cellsOf e)=some z.1/\je P m e z.2/\nN W z.1 z.2:=λi z hi=>by
     have hil:i<len:=by have:=(List.getElem?_eq_some_iff.1 hi).1;omega
     exact hz2 i i z (by simp[hil]) hi
    have hxl:∀x∈zs.map (·.2),x.length=P.cellsOf e:=by
     intro x hx
     obtain⟨z,hz',rfl⟩:=List.mem_map.1 hx
     obtain⟨i,hi⟩:=List.mem_iff_getElem?.1 hz'
     obtain⟨h1,_,h3⟩:=hzi i z hi
     rw[h3.1,(World.cells?_some h1).2.1]
    refine⟨[.isl false (zs.map (·.2)).flatten (zs.map (·.2)).length],?_,nN.one rfl ?_⟩
    ·unfold je;rw[hu]
     refine .inr ⟨zs.map (·.2),rfl,λx hx=>⟨hxl x hx,?_⟩,?_⟩
     ·obtain⟨z,hz',rfl⟩:=List.mem_map.1 hx
      obtain⟨i,hi⟩:=List.mem_iff_getElem?.1 hz'
      exact(hzi i z hi).2.1
     ·refine Nat.le_trans (Nat.mul_le_mul_right _ ?_) hwl
      rw[List.length_map];omega
    ·have hln:(zs.map (·.2)).length=len:=by simp[hz1]
     rw[hln]
     by_cases h0:len=0
     ·have:zs=[]:=List.length_eq_zero_iff.1 omgz
      subst this;subst h0;exact .iemp a cap
     ·have hcell:∀(i r:Nat),i<len->r<P.cellsOf e->∃z v x,zs[i]? =some z/\z.1[r]? =some v/\z.2[r]? =some x/\W.cell? ((a.add (i*P.cellsOf e)).add r)=some v/\v.oneCell'=true/\Rep W (λb=>b<W.heap.size) (λ_=>none) v x:=by
       intro i r hi hr
       obtain⟨z,hz'⟩:∃z,zs[i]? =some z:=⟨_,List.getElem?_eq_getElem omgz⟩
       obtain⟨h1,_,h3⟩:=hzi i z hz'
       obtain⟨_,h4,h5⟩:=World.cells?_some h1
       obtain⟨v,hv⟩:∃v,z.1[r]? =some v:=⟨_,List.getElem?_eq_getElem omgz⟩
       obtain⟨x,hx⟩:∃x,z.2[r]? =some x:=⟨_,List.getElem?_eq_getElem (by rw[h3.1];omega)⟩
       obtain⟨g1,g2⟩:=h3.2 r x hx
       have e1:z.1.getD r undef=v:=by rw[List.getD_eq_getElem?_getD,hv];rfl
       rw[e1] at g1 g2
       exact⟨z,v,x,hz',hv,hx,by rw[h5 r hr,hv],g1,g2⟩
      obtain⟨b,off,sp⟩:=a
      obtain⟨z0,v0,x0,_,_,_,hc0,_⟩:=hcell 0 0 omgz hpos
      have hsp:sp=none:=by
       cases sp with
       |none=>rfl
       |some k=>
        have e0:((⟨b,off,some k⟩:Addr).add (0*P.cellsOf e)).add 0=⟨b,off,some k⟩:=by simp[Addr.add]
        rw[e0] at hc0
        unfold World.cell? at hc0
        simp only[Option.isSome_some,if_true] at hc0
        split at hc0<;>simp at hc0
      subst hsp
      have hbl:b<W.heap.size:=by
       rw[Addr.add_lit,Addr.add_lit] at hc0
       exact World.block_lt_of_cell? W _ hc0
      have hflen:=P6 hxl
      rw[hln] at hflen
      have hdm:∀j,j<(zs.map (·.2)).flatten.length->∃z v x,zs[j/P.cellsOf e]? =some z/\z.1[j%P.cellsOf e]? =some v/\(zs.map (·.2)).flatten[j]? =some x/\W.cell? ⟨b,off+j,none⟩=some v/\v.oneCell'=true/\Rep W (λb=>b<W.heap.size) (λ_=>none) v x:=by
       intro j hj
       have hi:j/P.cellsOf e<len:=(Nat.div_lt_iff_lt_mul hpos).2 (by rw[<-hflen];exact hj)
       have hr:j%P.cellsOf e<P.cellsOf e:=Nat.mod_lt _ hpos
       obtain⟨z,v,x,g1,g2,g3,g4,g5,g6⟩:=hcell _ _ hi hr
       have hj':j/P.cellsOf e*P.cellsOf e+j%P.cellsOf e=j:=by rw[Nat.mul_comm];exact Nat.div_add_mod _ _
       refine⟨z,v,x,g1,g2,?_,?_,g5,g6⟩
       ·rw[<-g3,<-P7 hxl (i:=j/P.cellsOf e) (by simp[g1]) hr,hj']
       ·rw[<-g4,Addr.add_lit,Addr.add_lit];rw[show off+j/P.cellsOf e*P.cellsOf e+j%P.cellsOf e=off+j by omega]
      have hu':∀j,j<(zs.map (·.2)).flatten.length->((W.cell? ⟨b,off+j,none⟩).getD undef).oneCell'=true/\W.cell? ⟨b,off+j,none⟩=some ((W.cell? ⟨b,off+j,none⟩).getD undef)/\
       ∀h:j<(zs.map (·.2)).flatten.length,Rep W (λb=>b<W.heap.size) (λ_=>none) ((W.cell? ⟨b,off+j,none⟩).getD undef) (zs.map (·.2)).flatten[j]:=by
       intro j hj
       obtain⟨z,v,x,_,_,g3,g4,g5,g6⟩:=hdm j hj
       rw[g4]
       refine⟨g5,rfl,λh=>?_⟩
       rw[List.getElem?_eq_getElem h] at g3
       rw[Option.some.inj g3];exact g6
      exact .isl b off len cap _ (λj=>(W.cell? ⟨b,off+j,none⟩).getD undef) (λ_=>⟨hbl,hbl⟩) hl (λj hj=>(hu' j hj).1) (λj hj=>(hu' j hj).2.1) (λj hj=>(hu' j hj).2.2 hj)
  ·rename_i fs hu
   obtain⟨xs,n,rfl,rfl,hcl,hxl,hf⟩:=DataW.trod_struct hu h
   obtain⟨k1,k2,k3⟩:=K.struct ht hu
   have hone:∀(i:Nat) f,fs.toList[i]? =some f->∃as,je P m f.type as/\nN W ((cs.drop f.offset).take (P.cellsOf f.type)) as:=by
    intro i f hfi
    have hfa:fs[i]? =some f:=by simpa using hfi
    have h1:=hf i f hfa
    obtain⟨q,hq⟩:∃q,xs[i]? =some q:=⟨_,List.getElem?_eq_getElem (by rw[hxl];exact(Array.getElem?_eq_some_iff.1 hfa).1)⟩
    rw[hq] at h1
    refine ih f.type _ q n (k1 f (List.mem_of_getElem? hfi)) (List.all_eq_true.1 hp f (List.mem_of_getElem? hfi)) h1 (λk hk=>hw k ?_)
    simp only[DataW.weights,hu]
    exact jw (i:=i) (by rw[List.getElem?_map,hfi];rfl) (by rw[List.getElem?_map,hq];rfl) hk
   obtain⟨ys,g1,g2,g3⟩:=wP (W:=W) (P:=P) id fs.toList 0 cs (λf as=>je P m f.type as) (λi f hfi=>by rw[k3 i f hfi];simp) hone
   refine⟨ys.flatten,?_,?_⟩
   ·unfold je;rw[hu]
    exact⟨ys,rfl,by simpa using g1,λi f x hfi hx=>g2 i f x (by simpa using hfi) hx⟩
   ·rw[<-k2,List.drop_zero,<-hcl,List.take_length] at g3
    exact g3
  ·cases hp
end
end
section
open Go.ChangeShapes Go.WideShapes Go.ChangeAt Go.RowKit
section
variable {H:Type} {enc:TypeId×Value->H} {P:Program} {W W':World}
theorem Ke(K:Kids P (· <P.types.size))(hz:∀t e,t<P.types.size->P.underlying t=some (.slice e)->0<P.cellsOf e){r:Reach} {b:Nat} {m:Nat} {t:TypeId} {v:Value} {d:DataW H} {ps:List MemPlace} {held:Bool}(ht:t<P.types.size)(hp:pF P m t=true)
 (hs:(match P.underlying t with|some (.struct _)=>false|_=>true)=true) (hval:Value.okWide P W r b t v) (h:DataW.Trod enc P W 0 (λ_=>true) held t v d ps) (hw:∀k∈d.weights P t,k<=reachBytes):
 ∃x,je P m t [x]/\Rep W (λb=>b<W.heap.size) (λ_=>none) v x:=by
 obtain⟨fuel,hf⟩:=h
 obtain⟨as,h1,h2⟩:=M7 K hz m t _ _ fuel ht hp hf hw
 have hc:v.cells.toList=[v]:=by
  cases m with
  |zero=>simp[pF] at hp
  |succ m=>
   unfold pF at hp
   unfold Value.okWide at hval
   split at hp
   all_goals(try(rename_i hu;rw[hu] at hval hs))
   all_goals first
    |(cases hp;done)
    |(cases hs;done)
    |(simp only[Cell.okWide,Cell.ok] at hval
      rw[hu] at hval
      cases v<;>first|rfl|(simp at hval))
    |(rename_i hu;rw[hu] at hval hs;simp only[Cell.okWide,Cell.ok] at hval;rw[hu] at hval;cases v<;>first|rfl|(simp at hval))
 rw[hc] at h2
 obtain⟨g1,g2⟩:=h2
 cases as with
 |nil=>simp at g1
 |cons x as=>
  have:as=[]:=List.length_eq_zero_iff.1 (by simpa using g1)
  subst this
  exact⟨x,h1,(g2 0 x rfl).2⟩
theorem TrodAll.carry(hm:More W W'):∀{ts:List TypeId} {vs:List Value} {ds:List (DataW H)} {ps:List MemPlace},(∀p∈ps,p.block<W.heap.size)->DataW.TrodAll enc P W 0 (λ_=>true) true ts vs ds ps->DataW.TrodAll enc P W' 0 (λ_=>true) true ts vs ds ps
 |[],[],[],_,_,h=>h
 |t::ts,v::vs,d::ds,ps,hlt,⟨p,q,⟨n,h1⟩,h2,e⟩=>by
  refine⟨p,q,⟨n,DataW.trod_carry n t _ (d,p) h1 (λx hx=>?_)⟩,TrodAll.carry hm (λx hx=>hlt x (by rw[e];exact List.mem_append_right _ hx)) h2,e⟩
  have hb:=hm.2.2.2 x.block (hlt x (by rw[e];exact List.mem_append_left _ hx))
  cases x with
  |cell b off=>exact World.cell?_of_block (w:=W) (a:=⟨b,off,none⟩) hb
  |map b=>exact hb
end
end
section
section
variable {P:Program} {st:St} {nid:Nat} {dst:Option Nat} {ty:TypeId} {pos:String} {af:Array Edge} {g:Option (Nat×Bool)}
theorem A8(t:TypeId)(x y:Operand)(e:TypeId)(id off n es m:Nat)(cs cells:List AV)(he:jf P t=some e)(hs:siz P e=some es)(hp:0<es)
 (hx:st.op x= .sl id off n es) (ho:st.ob id=some (.cells cs e)) (hy:gY st (st.op y)=some (cells,m)) (hl:cells.length=m*es) (hfit:off+(n+m)*es<=cs.length):
 OpT P ⟨dst,.call ⟨.builtin .append,#[x,y],#[t,t]⟩,ty,pos,af,g⟩ nid 0 st ⟨.sl id off (n+m) es,[(id,some (.cells (spl cs (off+n*es) cells) e))]⟩:=OpT.modify ho λc ρ D J a w b s h hρ hob hJ=>by
 have e1:=h.op x;rw[hx] at e1
 obtain⟨i,hi,his⟩:∃i,P.info? e=some i/\i.size=es:=by
  unfold siz at hs
  cases hi:P.info? e with
  |none=>simp[hi] at hs
  |some i=>exact⟨i,rfl,by simpa[hi] using hs⟩
 generalize hv:a.eval x=v at e1
 cases e1 with
 |sl b' s' _ _ _ _ cap hρ' hc hsz=>
  rw[hρ] at hρ';cases hρ'
  have hcs:cs.length<=s:=by obtain⟨arr,_,has,hcr⟩:=hob;have:=hcr.1;omega
  have hroom:n+m<=cap:=by
   have h1:(n+m)*es<=cap*es:=by omega
   exact Nat.le_of_mul_le_mul_right h1 hp
  have hpos:off+n*es+cells.length<=cs.length:=by rw[hl];rw[Nat.add_mul] at hfit;omega
  rcases tV h (h.op y) hy hl with⟨hy0,h0,hc0⟩|⟨ad,cp,news,hyv,hmc,hnl,hnews,hone,hrep⟩
  ·subst h0;subst hc0
   refine⟨.value (.slice (some ⟨b,off,none⟩) (n+0) cap),w,_,?_,.inl rfl,rfl,rfl,rfl,rfl,λ_ _=>rfl,λhi'=>⟨.sl b s id off _ es cap hρ omgz hsz,?_⟩⟩
   ·simp[execOp,resolve,invoke,builtin,hv,hy0,Builtin.append_,run_underlying (bg he),sizeOf,typeInfo,hi,Builtin.lenOf,hc,Builtin.firstCells,storeCells]
   ·have:spl cs (off+n*es) []=cs:=by unfold spl;simp
    rw[this];exact hob
  ·obtain⟨w',hst,k1,k2,k3,k4,k5,k6⟩:=Mq (P:=P) (off:=off+n*es) (avs:=cells) hob (by rw[hnl,hl]) hone hrep hpos
   have hfc:=run_firstCells_some (P:=P) w i.size m ad m cp news (by rw[his];exact hnl) hnews
   refine⟨.value (.slice (some ⟨b,off,none⟩) (n+m) cap),w',_,?_,.inl rfl,k1,k2,k3,k4,k5,λhi'=>⟨.sl b s id off _ es cap hρ hroom hsz,k6 hi'⟩⟩
   subst his
   simp[execOp,resolve,invoke,builtin,hv,hyv,Builtin.append_,run_underlying (bg he),sizeOf,typeInfo,hi,Builtin.lenOf,hroom,hfc,Addr.add_lit,hst]
theorem CK(f:FuncId)(caps:Array Operand):OpT P ⟨dst,.makeFunc (.func f) #[] caps,ty,pos,af,g⟩ nid 0 st ⟨.fn f (caps.toList.map λx=>st.op x),[]⟩:= .pure λc ρ D J a w h=>by
 refine⟨.func (.func f) #[] (caps.map a.eval),by simp[execOp,Instr.makeFunc],.fn f _ _ (by simp) (λj hj=>?_)⟩
 have hj':j<caps.size:=by simpa using hj
 have:=h.op caps[j]
 simpa[Array.getD,hj'] using this
theorem Ic{f:FuncId} {x0:Operand} {caps:List AV} {xs:Array Operand} {tys:Array TypeId}
 {cargs:List AV} {cobjs:List aC} {m:Nat} {r:AV} {cobjs':List aC} (hx0:st.op x0= .fn f caps) (hc:ACall P f cargs cobjs m r cobjs') (σ:List Nat) (fz:Bool) (hp:ol P f=true) (hm:m<=cobjs.length) (hm':m<=cobjs'.length)
 (hσ:σ.length=cobjs.length) (hnd:σ.Nodup) (hlt:∀i∈σ,i<nid)
 (hob:∀j (h:j<cobjs.length),∃o,st.ob (σ.getD j 0)=some o/\cobjs[j]=toO st σ fz o)
 (hargs:cargs=((xs.toList.map λx=>st.op x)++caps).map (toA st σ fz 8))
 (hfz:fz=true->noImm r/\∀j (h:j<cobjs'.length),l7 cobjs'[j]) (htr:trs cobjs'=trs cobjs):
 OpT P ⟨dst,.call ⟨.value x0,xs,tys⟩,ty,pos,af,g⟩ nid (cobjs'.length-m) st ⟨ren (eX σ m nid) r,eP σ m nid cobjs'⟩:=by
 refine Bt (xvs:=(xs.toList.map λx=>st.op x)++caps) hc σ fz hm hm' (λc ρ D J a w hs=>?_) hσ hnd hlt hob hargs hfz htr
 have h0:=hs.op x0;rw[hx0] at h0
 generalize hv:a.eval x0=v at h0
 cases h0 with
 |fn _ ws _ hsz hcap=>
  refine⟨xs.map a.eval++ws,?_,by simp[hsz],λj hj=>?_⟩
  ·simp[execOp,resolve,hv,Deferred.ofValue,invoke,yS hp]
  ·by_cases hj1:j<xs.size
   ·have:=hs.op xs[j]
    have e1:(xs.map a.eval++ws).getD j undef=a.eval xs[j]:=by simp[Array.getD,Array.getElem_append,hj1];intro h;omega
    rw[e1,List.getElem_append_left (by simpa using hj1)]
    simpa using this
   ·have hj2:j-xs.size<caps.length:=by simp at hj;omega
    have:=hcap (j-xs.size) hj2
    have e1:(xs.map a.eval++ws).getD j undef=ws.getD (j-xs.size) undef:=by
     have h3:j<xs.size+ws.size:=by omega
     have h4:j-xs.size<ws.size:=by omega
     simp[Array.getD,Array.getElem_append,hj1,h3,h4]
    rw[e1,List.getElem_append_right (by simpa using Nat.le_of_not_lt hj1)]
    simpa using this
variable {K:Nat->Eff->Prop}
def W9:AV->Option (FuncId×List AV)
 | .fn f cs=>some (f,cs)
 |_=>none
theorem Xb{x:AV} {p:FuncId×List AV}(h:W9 x=some p):x= .fn p.1 p.2:=by
 cases x<;>simp[W9] at h
 subst h;rfl
theorem e_fn{f:FuncId} {cs:List AV}:W9 (.fn f cs)=some (f,cs):=rfl
theorem iP(f:FuncId)(caps:Array Operand)(h:K 0 ⟨.fn f (caps.toList.map λx=>st.op x),[]⟩):AO P ⟨dst,.makeFunc (.func f) #[] caps,ty,pos,af,g⟩ nid st K:=⟨_,_,CK f caps,h⟩
theorem dZ{e:TypeId} {es:Nat}(t:TypeId)(x y:Operand) [he:dW P t e] [hs:gJ P e es]
 (h:aH (A7 (st.op x)) λp=>aH (za (st.ob p.1)) λo=>aH (gY st (st.op y)) λq=>p.2.2.2=es/\o.2=e/\0<es/\q.1.length=q.2*es/\p.2.1+(p.2.2.1+q.2)*es<=o.1.length/\
   K 0 ⟨.sl p.1 p.2.1 (p.2.2.1+q.2) es,[(p.1,some (.cells (spl o.1 (p.2.1+p.2.2.1*es) q.1) e))]⟩):
 AO P ⟨dst,.call ⟨.builtin .append,#[x,y],#[t,t]⟩,ty,pos,af,g⟩ nid st K:=by
 obtain⟨⟨id,off,n,es'⟩,h1,⟨cs,e'⟩,h2,⟨cells,m⟩,h3,h4,h5,h6,h7,h8,h9⟩:=h
 dsimp only at h4 h5 h6 h7 h8 h9
 subst h4;subst h5
 exact⟨_,_,A8 t x y _ id off n _ m cs cells he.out hs.out h6 (ow h1) (mU h2) h3 h7 h8,h9⟩
theorem gq(f:FuncId){x0:Operand} {xs:Array Operand} {tys:Array TypeId} [hp:eU P f](σ:List Nat)(m:Nat)(fz:Bool)
 (h:aH (W9 (st.op x0)) λq=>q.1=f/\ET st σ/\m<=σ.length/\σ.Nodup/\(∀i∈σ,i<nid)/\
   ∀G:List AV->List aC->Prop,(∀as' os,Pp P f σ m fz nid K as' os->G as' os)->G (((xs.toList.map λx=>st.op x)++q.2).map (toA st σ fz 8)) (σ.map (BA st σ fz))):
 AO P ⟨dst,.call ⟨.value x0,xs,tys⟩,ty,pos,af,g⟩ nid st K:=by
 obtain⟨⟨f',caps⟩,h0,rfl,h2,h3,h4,h5,h6⟩:=h
 dsimp only at h0 h2 h3 h4 h5 h6
 obtain⟨r,cobjs',hc,hm,hfz,htr,hK⟩:=h6 _ (λ_ _ h=>h)
 exact⟨_,_,Ic (Xb h0) hc σ fz hp.out (by simpa using h3) hm (by simp) h4 h5 (vM h2) rfl (λhf=>⟨(hfz hf).1,λj hj=>(hfz hf).2 _ (List.getElem_mem hj)⟩) htr,hK⟩
theorem Frz.cut{n m:Nat} {env:List (Nat×AV)} {objs:List (Nat×Option aC)}(id k:Nat){cs:List AV} {e:TypeId}(h1':(⟨n,m,env,objs⟩:St).ob id=some (.cells cs e)):Frz ⟨n,m,env,objs⟩ ⟨n,m,env,(id,some (.cells (cs.take k) e))::objs⟩:=λc ρ D J a w hs=>by
 have hob:∀i o,(⟨n,m,env,(id,some (.cells (cs.take k) e))::objs⟩:St).ob i=some o->(i=id/\o= .cells (cs.take k) e)\/(⟨n,m,env,objs⟩:St).ob i=some o:=by
  intro i o hi
  simp only[St.ob,aQ] at hi
  split at hi
  ·rename_i hid;simp at hi;exact .inl ⟨hid,hi.symm⟩
  ·exact .inr hi
 have hex:∀i o,(⟨n,m,env,(id,some (.cells (cs.take k) e))::objs⟩:St).ob i=some o->∃o',(⟨n,m,env,objs⟩:St).ob i=some o':=by
  intro i o hi
  rcases hob i o hi with⟨rfl,_⟩|hi
  ·exact⟨_,h1'⟩
  ·exact⟨_,hi⟩
 refine⟨J,hs.defers,hs.tmps,hs.env,λi o ho=>?_,λi i' o o' b s s' g1 g2=>?_,hs.dom,hs.jok,hs.jlt,hs.ilt,hs.pin,hs.kept,hs.hid_of (λi=>i) (λi o ho=>?_) (λ_ _ _ _ _ _ _ _ e=>e) (λ_ h=> .inl h),hs.laid⟩
 ·rcases hob i o ho with⟨rfl,rfl⟩|ho
  ·obtain⟨b,s,k1,⟨arr,k2,k3,k4⟩,k5⟩:=hs.obj _ _ h1'
   refine⟨b,s,k1,⟨arr,k2,k3,?_,λj hj=>?_,k4.2.2⟩,k5⟩
   ·have:=k4.1;simp;omega
   ·have hj':j<cs.length:=by simp at hj;omega
    have:=k4.2.1 j hj'
    simpa using this
  ·exact hs.obj i o ho
 ·obtain⟨o1,q1⟩:=hex i o g1
  obtain⟨o2,q2⟩:=hex i' o' g2
  exact hs.inj i i' o1 o2 b s s' q1 q2
 ·rcases hob i o ho with⟨rfl,rfl⟩|ho
  ·exact⟨_,h1',λ_ _ e=>(by cases e),rfl⟩
  ·exact⟨o,ho,λ_ _ e=>e,rfl⟩
theorem Ends.cut{fn:Func} {objs0:List aC} {m0:Nat} {r:AV} {objs':List aC} {e:Exit} {n m:Nat} {env:List (Nat×AV)} {objs:List (Nat×Option aC)}(id k:Nat)
 (h:aH (za (aQ objs id).join) λo=>∀K:List (Nat×Option aC)->Prop,(∀objs'',Ends P fn objs0 m0 r objs' e ⟨n,m,env,objs''⟩->K objs'')->K ((id,some (.cells (o.1.take k) o.2))::objs)):Ends P fn objs0 m0 r objs' e ⟨n,m,env,objs⟩:=by
 obtain⟨⟨cs,e'⟩,h1,h2⟩:=h
 obtain⟨he,st',σ,hf,h⟩:=h2 (λobjs''=>Ends P fn objs0 m0 r objs' e ⟨n,m,env,objs''⟩) (λ_ h=>h)
 exact⟨he,st',σ,(Frz.cut id k (n:=n) (m:=m) (env:=env) (mU h1)).trans hf,h⟩
end
end
section
def ma(P:Program):Nat->List Field->Option (List IntKind)
 |_,[]=>some []
 |i,f::fs=>match nJ P f.type,ma P (i+1) fs with
  |some k,some ks=>if f.offset=i/\f.name≠ "_" then some (k::ks) else none
  |_,_=>none
def Ie(P:Program)(t:TypeId):Option (List IntKind):=match P.underlying t with
 |some (.struct fs)=>if P.stoodInHeld t then none else ma P 0 fs.toList
 |some (.array n e)=>match nJ P e,siz P e with
  |some k,some 1=>some (List.replicate n k)
  |_,_=>none
 |_=>none
def pJ(ks:List IntKind)(a:List Int):List Value:=List.zipWith (λk n=> .int k n) ks a
theorem pK{P:Program} {w:World} {t:TypeId} {k:IntKind}(h:nJ P t=some k){cs:Array Value} {i:Nat} {v:Value}(hv:cs[i]? =some v):(part t cs i).run P w= .ok v w:=by
 have ha:jy P t=some false:=by unfold jy;rw[gG h];rfl
 obtain⟨hlt,rfl⟩:=Array.getElem?_eq_some_iff.1 hv
 simp[part,fq ha,hlt]
theorem A9{P:Program} {d:Nat} {xs ys:Array Value}:∀(fs:List Field) (i:Nat) (ks:List IntKind) (a b:List Int) (w:World),ma P i fs=some ks->a.length=ks.length->b.length=ks.length->
 (∀j k n,ks[j]? =some k->a[j]? =some n->xs[i+j]? =some (.int k n))->(∀j k n,ks[j]? =some k->b[j]? =some n->ys[i+j]? =some (.int k n))->
 (Op.eqFields (d+1) xs ys fs).run P w= .ok (decide (a=b)) w:=by
 intro fs
 induction fs with
 |nil=>
  intro i ks a b w h ha hb _ _
  simp[ma] at h;subst h
  have:a=[]:=List.length_eq_zero_iff.1 ha
  have:b=[]:=List.length_eq_zero_iff.1 hb
  subst a;subst b
  simp[Op.eqFields]
 |cons f fs ih=>
  intro i ks a b w h ha hb hx hy
  unfold ma at h
  split at h
  ·rename_i k ks' hk hks
   split at h
   ·rename_i hc
    cases h
    obtain⟨x,a,rfl⟩:∃x l,a=x::l:=by cases a with|nil=>simp at ha|cons x l=>exact⟨x,l,rfl⟩
    obtain⟨y,b,rfl⟩:∃x l,b=x::l:=by cases b with|nil=>simp at hb|cons x l=>exact⟨x,l,rfl⟩
    have e1:=pK (w:=w) hk (hx 0 k x rfl rfl)
    have e2:=pK (w:=w) hk (hy 0 k y rfl rfl)
    simp only[Nat.add_zero] at e1 e2
    have e3:=ih (i+1) ks' a b w hks (by simpa using ha) (by simpa using hb) (λj k n h1 h2=>by have:=hx (j+1) k n (by simpa using h1) (by simpa using h2);rwa [show i+(j+1)=i+1+j by omega] at this)
     (λj k n h1 h2=>by have:=hy (j+1) k n (by simpa using h1) (by simpa using h2);rwa [show i+(j+1)=i+1+j by omega] at this)
    have e4:(Op.equalIn (d+1) f.type (.int k x) (.int k y)).run P w= .ok (x==y) w:=run_equalIn_int w d f.type k k x y (gG hk)
    simp only[Op.eqFields,if_pos hc.2,Sem.run_bind,hc.1,e1,e2,Result.andThen_ok,e4]
    by_cases hxy:x=y
    ·subst hxy;simp[e3]
    ·simp[hxy]
   ·cases h
  ·cases h
theorem M8{P:Program} {d:Nat} {e:TypeId} {k:IntKind}(hk:nJ P e=some k){xs ys:Array Value}(w:World):∀(n i:Nat) (a b:List Int),a.length=n->b.length=n->
 (∀j n,a[j]? =some n->xs[i+j]? =some (.int k n))->(∀j n,b[j]? =some n->ys[i+j]? =some (.int k n))->
 (forIn (m:=Sem) (List.range' i n 1) ((none,()):Option Bool×Unit) (λi _=>do
   let x<-part e xs (i*1)
   let y<-part e ys (i*1)
   let r<-Op.equalIn (d+1) e x y
   if(!r)=true then pure (ForInStep.done (some false,())) else pure (ForInStep.yield (none,())))).run P w= .ok (if a=b then(none,()) else(some false,())) w:=by
 intro n
 induction n with
 |zero=>
  intro i a b ha hb _ _
  have:a=[]:=List.length_eq_zero_iff.1 ha
  have:b=[]:=List.length_eq_zero_iff.1 hb
  subst a;subst b
  simp[List.range']
 |succ n ih=>
  intro i a b ha hb hx hy
  obtain⟨x,a,rfl⟩:∃x l,a=x::l:=by cases a with|nil=>simp at ha|cons x l=>exact⟨x,l,rfl⟩
  obtain⟨y,b,rfl⟩:∃x l,b=x::l:=by cases b with|nil=>simp at hb|cons x l=>exact⟨x,l,rfl⟩
  have e1:=pK (w:=w) hk (hx 0 x rfl)
  have e2:=pK (w:=w) hk (hy 0 y rfl)
  simp only[Nat.add_zero] at e1 e2
  have e4:(Op.equalIn (d+1) e (.int k x) (.int k y)).run P w= .ok (x==y) w:=run_equalIn_int w d e k k x y (gG hk)
  have e3:=ih (i+1) a b (by simpa using ha) (by simpa using hb) (λj n h2=>by have:=hx (j+1) n (by simpa using h2);rwa [show i+(j+1)=i+1+j by omega] at this)
        (λj n h2=>by have:=hy (j+1) n (by simpa using h2);rwa [show i+(j+1)=i+1+j by omega] at this)
  rw[List.range',List.forIn_cons]
  simp only[Nat.mul_one] at e3⊢
  simp only[Sem.run_bind,e1,e2,Result.andThen_ok,e4]
  by_cases hxy:x=y
  ·subst hxy
   simp only[beq_self_eq_true,Bool.not_true,Bool.false_eq_true,if_false,Sem.run_pure,Result.andThen_ok,e3,List.cons.injEq,true_and]
  ·simp[hxy]
theorem ze{ks:List IntKind} {a:List Int}(hl:a.length=ks.length)(j:Nat)(k:IntKind)(n:Int)(h1:ks[j]? =some k)(h2:a[j]? =some n):(pJ ks a).toArray[0+j]? =some (.int k n):=by
 simp[pJ,List.getElem?_zipWith,h1,h2]
theorem zh{P:Program} {t:TypeId} {ks:List IntKind}(h:Ie P t=some ks){a b:List Int}(ha:a.length=ks.length)(hb:b.length=ks.length)(w:World):
 (Op.equal t (.agg (pJ ks a).toArray) (.agg (pJ ks b).toArray)).run P w= .ok (decide (a=b)) w:=by
 show(Op.equalIn (9998+1+1) t _ _).run P w=_
 unfold Ie at h
 split at h
 ·rename_i fs hu
  split at h
  ·cases h
  ·rename_i hst
   have hst':P.stoodInHeld t=false:=by simpa using hst
   have hf:P.fieldsOf t=fs:=by unfold Program.fieldsOf;rw[hu]
   rw[run_equalIn_struct w (9998+1) t _ _ (by rw[hf];exact hu) hst',hf]
   exact A9 fs.toList 0 ks a b w h ha hb (ze ha) (ze hb)
 ·rename_i n e hu
  split at h
  ·rename_i k hk hz
   cases h
   simp only[List.length_replicate] at ha hb
   have hr:∀{a:List Int},a.length=n->∀j m,a[j]? =some m->(pJ (List.replicate n k) a).toArray[0+j]? =some (.int k m):=λ{a} ha j m hm=>
    ze (ks:=List.replicate n k) (by simpa using ha) j k m (by have:=(List.getElem?_eq_some_iff.1 hm).1;rw[List.getElem?_replicate,if_pos omgz]) hm
   have:=M8 (d:=9998) hk w n 0 a b ha hb (hr ha) (hr hb)
   rw[Op.equalIn]
   simp only[Sem.run_bind,run_underlying hu,Result.andThen_ok,dx hz,Std.Legacy.Range.forIn_eq_forIn_range',Std.Legacy.Range.size,Nat.sub_zero,Nat.add_sub_cancel,Nat.div_one]
   rw[this]
   by_cases hab:a=b<;>simp[hab]
  ·cases h
 ·cases h
class Ve(P:Program)(t:TypeId)(ks:outParam (List IntKind)):Prop where
 out:Ie P t=some ks
 gd:P.eqGuardType P.depth t=false
def pM:List AV->Option (List (IntKind×Int))
 |[]=>some []
 |x::l=>match ou x,pM l with
  |some p,some ps=>some (p::ps)
  |_,_=>none
def sI:AV->Option (List (IntKind×Int))
 | .agg cs=>pM cs
 |_=>none
theorem P9{cs:List AV}:sI (.agg cs)=pM cs:=rfl
theorem Qc:pM []=some []:=rfl
theorem Qd{k:IntKind} {n:Int} {l:List AV}:pM (.val (.int k n)::l)=(pM l).map (λps=>(k,n)::ps):=by
 show(match some (k,n),pM l with|some p,some ps=>some (p::ps)|_,_=>none)=_
 cases pM l<;>rfl
theorem EZ:∀{cs:List AV} {ps:List (IntKind×Int)},pM cs=some ps->cs=ps.map (λp=> .val (.int p.1 p.2))
 |[],ps,h=>by simp[pM] at h;subst h;rfl
 |x::l,ps,h=>by
  unfold pM at h
  split at h
  ·rename_i p qs h1 h2
   cases h
   rw[EZ h2,lU h1];rfl
  ·cases h
theorem ut{w:World} {J:Nat->Prop} {ρ:Rho} {v:Value} {ps:List (IntKind×Int)} {ks:List IntKind}(h:Rep w J ρ v (.agg (ps.map λp=> .val (.int p.1 p.2))))(hk:ps.map (·.1)=ks):v= .agg (pJ ks (ps.map (·.2))).toArray:=by
 subst hk
 cases h with
 |agg vs _ hs h=>
  congr 1
  apply Array.ext_getElem?
  intro j
  by_cases hj:j<ps.length
  ·have:=h j (by simpa using hj)
   have e:=aG (by simpa using this)
   have hj':j<vs.size:=by rw[hs];simpa using hj
   have e2:vs[j]? =some (Value.int ps[j].1 ps[j].2):=by
    rw[Array.getElem?_eq_getElem hj']
    simpa[Array.getD,hj'] using e
   rw[e2]
   simp[pJ,hj]
  ·rw[Array.getElem?_eq_none (by rw[hs];simpa using hj)]
   simp[pJ,List.getElem?_zipWith,List.getElem?_eq_none (Nat.le_of_not_lt hj)]
theorem qO{x:AV} {ps:List (IntKind×Int)}(h:sI x=some ps):x= .agg (ps.map λp=> .val (.int p.1 p.2)):=by
 unfold sI at h
 split at h
 ·rw[EZ h]
 ·cases h
def eqI:List Int->List Int->Bool
 |[],[]=>true
 |a::l,b::m=>decide (a=b)&&eqI l m
 |_,_=>false
theorem Ig:∀(a b:List Int),eqI a b=decide (a=b)
 |[],[]=>by simp[eqI]
 |a::l,b::m=>by simp[eqI,Ig l m]
 |[],_::_=>by simp[eqI]
 |_::_,[]=>by simp[eqI]
theorem aen:eqI [] []=true:=rfl
theorem aeo{a b:Int} {l m:List Int}:eqI (a::l) (b::m)=(decide (a=b)&&eqI l m):=rfl
section
variable {P:Program} {Q:Exit->Nat->St->Prop} {nid:Nat} {st:St} {dst:Option Nat} {ty:TypeId} {pos:String} {af:Array Edge} {g:Option (Nat×Bool)} {K:Nat->Eff->Prop}
theorem dC{ks:List IntKind}(t:TypeId)(x y:Operand)(t':TypeId) [ht:Ve P t ks](h:aH (sI (st.op x)) λxs=>aH (sI (st.op y)) λys=>xs.map (·.1)=ks/\ys.map (·.1)=ks/\K 0 ⟨.val (.bool (eqI (xs.map (·.2)) (ys.map (·.2)))),[]⟩):
 AO P ⟨dst,.binOp .eql t x y t',ty,pos,af,g⟩ nid st K:=by
 obtain⟨xs,h1,ys,h2,h3,h4,h5⟩:=h
 refine⟨0,_,.pure λc ρ D J a w hs=>?_,h5⟩
 have e1:=hs.op x;have e2:=hs.op y
 have k1:=qO h1
 have k2:=qO h2
 rw[k1] at e1;rw[k2] at e2
 refine⟨_,?_,.val _⟩
 simp only[execOp,ut e1 h3,ut e2 h4,Sem.run_bind,run_eqGuard_agg w _ t x y _ _ ht.gd,Result.andThen_ok,binOp,Op.equal]
 have:=zh ht.out (a:=xs.map (·.2)) (b:=ys.map (·.2)) (by rw[<-h3];simp) (by rw[<-h4];simp) w
 unfold Op.equal at this
 simp[this,Ig]
theorem bQ{ks:List IntKind}(t:TypeId)(x y:Operand)(t':TypeId) [ht:Ve P t ks](h:aH (sI (st.op x)) λxs=>aH (sI (st.op y)) λys=>xs.map (·.1)=ks/\ys.map (·.1)=ks/\K 0 ⟨.val (.bool !(eqI (xs.map (·.2)) (ys.map (·.2)))),[]⟩):
 AO P ⟨dst,.binOp .neq t x y t',ty,pos,af,g⟩ nid st K:=by
 obtain⟨xs,h1,ys,h2,h3,h4,h5⟩:=h
 refine⟨0,_,.pure λc ρ D J a w hs=>?_,h5⟩
 have e1:=hs.op x;have e2:=hs.op y
 have k1:=qO h1
 have k2:=qO h2
 rw[k1] at e1;rw[k2] at e2
 refine⟨_,?_,.val _⟩
 simp only[execOp,ut e1 h3,ut e2 h4,Sem.run_bind,run_eqGuard_agg w _ t x y _ _ ht.gd,Result.andThen_ok,binOp,Op.equal]
 have:=zh ht.out (a:=xs.map (·.2)) (b:=ys.map (·.2)) (by rw[<-h3];simp) (by rw[<-h4];simp) w
 unfold Op.equal at this
 simp[this,Ig]
theorem wQ(x y:Operand)(t1 t2:TypeId)(h:aH (ou (st.op x)) λp=>aH (ou (st.op y)) λq=>K 0 ⟨.val (.int p.1 (max p.2 q.2)),[]⟩):
 AO P ⟨dst,.call ⟨.builtin .max,#[x,y],#[t1,t2]⟩,ty,pos,af,g⟩ nid st K:=by
 obtain⟨p,h1,q,h2,h3⟩:=h
 refine⟨0,_,.pure λc ρ D J a w hs=>?_,h3⟩
 have e1:=hs.op x;have e2:=hs.op y
 rw[lU h1] at e1;rw[lU h2] at e2
 refine⟨_,?_,.val _⟩
 have hm:(if q.2>p.2 then q.2 else p.2)=max p.2 q.2:=by split<;>omega
 simp[execOp,resolve,invoke,builtin,aG e1,aG e2,Builtin.max_,Builtin.max2,hm]
theorem wR(x y:Operand)(t1 t2:TypeId)(h:aH (ou (st.op x)) λp=>aH (ou (st.op y)) λq=>K 0 ⟨.val (.int p.1 (min p.2 q.2)),[]⟩):
 AO P ⟨dst,.call ⟨.builtin .min,#[x,y],#[t1,t2]⟩,ty,pos,af,g⟩ nid st K:=by
 obtain⟨p,h1,q,h2,h3⟩:=h
 refine⟨0,_,.pure λc ρ D J a w hs=>?_,h3⟩
 have e1:=hs.op x;have e2:=hs.op y
 rw[lU h1] at e1;rw[lU h2] at e2
 refine⟨_,?_,.val _⟩
 have hm:(if q.2<p.2 then q.2 else p.2)=min p.2 q.2:=by split<;>omega
 simp[execOp,resolve,invoke,builtin,aG e1,aG e2,Builtin.min_,Builtin.min2,hm]
theorem jm{n:Nat} {e:TypeId}(t:TypeId)(x ix:Operand) [ht:vz P t n e] [ha:xw P e false] [hz:gJ P e 1](h:aH (y9 (st.op x)) λcs=>aH (jK (st.op ix)) λi=>(0<=i/\i<n)/\aH cs[i.toNat]? λy=>K 0 ⟨y,[]⟩):
 AO P ⟨dst,.index t x ix,ty,pos,af,g⟩ nid st K:=by
 obtain⟨cs,h1,i,h2,h3,y,h4,h5⟩:=h
 refine⟨0,_,.pure λc ρ D J a w hs=>?_,h5⟩
 have e1:=hs.op x;have e2:=hs.op ix
 rw[uk h1] at e1
 obtain⟨k,hk⟩:=iB h2
 rw[hk] at e2
 have e2:=aG e2
 obtain⟨hlt,rfl⟩:=List.getElem?_eq_some_iff.1 h4
 generalize hv:a.eval x=v at e1
 cases e1 with
 |agg vs _ hs' hr=>
  have hj:i.toNat<vs.size:=by omega
  exact⟨vs.getD i.toNat undef,by simp[execOp,hv,e2,Instr.index,asIntOf,run_underlying (lT ht.out),h3,dx hz.out,part,fq ha.out,hj,Array.getD],hr _ hlt⟩
theorem iG{n m:Nat} {e:TypeId}(t:TypeId)(x ix:Operand) [ht:vz P t n e] [ha:xw P e true] [hz:gJ P e m](h:aH (y9 (st.op x)) λcs=>aH (jK (st.op ix)) λi=>(0<=i/\i<n)/\i.toNat*m+m<=cs.length/\K 0 ⟨.agg ((cs.drop (i.toNat*m)).take m),[]⟩):
 AO P ⟨dst,.index t x ix,ty,pos,af,g⟩ nid st K:=by
 obtain⟨cs,h1,i,h2,h3,h4,h5⟩:=h
 refine⟨0,_,.pure λc ρ D J a w hs=>?_,h5⟩
 have e1:=hs.op x;have e2:=hs.op ix
 rw[uk h1] at e1
 obtain⟨k,hk⟩:=iB h2
 rw[hk] at e2
 have e2:=aG e2
 generalize hv:a.eval x=v at e1
 cases e1 with
 |agg vs _ hs' hr=>
  refine⟨.agg (vs.extract (i.toNat*m) (i.toNat*m+m)),by simp[execOp,hv,e2,Instr.index,asIntOf,run_underlying (lT ht.out),h3,dx hz.out,part,fq ha.out],.agg _ _ (by simp;omega) (λj hj=>?_)⟩
  have hj':i.toNat*m+j<cs.length:=by simp at hj;omega
  have:=hr (i.toNat*m+j) hj'
  have hj2:i.toNat*m+j<vs.size:=by omega
  have hj3:j<m:=by simp at hj;omega
  have e2:(vs.extract (i.toNat*m) (i.toNat*m+m)).getD j undef=vs.getD (i.toNat*m+j) undef:=by
   have h1:j<min (i.toNat*m+m) vs.size-i.toNat*m:=by omega
   simp[Array.getD_eq_getD_getElem?,Array.getElem?_extract,h1,hj2]
  rw[e2]
  simpa using this
theorem iQ(t:TypeId)(x ix:Operand) [ht:Eo P t](h:aH (y8 (st.op x)) λs=>aH (jK (st.op ix)) λi=>(0<=i/\i<s.size)/\K 0 ⟨.val (.int .u8 (s.get! i.toNat).toNat),[]⟩):
 AO P ⟨dst,.index t x ix,ty,pos,af,g⟩ nid st K:=by
 obtain⟨s,h1,i,h2,h3,h5⟩:=h
 refine⟨0,_,.pure λc ρ D J a w hs=>?_,h5⟩
 have e1:=hs.op x;have e2:=hs.op ix
 rw[uj h1] at e1
 have e1:=aG e1
 obtain⟨k,hk⟩:=iB h2
 rw[hk] at e2
 have e2:=aG e2
 have hj:i.toNat<s.size:=by omega
 refine⟨_,?_,.val _⟩
 have e3:s[i.toNat]? =some (s.get! i.toNat):=by
  rw[getElem?_pos s i.toNat hj]
  congr 1
  simp[ByteArray.get!,ByteArray.getElem_eq_getElem_data]
  rw[getElem!_pos]
 simp[execOp,e1,e2,Instr.index,asIntOf,run_underlying (iL ht.out),h3.1,e3]
end
end
