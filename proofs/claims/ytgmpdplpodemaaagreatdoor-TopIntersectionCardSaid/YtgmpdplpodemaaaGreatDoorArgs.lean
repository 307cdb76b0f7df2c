/- Args. No condition. -/
import Derived.Test.YtgmpdplpodemaaaGreatDoorTy
set_option linter.all false
namespace Go.Proofs.YtgmpdplpodemaaaGreatDoor
open Go Go.Sy
theorem kids:Kids Tryz.prog (· <Tryz.prog.types.size):=kids_rows (by kernel_rfl) (by kernel_rfl)
theorem full:∀t e,t<Tryz.prog.types.size→Tryz.prog.underlying t=some (.slice e)→0<Tryz.prog.cellsOf e:=slices_full_of _ (by kernel_rfl)
theorem Uc{α:Type} {R:List AV→α→Prop}:∀(xs:List (List AV)),(∀x∈xs,∃a,R x a)→∃l:List α,l.length=xs.length∧∀(i:Nat) (x:List AV) (a:α),xs[i]? =some x→l[i]? =some a→R x a
 |xs,h=>by
  obtain⟨ys,h1,h2⟩:=nP xs (fun i x hx=>h x (List.mem_of_getElem? hx))
  exact⟨ys,h1,h2⟩
theorem HZ{α:Type} {g:α→List AV}:∀(xs:List (List AV)) (l:List α),l.length=xs.length→(∀(i:Nat) (x:List AV) (a:α),xs[i]? =some x→l[i]? =some a→x=g a)→xs.flatten=l.flatMap g
 |[],[],_,_=>rfl
 |x::xs,a::l,hl,h=>by
  rw[List.flatten_cons,List.flatMap_cons,h 0 x a rfl rfl,HZ xs l (by simpa using hl) (fun i y b hy hb=>h (i+1) y b (by simpa using hy) (by simpa using hb))]
 |[],_::_,hl,_=>by simp at hl
 |_::_,[],hl,_=>by simp at hl
theorem ZP{α:Type} {R:α→Prop}(xs:List (List AV))(l:List α)(hl:l.length=xs.length)(h:∀(i:Nat) (x:List AV) (a:α),xs[i]? =some x→l[i]? =some a→R a):∀a∈l,R a:=by
 intro a ha
 obtain⟨i,hi⟩:=List.mem_iff_getElem?.1 ha
 obtain⟨x,hx⟩:∃x,xs[i]? =some x:=⟨_,List.getElem?_eq_getElem (by rw[←hl];exact(List.getElem?_eq_some_iff.1 hi).1)⟩
 exact h i x a hx hi
theorem Ud{m:Int}(h:(Lit.int .u8 m).wf=true):0≤m∧m≤255:=by
 simp only[Lit.wf,Bool.and_eq_true,decide_eq_true_eq,IntKind.min,IntKind.max] at h
 simpa[IntKind.bits,IntKind.signed] using h
theorem ZQ{m:Int}(h:(Lit.int .u16 m).wf=true):0≤m∧m≤65535:=by
 simp only[Lit.wf,Bool.and_eq_true,decide_eq_true_eq,IntKind.min,IntKind.max] at h
 simpa[IntKind.bits,IntKind.signed] using h
theorem CU{m:Nat} {t:TypeId} {k:IntKind} {av:List AV}(hu:Tryz.prog.underlying t=some (.int k))(h:gB Tryz.prog m t av):∃i,av=[.val (.int k i)]∧(Lit.int k i).wf=true:=by
 cases m with
 |zero=>cases h
 |succ m=>unfold gB at h;rw[hu] at h;exact h
theorem afY{m:Nat} {t:TypeId} {av:List AV}(hu:Tryz.prog.underlying t=some .bool)(h:gB Tryz.prog m t av):∃b,av=[.val (.bool b)]:=by
 cases m with
 |zero=>cases h
 |succ m=>unfold gB at h;rw[hu] at h;exact h
theorem FB{m:Nat} {t e:TypeId} {av:List AV}(hu:Tryz.prog.underlying t=some (.slice e))(h:gB Tryz.prog m t av):
 ∃n,av=[.isl true [] 0]∨∃xs:List (List AV),av=[.isl false xs.flatten xs.length]∧(∀x∈xs,x.length=Tryz.prog.cellsOf e∧gB Tryz.prog n e x)∧xs.length*Tryz.prog.bytesOf e≤reachBytes:=by
 cases m with
 |zero=>cases h
 |succ m=>unfold gB at h;rw[hu] at h;exact⟨m,h⟩
theorem CV{m:Nat} {t:TypeId} {fs:Array Field} {av:List AV}(hu:Tryz.prog.underlying t=some (.struct fs))(h:gB Tryz.prog m t av):
 ∃n,∃xs:List (List AV),av=xs.flatten∧xs.length=fs.size∧∀(i:Nat) (f:Field) (x:List AV),fs[i]? =some f→xs[i]? =some x→gB Tryz.prog n f.type x:=by
 cases m with
 |zero=>cases h
 |succ m=>unfold gB at h;rw[hu] at h;exact⟨m,h⟩
theorem CW{α β:Type}(g:α→β)(l:List α):l.flatMap (fun i=>[g i])=l.map g:=by
 induction l with
 |nil=>rfl
 |cons a l ih=>rw[List.flatMap_cons,ih];rfl
theorem afZ{α:Type} {g:α→List AV} {Q:α→Prop} {m bn:Nat} {t e:TypeId} {av:List AV}(hu:Tryz.prog.underlying t=some (.slice e))(h:gB Tryz.prog m t av)(hb:Tryz.prog.bytesOf e=bn)(h8:8≤bn)
 (hx:∀n x,gB Tryz.prog n e x→∃a,x=g a∧Q a):∃(z:Bool) (l:List α),av=[.isl z (l.flatMap g) l.length]∧(∀a∈l,Q a)∧l.length<2^45∧(z=true→l=[]):=by
 obtain⟨n,rfl|⟨xs,rfl,h1,h2⟩⟩:=FB hu h
 ·exact⟨true,[],rfl,by simp,Nat.two_pow_pos 45,fun _=>rfl⟩
 ·obtain⟨l,k1,k2⟩:=Uc (R:=fun x a=>x=g a∧Q a) xs (fun x hx'=>hx n x (h1 x hx').2)
  refine⟨false,l,?_,ZP xs l k1 (fun i x a hx ha=>(k2 i x a hx ha).2),?_,fun h=>by cases h⟩
  ·rw[HZ (g:=g) xs l k1 (fun i x a hx ha=>(k2 i x a hx ha).1),k1]
  ·have h3:xs.length*8≤reachBytes:=Nat.le_trans (Nat.mul_le_mul_left _ (hb▸h8)) h2
   rw[k1];unfold reachBytes at h3;omega
theorem FC{α:Type} {g:α→List AV} {Q:α→Prop} {m bn:Nat} {t e:TypeId} {av:List AV}(hu:Tryz.prog.underlying t=some (.slice e))(h:gB Tryz.prog m t av)(hb:Tryz.prog.bytesOf e=bn)(h8:1≤bn)
 (hx:∀n x,gB Tryz.prog n e x→∃a,x=g a∧Q a):∃(z:Bool) (l:List α),av=[.isl z (l.flatMap g) l.length]∧(∀a∈l,Q a)∧l.length<2^47∧(z=true→l=[]):=by
 obtain⟨n,rfl|⟨xs,rfl,h1,h2⟩⟩:=FB hu h
 ·exact⟨true,[],rfl,by simp,Nat.two_pow_pos 47,fun _=>rfl⟩
 ·obtain⟨l,k1,k2⟩:=Uc (R:=fun x a=>x=g a∧Q a) xs (fun x hx'=>hx n x (h1 x hx').2)
  refine⟨false,l,?_,ZP xs l k1 (fun i x a hx ha=>(k2 i x a hx ha).2),?_,fun h=>by cases h⟩
  ·rw[HZ (g:=g) xs l k1 (fun i x a hx ha=>(k2 i x a hx ha).1),k1]
  ·have h3:xs.length*1≤reachBytes:=Nat.le_trans (Nat.mul_le_mul_left _ (hb▸h8)) h2
   rw[k1];unfold reachBytes at h3;omega
