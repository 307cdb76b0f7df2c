/- Args. No condition. -/
import Derived.Test.YtcbginhpibfgaaaGreatDoorTy
set_option linter.all false
namespace Go.Proofs.YtcbginhpibfgaaaGreatDoor
open Go Go.Sy
theorem kids:Kids Tryz.prog (· <Tryz.prog.types.size):=kids_rows (by kernel_rfl) (by kernel_rfl)
theorem full:∀t e,t<Tryz.prog.types.size→Tryz.prog.underlying t=some (.slice e)→0<Tryz.prog.cellsOf e:=slices_full_of _ (by kernel_rfl)
theorem JD{α:Type} {R:List AV→α→Prop}:∀(xs:List (List AV)),(∀x∈xs,∃a,R x a)→∃l:List α,l.length=xs.length∧∀(i:Nat) (x:List AV) (a:α),xs[i]? =some x→l[i]? =some a→R x a
 |xs,h=>by
  obtain⟨ys,h1,h2⟩:=qO xs (fun i x hx=>h x (List.mem_of_getElem? hx))
  exact⟨ys,h1,h2⟩
theorem Dm{α:Type} {g:α→List AV}:∀(xs:List (List AV)) (l:List α),l.length=xs.length→(∀(i:Nat) (x:List AV) (a:α),xs[i]? =some x→l[i]? =some a→x=g a)→xs.flatten=l.flatMap g
 |[],[],_,_=>rfl
 |x::xs,a::l,hl,h=>by
  rw[List.flatten_cons,List.flatMap_cons,h 0 x a rfl rfl,Dm xs l (by simpa using hl) (fun i y b hy hb=>h (i+1) y b (by simpa using hy) (by simpa using hb))]
 |[],_::_,hl,_=>by simp at hl
 |_::_,[],hl,_=>by simp at hl
theorem gT{m:Nat} {t:TypeId} {k:IntKind} {av:List AV}(hu:Tryz.prog.underlying t=some (.int k))(h:dO Tryz.prog m t av):∃i,av=[.val (.int k i)]∧(Lit.int k i).wf=true:=by
 cases m with
 |zero=>cases h
 |succ m=>unfold dO at h;rw[hu] at h;exact h
theorem u6{m:Nat} {t e:TypeId} {av:List AV}(hu:Tryz.prog.underlying t=some (.slice e))(h:dO Tryz.prog m t av):
 ∃n,av=[.isl true [] 0]∨∃xs:List (List AV),av=[.isl false xs.flatten xs.length]∧(∀x∈xs,x.length=Tryz.prog.cellsOf e∧dO Tryz.prog n e x)∧xs.length*Tryz.prog.bytesOf e≤reachBytes:=by
 cases m with
 |zero=>cases h
 |succ m=>unfold dO at h;rw[hu] at h;exact⟨m,h⟩
theorem jm{m:Nat} {t:TypeId} {fs:Array Field} {av:List AV}(hu:Tryz.prog.underlying t=some (.struct fs))(h:dO Tryz.prog m t av):
 ∃n,∃xs:List (List AV),av=xs.flatten∧xs.length=fs.size∧∀(i:Nat) (f:Field) (x:List AV),fs[i]? =some f→xs[i]? =some x→dO Tryz.prog n f.type x:=by
 cases m with
 |zero=>cases h
 |succ m=>unfold dO at h;rw[hu] at h;exact⟨m,h⟩
