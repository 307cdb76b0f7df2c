/- Args Sym35 FDoor PrArgs Sym32 Sym33 Sym34 Bp12 Bp14 Bp15 Dg1 Ex1 Ec1 Di4 Bp17 Bp18 Bp19 Dg7 Fe1 Fe9 Fe10 Ec3 Di13 Di17 Di18 Di19 Ex3 Dg9 Ex2 Bp20 Bp25. No condition. -/
import Derived.Test.YtgmpdplpodemaaaGreatDoorTy
import Derived.Test.YtgmpdplpodemaaaGreatDoorRows
import Derived.Test.YtgmpdplpodemaaaGreatDoorTie
import Derived.Stop.Joined
import Derived.Stop.LaidErr
import Derived.Lib.LaidTab
import Derived.Lib.TrailingZeros
set_option linter.all false
namespace Go.Proofs.YtgmpdplpodemaaaGreatDoor
open Go Go.Sy
theorem kids:Kids Tryz.prog (· <Tryz.prog.types.size):=kids_rows (by kernel_rfl) (by kernel_rfl)
theorem full:∀t e,t<Tryz.prog.types.size->Tryz.prog.underlying t=some (.slice e)->0<Tryz.prog.cellsOf e:=slices_full_of _ (by kernel_rfl)
theorem XC{α:Type} {R:List AV->α->Prop}:∀(xs:List (List AV)),(∀x∈xs,∃a,R x a)->∃l:List α,l.length=xs.length/\∀(i:Nat) (x:List AV) (a:α),xs[i]? =some x->l[i]? =some a->R x a
 |xs,h=>by
  obtain⟨ys,h1,h2⟩:=pG xs (λi x hx=>h x (List.mem_of_getElem? hx))
  exact⟨ys,h1,h2⟩
theorem Kl{α:Type} {g:α->List AV}:∀(xs:List (List AV)) (l:List α),l.length=xs.length->(∀(i:Nat) (x:List AV) (a:α),xs[i]? =some x->l[i]? =some a->x=g a)->xs.flatten=l.flatMap g
 |[],[],_,_=>rfl
 |x::xs,a::l,hl,h=>by
  rw[List.flatten_cons,List.flatMap_cons,h 0 x a rfl rfl,Kl xs l (by simpa using hl) (λi y b hy hb=>h (i+1) y b (by simpa using hy) (by simpa using hb))]
 |[],_::_,hl,_=>by simp at hl
 |_::_,[],hl,_=>by simp at hl
theorem afr{α:Type} {R:α->Prop}(xs:List (List AV))(l:List α)(hl:l.length=xs.length)(h:∀(i:Nat) (x:List AV) (a:α),xs[i]? =some x->l[i]? =some a->R a):∀a∈l,R a:=by
 intro a ha
 obtain⟨i,hi⟩:=List.mem_iff_getElem?.1 ha
 obtain⟨x,hx⟩:∃x,xs[i]? =some x:=⟨_,List.getElem?_eq_getElem (by rw[<-hl];exact(List.getElem?_eq_some_iff.1 hi).1)⟩
 exact h i x a hx hi
theorem XD{m:Int}(h:(Lit.int .u8 m).wf=true):0<=m/\m<=255:=by
 simp only[Lit.wf,Bool.and_eq_true,decide_eq_true_eq,IntKind.min,IntKind.max] at h
 simpa[IntKind.bits,IntKind.signed] using h
theorem QJ{m:Nat} {t:TypeId} {k:IntKind} {av:List AV}(hu:Tryz.prog.underlying t=some (.int k))(h:je Tryz.prog m t av):∃i,av=[.val (.int k i)]/\(Lit.int k i).wf=true:=by
 cases m with
 |zero=>cases h
 |succ m=>unfold je at h;rw[hu] at h;exact h
theorem Iq{m:Nat} {t e:TypeId} {av:List AV}(hu:Tryz.prog.underlying t=some (.slice e))(h:je Tryz.prog m t av):
 ∃n,av=[.isl true [] 0]\/∃xs:List (List AV),av=[.isl false xs.flatten xs.length]/\(∀x∈xs,x.length=Tryz.prog.cellsOf e/\je Tryz.prog n e x)/\xs.length*Tryz.prog.bytesOf e<=reachBytes:=by
 cases m with
 |zero=>cases h
 |succ m=>unfold je at h;rw[hu] at h;exact⟨m,h⟩
theorem Ff{α β:Type}(g:α->β)(l:List α):l.flatMap (λi=>[g i])=l.map g:=by
 induction l with
 |nil=>rfl
 |cons a l ih=>rw[List.flatMap_cons,ih];rfl
theorem Ir{α:Type} {g:α->List AV} {Q:α->Prop} {m bn:Nat} {t e:TypeId} {av:List AV}(hu:Tryz.prog.underlying t=some (.slice e))(h:je Tryz.prog m t av)(hb:Tryz.prog.bytesOf e=bn)(h8:1<=bn)
 (hx:∀n x,je Tryz.prog n e x->∃a,x=g a/\Q a):∃(z:Bool) (l:List α),av=[.isl z (l.flatMap g) l.length]/\(∀a∈l,Q a)/\l.length<2^47/\(z=true->l=[]):=by
 obtain⟨n,rfl|⟨xs,rfl,h1,h2⟩⟩:=Iq hu h
 ·exact⟨true,[],rfl,by simp,Nat.two_pow_pos 47,λ_=>rfl⟩
 ·obtain⟨l,k1,k2⟩:=XC (R:=λx a=>x=g a/\Q a) xs (λx hx'=>hx n x (h1 x hx').2)
  refine⟨false,l,?_,afr xs l k1 (λi x a hx ha=>(k2 i x a hx ha).2),?_,λh=>by cases h⟩
  ·rw[Kl (g:=g) xs l k1 (λi x a hx ha=>(k2 i x a hx ha).1),k1]
  ·have h3:xs.length*1<=reachBytes:=Nat.le_trans (Nat.mul_le_mul_left _ (hb▸h8)) h2
   rw[k1];unfold reachBytes at h3;omega
end Go.Proofs.YtgmpdplpodemaaaGreatDoor
namespace Go.Sy
open Go.ChangeShapes Go.WideShapes Go.ChangeAt Go.RowKit
theorem Ng{H:Type} {enc:TypeId×Value->H} {C:Checked} {os:Os} {f:FuncId} {fn:Func} {s:ChangeSpec} {tb:TypeId} {X:World->Array Value->Prop}
 (own:ownKnob C.prog.godebug=none) (started:os.Started) (noInit:C.prog.inits.idxOf? f=none) (hfn:C.prog.funcs[f]? =some fn)
 (witness:∃(w:World) (tape:Tape) (i:Input),w.os=os/\(w.forCall tape i).Shaped C.prog/\i.vars=[]/\Input.okWide C.prog (w.forCall tape i) .any w.heap.size f i/\
   ((s.pre enc C.prog fn [] false (w.forCall tape i).memory i.args/\X (w.forCall tape i).memory i.args)/\sizedMet enc C.prog fn (OpenSpec.ofChange s) false (w.forCall tape i).memory i.args)/\Assume.holds {} C.prog (lone (Frame.enter C.prog f i.args .normal) [] (w.forCall tape i)))
 (K:Kids C.prog (· <C.prog.types.size)) (hz:∀t e,t<C.prog.types.size->C.prog.underlying t=some (.slice e)->0<C.prog.cellsOf e) (hts:fn.params.toList.all (λt=>decide (t<C.prog.types.size))=true)
 (hvars:s.vars=[]) (hres:fn.resultTypes= #[tb]) (hbool:C.prog.underlying tb=some .bool)
 (hspec:∀ds:List (DataW H),ds.length=fn.params.toList.length->s.fn H ds=⟨[.lit (.bool true)],ds,[]⟩)
 (law:∀(W:World) (base:Nat) (args:Array Value) (ds:List (DataW H)) (p:List MemPlace),X W.memory args->(∀(j:Nat) t v,fn.params[j]? =some t->args[j]? =some v->Value.okWide C.prog W .any base t v)->
   DataW.TrodAll enc C.prog W 0 (λ_=>true) true fn.params.toList args.toList ds p->(∀k∈DataW.weightsEach C.prog fn.params.toList ds,k<=reachBytes)->
   Calls C.prog f args W λe W'=>e= .returned (.bool true)/\More W W'):
 ReturnsInHanded {} C os f .any (λw args=>(s.pre enc C.prog fn [] false w args/\X w args)/\sizedMet enc C.prog fn (OpenSpec.ofChange s) false w args) (s.post enc C.prog fn false true false false):=by
 refine returnsInHanded_of_calls own started noInit witness ?_
 intro w tape i _ _ _ hok hpre _
 obtain⟨_,_,_,fn',hfn',_,_,_,_,hval⟩:=hok
 have e:fn'=fn:=Option.some.inj (hfn'.symm.trans hfn)
 subst e
 obtain⟨⟨⟨ds,gs,before,hw,_⟩,hX⟩,hsz⟩:=hpre
 have hW:=DataW.Whole.of_heap (w':=w.forCall tape i) (by rfl) hw
 have hwt:=hsz.weights hw
 have hW':=hW
 obtain⟨p,q,hA,hV,rfl,_,_⟩:=hW'
 rw[hvars] at hV
 obtain⟨rfl,rfl⟩:=trodVars_none hV
 have hlen:ds.length=fn'.params.toList.length:=by
  have key:∀{ts:List TypeId} {vs:List Value} {ds:List (DataW H)} {ps:List MemPlace},DataW.TrodAll enc C.prog (w.forCall tape i) 0 (λ_=>true) true ts vs ds ps->ds.length=ts.length:=by
   intro ts
   induction ts with
   |nil=>intro vs ds ps h;obtain⟨_,rfl,_⟩:=trodAll_nil h;rfl
   |cons t ts ih=>intro vs ds ps h;obtain⟨v,vs1,d,ds1,a,b,_,rfl,_,_,h2⟩:=trodAll_cons h;simp[ih h2]
  exact key hA
 refine(law (w.forCall tape i) w.heap.size i.args ds p hX hval hA (λk hk=>?_)).mono λe W'=>?_
 ·have:=List.all_eq_true.1 hwt k
  refine of_decide_eq_true (this ?_)
  have app:∀(ts us:List TypeId) (l:List (DataW H)),k∈DataW.weightsEach C.prog ts l->k∈DataW.weightsEach C.prog (ts++us) l:=by
   intro ts
   induction ts with
   |nil=>intro us l h;simp[DataW.weightsEach] at h
   |cons t ts ih=>
    intro us l h
    cases l with
    |nil=>simp[DataW.weightsEach] at h
    |cons d l=>
     rw[List.cons_append,DataW.weightsEach] at*
     rcases List.mem_append.1 h with h|h
     ·exact List.mem_append_left _ h
     ·exact List.mem_append_right _ (ih us l h)
  rw[List.append_nil]
  exact app _ _ _ hk
 ·rintro⟨rfl,hm⟩
  show s.post enc C.prog fn' false true false false (w.forCall tape i).blind i.args (.bool true) W'.blind
  refine ChangeSpec.post_blind (P5 (pa:=p) (pv:=[]) hW (λb sp hd=>?_) (λsp hsp=>?_) (λsp hsp=>?_) hm)
  ·rw[List.append_nil,hspec ds hlen,hres]
   exact trodAll_cons_mk (shut_bool hbool _) trodAll_mk0
  ·rw[List.append_nil,hspec ds hlen]
   rw[List.append_nil] at hsp
   refine DataW.TrodAll.respare K hz (λt ht=>of_decide_eq_true (List.all_eq_true.1 hts t ht)) (TrodAll.carry hm (λx hx=>hW.lt x (List.mem_append_left _ hx)) hA) hsp
  ·rw[List.append_nil,hspec ds hlen,hvars];exact rfl
end Go.Sy
set_option maxRecDepth 100000
namespace Go.Proofs.YtgmpdplpodemaaaGreatDoor
open Go Go.ChangeShapes Go.WideShapes Go.ChangeAt Go.RowKit Go.Sy
theorem own:ownKnob Tryz.prog.godebug=none:=by kernel_rfl
def Fg{H:Type}:List (String×DataW H):=[("math/bits.deBruijn32tab",Rows.laid_math_bits_deBruijn32tab),("math/bits.deBruijn64tab",Rows.laid_math_bits_deBruijn64tab),("internal/strconv.uint64pow10",Rows.laid_internal_strconv_uint64pow10)]
theorem QK(os:Os)(args:Array Value):laidMetH Tryz.prog Fg ((World.doorLaid Tryz.prog 400 os).forCall (λ_ _=>0) ⟨#[],args,[]⟩).memory:=
 laidMetH_of_parts3 (fuel:=8) (laidMet_of_run' 8 (by kernel_rfl) (by kernel_rfl)) (by kernel_rfl) (by kernel_rfl)
theorem QL:Tryz.prog.globalNamed "math/bits.deBruijn32tab" =some 0:=by kernel_rfl
theorem ab9:Tryz.prog.globalNamed "internal/strconv.uint64pow10" =some 1:=by kernel_rfl
theorem zA{W:World} {name:String} {k:IntKind} {zs:List Int} {g:Nat}(hz:zs≠[])(hg:Tryz.prog.globalNamed name=some g)(h:Lib.TabIs Tryz.prog W.memory name k zs):g<W.heap.size/\∀i (h:i<zs.length),W.cell? ⟨g,i,none⟩=some (.int k zs[i]):=by
 have hc:∀i (h:i<zs.length),W.cell? ⟨g,i,none⟩=some (.int k zs[i]):=λi hi=>by
  have:=h.cell hg i hi
  have e:zs.getD i 0=zs[i]:=by simp[List.getD_eq_getElem?_getD,hi]
  rw[e] at this;exact this
 refine⟨?_,hc⟩
 have:=hc 0 (List.length_pos_iff.2 hz)
 unfold World.cell? at this
 rcases Nat.lt_or_ge g W.heap.size with h0|h0
 ·exact h0
 ·rw[Array.getElem?_eq_none h0] at this;cases this
theorem XE{W:World}(h:laidMetH Tryz.prog Fg W.memory):Laid (λb=>b<W.heap.size) W:=by
 have h1:laidMet Tryz.prog (("math/bits.deBruijn32tab",Lib.tabData .u8 yJ)::("math/bits.deBruijn64tab",Rows.laid_math_bits_deBruijn64tab)::("internal/strconv.uint64pow10",Lib.tabData .u64 tabP)::[]) W.memory:=h
 have t1:Lib.TabIs Tryz.prog W.memory "math/bits.deBruijn32tab" .u8 yJ:=Lib.tabIs_of_head (t:=185) (e:=5) (n:=32) QL (by kernel_rfl) (by kernel_rfl) (by kernel_rfl) (by kernel_rfl) (by kernel_rfl) h1
 have t2:Lib.TabIs Tryz.prog W.memory "internal/strconv.uint64pow10" .u64 tabP:=Lib.tabIs_of_head (t:=283) (e:=182) (n:=20) ab9 (by kernel_rfl) (by kernel_rfl) (by kernel_rfl) (by kernel_rfl) (by kernel_rfl) h1.tail.tail
 have c1:=zA (by decide) QL t1
 have c2:=zA (by decide) ab9 t2
 intro g k zs hg
 unfold OG at hg
 split at hg
 ·rename_i hg0
  cases hg;subst hg0
  exact⟨c1.1,c1.1,c1.2⟩
 ·split at hg
  ·rename_i hg0
   cases hg;subst hg0
   exact⟨c2.1,c2.1,c2.2⟩
  ·cases hg
end Go.Proofs.YtgmpdplpodemaaaGreatDoor
namespace Go.Proofs.YtgmpdplpodemaaaGreatDoor
open Go Go.Sy
theorem zB{m:Nat} {av:List AV}(h:je Tryz.prog m 45 av):∃(z:Bool) (l:List Int),av=[.isl z (cI .u8 l) l.length]/\(∀x∈l,0<=x/\x<=255)/\l.length<2^47:=by
 obtain⟨z,l,e,ho,hl,hz⟩:=Ir (g:=λ(x:Int)=>[AV.val (.int .u8 x)]) (Q:=λx=>0<=x/\x<=255) (bn:=1) Tryz.underlying45 h (by kernel_rfl) (by decide) (λn x hx=>by
  obtain⟨k,rfl,hk⟩:=QJ Tryz.underlying5 hx
  exact⟨k,rfl,XD hk⟩)
 rw[show l.flatMap (λ(x:Int)=>[AV.val (.int .u8 x)])=cI .u8 l from Ff _ l] at e
 exact⟨z,l,e,ho,hl⟩
end Go.Proofs.YtgmpdplpodemaaaGreatDoor
namespace Go.Sy
variable {x y n:Nat} {a b:Int}
def U(x:Nat):Int:=((x%65536:Nat):Int)
def uN(a:Int):Nat:=(a%65536).toNat
theorem aca:U x<65536:=by unfold U;omega
theorem XF:0<=U x:=by unfold U;omega
theorem acb:U (x%65536)=U x:=by unfold U;simp
theorem Bb(h:x<65536):U x=x:=by unfold U;rw[Nat.mod_eq_of_lt h]
theorem uN_U:uN (U x)=x%65536:=by unfold uN U;omega
theorem sP:IntKind.wrap .u16 a=U (uN a):=by
 unfold U uN
 have:IntKind.wrap .u16 a=a%65536:=by simp[IntKind.wrap,IntKind.bits,IntKind.signed]
 rw[this];omega
theorem ofI:(BitVec.ofInt 16 a).toNat=uN a:=by simp[uN,BitVec.toNat_ofInt]
theorem zC:IntKind.wrap .u16 ((x:Nat):Int)=U x:=by rw[sP];unfold uN U;omega
theorem kR:(x&&&y)%65536=(x%65536)&&&(y%65536):=by
 rw[show(65536:Nat)=2^16 by rfl,Nat.and_mod_two_pow]
theorem zD:(x|||y)%65536=(x%65536)|||(y%65536):=by
 rw[show(65536:Nat)=2^16 by rfl,Nat.or_mod_two_pow]
theorem xD:(x ^^^ y)%65536=(x%65536) ^^^ (y%65536):=by
 rw[show(65536:Nat)=2^16 by rfl,Nat.xor_mod_two_pow]
def fG(x y:Nat):Nat:=x&&&y
def sor(x y:Nat):Nat:=x|||y
def rH(x y:Nat):Nat:=x ^^^ y
def jE(x y:Nat):Nat:=x&&&(65535-y%65536)
theorem XG(a b:Int):IntKind.wrap .u16 ((BitVec.ofInt (IntKind.bits .u16) a&&&BitVec.ofInt (IntKind.bits .u16) b).toNat:Int)=U (fG (uN a) (uN b)):=by
 show IntKind.wrap .u16 ((BitVec.ofInt 16 a&&&BitVec.ofInt 16 b).toNat:Int)=_
 rw[BitVec.toNat_and,ofI,ofI,zC];rfl
theorem afs(a b:Int):IntKind.wrap .u16 ((BitVec.ofInt (IntKind.bits .u16) a|||BitVec.ofInt (IntKind.bits .u16) b).toNat:Int)=U (sor (uN a) (uN b)):=by
 show IntKind.wrap .u16 ((BitVec.ofInt 16 a|||BitVec.ofInt 16 b).toNat:Int)=_
 rw[BitVec.toNat_or,ofI,ofI,zC];rfl
theorem XH(a b:Int):IntKind.wrap .u16 ((BitVec.ofInt (IntKind.bits .u16) a ^^^ BitVec.ofInt (IntKind.bits .u16) b).toNat:Int)=U (rH (uN a) (uN b)):=by
 show IntKind.wrap .u16 ((BitVec.ofInt 16 a ^^^ BitVec.ofInt 16 b).toNat:Int)=_
 rw[BitVec.toNat_xor,ofI,ofI,zC];rfl
theorem XI(a b:Int):IntKind.wrap .u16 ((BitVec.ofInt (IntKind.bits .u16) a&&& ~~~ BitVec.ofInt (IntKind.bits .u16) b).toNat:Int)=U (jE (uN a) (uN b)):=by
 show IntKind.wrap .u16 ((BitVec.ofInt 16 a&&& ~~~ BitVec.ofInt 16 b).toNat:Int)=_
 rw[BitVec.toNat_and,BitVec.toNat_not,ofI,ofI,zC]
 unfold jE
 have:uN b%65536=uN b:=Nat.mod_eq_of_lt (by unfold uN;omega)
 rw[this,show(2^16-1-uN b:Nat)=65535-uN b by omega]
theorem XJ:U (fG (x%65536) y)=U (fG x y):=by unfold U fG;congr 1;rw[kR,kR,Nat.mod_mod]
theorem XK:U (fG x (y%65536))=U (fG x y):=by unfold U fG;congr 1;rw[kR,kR,Nat.mod_mod]
theorem aft:U (sor (x%65536) y)=U (sor x y):=by unfold U sor;congr 1;rw[zD,zD,Nat.mod_mod]
theorem afu:U (sor x (y%65536))=U (sor x y):=by unfold U sor;congr 1;rw[zD,zD,Nat.mod_mod]
theorem XL:U (rH (x%65536) y)=U (rH x y):=by unfold U rH;congr 1;rw[xD,xD,Nat.mod_mod]
theorem XM:U (rH x (y%65536))=U (rH x y):=by unfold U rH;congr 1;rw[xD,xD,Nat.mod_mod]
theorem XN:U (jE (x%65536) y)=U (jE x y):=by unfold U jE;congr 1;rw[kR,kR,Nat.mod_mod]
theorem XO:U (jE x (y%65536))=U (jE x y):=by unfold U jE;rw[Nat.mod_mod]
theorem Km(x n:Nat):IntKind.wrap .u16 (U x*2^min n (IntKind.bits .u16))=U (x*2^n):=by
 rw[show IntKind.bits .u16=16 from rfl]
 unfold U
 rw[show(((x%65536:Nat):Int)*2^min n 16)=((x%65536*2^min n 16:Nat):Int) by simp,zC]
 unfold U
 congr 1
 rcases Nat.lt_or_ge n 16 with h|h
 ·rw[Nat.min_eq_left omgz,Nat.mod_mul_mod]
 ·rw[Nat.min_eq_right h]
  obtain⟨d,rfl⟩:∃d,n=16+d:=⟨n-16,omgz⟩
  rw[Nat.pow_add,<-Nat.mul_assoc,show(2:Nat)^16=65536 by rfl,Nat.mul_mod_left,Nat.mul_right_comm,Nat.mul_mod_left]
theorem QM(n:Nat):IntKind.wrap .u16 (1*2^min n (IntKind.bits .u16))=U (2^n):=by
 have:=Km 1 n
 rw[Nat.one_mul] at this
 rw[<-this];rfl
theorem XP(x n:Nat):Int.fdiv (U x) (2^min n (IntKind.bits .u16))=U (x%65536/2^n):=by
 rw[show IntKind.bits .u16=16 from rfl]
 rw[Int.fdiv_eq_ediv_of_nonneg _ (Int.le_of_lt (Int.pow_pos (by decide)))]
 unfold U
 rw[show(2:Int)^min n 16=((2^min n 16:Nat):Int) by simp,<-Int.natCast_ediv]
 congr 1
 have hx:x%65536<65536:=Nat.mod_lt _ (by decide)
 rcases Nat.lt_or_ge n 16 with h|h
 ·rw[Nat.min_eq_left omgz,Nat.mod_eq_of_lt (Nat.lt_of_le_of_lt (Nat.div_le_self _ _) hx)]
 ·rw[Nat.min_eq_right h,Nat.div_eq_of_lt (by simpa using hx)]
  have:65536<=2^n:=by rw[show(65536:Nat)=2^16 by rfl];exact Nat.pow_le_pow_right (by decide) h
  rw[Nat.div_eq_of_lt omgz]
def bit(x n:Nat):Bool:=(x%65536).testBit n
theorem XQ(x n:Nat):U (fG (x%65536/2^n) 1)=if bit x n=true then 1 else 0:=by
 unfold bit U fG
 rw[Nat.testBit_eq_decide_div_mod_eq,Nat.and_one_is_mod]
 have h2:x%65536/2^n%2<2:=Nat.mod_lt _ (by decide)
 have h3:x%65536/2^n%2%65536=x%65536/2^n%2:=Nat.mod_eq_of_lt omgz
 rw[h3]
 by_cases h:x%65536/2^n%2=1
 ·simp[h]
 ·have:x%65536/2^n%2=0:=by omega
  simp[this]
theorem XR{c:Bool}:((if c=true then(1:Int) else 0)=1)=(c=true):=by cases c<;>simp
theorem XT{c:Bool}:((if c=true then(1:Int) else 0)=0)=(c=false):=by cases c<;>simp
theorem QN(n:Nat):IntKind.wrap .u16 (U (2^n)-1)=U (2^n-1):=by
 have h:0<2^n:=Nat.two_pow_pos n
 rw[sP];unfold uN U;omega
theorem QO(x:Nat):IntKind.wrap .u16 (U x-1)=U (x+65535):=by rw[sP];unfold uN U;omega
theorem XU(x:Nat):IntKind.wrap .u16 (0-U x)=U (65536-x%65536):=by rw[sP];unfold uN U;omega
theorem XV(x y:Nat):IntKind.wrap .u16 (U x+U y)=U (x+y):=by rw[sP];unfold uN U;omega
theorem QP(x:Nat):IntKind.wrap .u16 (U x+1)=U (x+1):=by rw[sP];unfold uN U;omega
theorem w_U:IntKind.wrap .u16 (U x)=U x:=by rw[sP];unfold uN U;omega
theorem aiS:IntKind.wrap .i64 (U x)=U x:=PW (by have:=XF (x:=x);have:=aca (x:=x);omega)
theorem aiT:IntKind.wrap .u32 (U x)=U x:=ab3 (by have:=XF (x:=x);have:=aca (x:=x);omega)
theorem aiU:(U x=U y)=(x%65536=y%65536):=by unfold U;exact propext ⟨λh=>by omega,λh=>by omega⟩
theorem U_le:(U x<=U y)=(x%65536<=y%65536):=by unfold U;exact propext ⟨λh=>by omega,λh=>by omega⟩
theorem U_lt:(U x<U y)=(x%65536<y%65536):=by unfold U;exact propext ⟨λh=>by omega,λh=>by omega⟩
theorem U_0:(U x=0)=(x%65536=0):=by unfold U;exact propext ⟨λh=>by omega,λh=>by omega⟩
theorem U_1:(U x=1)=(x%65536=1):=by unfold U;exact propext ⟨λh=>by omega,λh=>by omega⟩
theorem uN_0:uN 0=0:=rfl
theorem uN_1:uN 1=1:=rfl
theorem afv:uN 255=255:=rfl
theorem QR:uN 65535=65535:=rfl
theorem U_00:U 0=0:=rfl
theorem U_11:U 1=1:=rfl
theorem aiV{st:St} {g:Nat}:st.op (.global g)=GV g:=rfl
attribute [push_cast] XG afs XH XI uN_U XJ XK aft afu XL XM XN XO Km QM XP XQ XR XT QN XU XV QP w_U aiS aiT aiU U_le U_lt U_0 U_1 acb uN_0 uN_1 afv QR U_00 U_11 aiV
end Go.Sy
namespace Go.Sy
variable {x y n:Nat} {a b:Int}
def V(x:Nat):Int:=((x%4294967296:Nat):Int)
def vN(a:Int):Nat:=(a%4294967296).toNat
theorem aiW:V (x%4294967296)=V x:=by unfold V;simp
theorem vN_V:vN (V x)=x%4294967296:=by unfold vN V;omega
theorem xE:IntKind.wrap .u32 a=V (vN a):=by
 unfold V vN
 have:IntKind.wrap .u32 a=a%4294967296:=by simp[IntKind.wrap,IntKind.bits,IntKind.signed]
 rw[this];omega
theorem BF:(BitVec.ofInt 32 a).toNat=vN a:=by simp[vN,BitVec.toNat_ofInt]
theorem zF:IntKind.wrap .u32 ((x:Nat):Int)=V x:=by rw[xE];unfold vN V;omega
theorem qR:(x&&&y)%4294967296=(x%4294967296)&&&(y%4294967296):=by rw[show(4294967296:Nat)=2^32 by rfl,Nat.and_mod_two_pow]
theorem uB:(x|||y)%4294967296=(x%4294967296)|||(y%4294967296):=by rw[show(4294967296:Nat)=2^32 by rfl,Nat.or_mod_two_pow]
theorem qU:(x ^^^ y)%4294967296=(x%4294967296) ^^^ (y%4294967296):=by rw[show(4294967296:Nat)=2^32 by rfl,Nat.xor_mod_two_pow]
theorem aiX(a b:Int):IntKind.wrap .u32 ((BitVec.ofInt (IntKind.bits .u32) a&&&BitVec.ofInt (IntKind.bits .u32) b).toNat:Int)=V (fG (vN a) (vN b)):=by
 show IntKind.wrap .u32 ((BitVec.ofInt 32 a&&&BitVec.ofInt 32 b).toNat:Int)=_
 rw[BitVec.toNat_and,BF,BF,zF];rfl
theorem v_or(a b:Int):IntKind.wrap .u32 ((BitVec.ofInt (IntKind.bits .u32) a|||BitVec.ofInt (IntKind.bits .u32) b).toNat:Int)=V (sor (vN a) (vN b)):=by
 show IntKind.wrap .u32 ((BitVec.ofInt 32 a|||BitVec.ofInt 32 b).toNat:Int)=_
 rw[BitVec.toNat_or,BF,BF,zF];rfl
theorem aiY(a b:Int):IntKind.wrap .u32 ((BitVec.ofInt (IntKind.bits .u32) a ^^^ BitVec.ofInt (IntKind.bits .u32) b).toNat:Int)=V (rH (vN a) (vN b)):=by
 show IntKind.wrap .u32 ((BitVec.ofInt 32 a ^^^ BitVec.ofInt 32 b).toNat:Int)=_
 rw[BitVec.toNat_xor,BF,BF,zF];rfl
theorem XW:V (fG (x%4294967296) y)=V (fG x y):=by unfold V fG;congr 1;rw[qR,qR,Nat.mod_mod]
theorem XX:V (fG x (y%4294967296))=V (fG x y):=by unfold V fG;congr 1;rw[qR,qR,Nat.mod_mod]
theorem afw:V (sor (x%4294967296) y)=V (sor x y):=by unfold V sor;congr 1;rw[uB,uB,Nat.mod_mod]
theorem afx:V (sor x (y%4294967296))=V (sor x y):=by unfold V sor;congr 1;rw[uB,uB,Nat.mod_mod]
theorem XY:V (rH (x%4294967296) y)=V (rH x y):=by unfold V rH;congr 1;rw[qU,qU,Nat.mod_mod]
theorem XZ:V (rH x (y%4294967296))=V (rH x y):=by unfold V rH;congr 1;rw[qU,qU,Nat.mod_mod]
theorem afy(n:Nat):IntKind.wrap .u32 (1*2^min n (IntKind.bits .u32))=V (2^n):=by
 rw[show IntKind.bits .u32=32 from rfl,Int.one_mul]
 rw[show((2:Int)^min n 32)=((2^min n 32:Nat):Int) by simp,zF]
 unfold V
 congr 1
 rcases Nat.lt_or_ge n 32 with h|h
 ·rw[Nat.min_eq_left omgz]
 ·rw[Nat.min_eq_right h]
  obtain⟨d,rfl⟩:∃d,n=32+d:=⟨n-32,omgz⟩
  rw[Nat.pow_add,show(2:Nat)^32=4294967296 by rfl,Nat.mul_mod_right]
theorem aiZ(x n:Nat):Int.fdiv (V x) (2^min n (IntKind.bits .u32))=V (x%4294967296/2^n):=by
 rw[show IntKind.bits .u32=32 from rfl]
 rw[Int.fdiv_eq_ediv_of_nonneg _ (Int.le_of_lt (Int.pow_pos (by decide)))]
 unfold V
 rw[show(2:Int)^min n 32=((2^min n 32:Nat):Int) by simp,<-Int.natCast_ediv]
 congr 1
 have hx:x%4294967296<4294967296:=Nat.mod_lt _ (by decide)
 rcases Nat.lt_or_ge n 32 with h|h
 ·rw[Nat.min_eq_left omgz,Nat.mod_eq_of_lt (Nat.lt_of_le_of_lt (Nat.div_le_self _ _) hx)]
 ·rw[Nat.min_eq_right h,Nat.div_eq_of_lt (by simpa using hx)]
  have:4294967296<=2^n:=by rw[show(4294967296:Nat)=2^32 by rfl];exact Nat.pow_le_pow_right (by decide) h
  rw[Nat.div_eq_of_lt omgz]
def Nh(x n:Nat):Bool:=(x%4294967296).testBit n
theorem ai0(x n:Nat):V (fG (x%4294967296/2^n) 1)=if Nh x n=true then 1 else 0:=by
 unfold Nh V fG
 rw[Nat.testBit_eq_decide_div_mod_eq,Nat.and_one_is_mod]
 have h2:x%4294967296/2^n%2<2:=Nat.mod_lt _ (by decide)
 have h3:x%4294967296/2^n%2%4294967296=x%4294967296/2^n%2:=Nat.mod_eq_of_lt omgz
 rw[h3]
 by_cases h:x%4294967296/2^n%2=1
 ·simp[h]
 ·have:x%4294967296/2^n%2=0:=by omega
  simp[this]
theorem afz(n:Nat):IntKind.wrap .u32 (V (2^n)-1)=V (2^n-1):=by
 have h:0<2^n:=Nat.two_pow_pos n
 rw[xE];unfold vN V;omega
def Iu(x:Nat):Nat:=4294967296-x%4294967296
theorem ai1(x:Nat):IntKind.wrap .u32 (0-V x)=V (Iu x):=by rw[xE];unfold vN V Iu;omega
theorem ai2(x y:Nat):IntKind.wrap .u32 (V x+V y)=V (x+y):=by rw[xE];unfold vN V;omega
def X3(x y:Nat):Nat:=x%4294967296/(y%4294967296)
theorem ai3(x y:Nat):IntKind.wrap .u32 (Int.tdiv (V x) (V y))=V (X3 x y):=by
 unfold V X3
 rw[<-Int.ofNat_tdiv,zF];rfl
theorem ai4:(V x=V y)=(x%4294967296=y%4294967296):=by unfold V;exact propext ⟨λh=>by omega,λh=>by omega⟩
theorem V_lt:(V x<V y)=(x%4294967296<y%4294967296):=by unfold V;exact propext ⟨λh=>by omega,λh=>by omega⟩
theorem V_0:(V x=0)=(x%4294967296=0):=by unfold V;exact propext ⟨λh=>by omega,λh=>by omega⟩
theorem vN_1:vN 1=1:=rfl
theorem V_00:V 0=0:=rfl
attribute [push_cast] aiX v_or aiY vN_V XW XX afw afx XY XZ afy aiZ ai0 afz ai1 ai2 ai3 ai4 V_lt V_0 vN_1 V_00 aiW
end Go.Sy
namespace Go.Sy
theorem Mid.mk{P:Program} {R:RLoop} {j nid:Nat} {st:St}(h:st.m=R.mR)(h2:AC P R.body (RQ R j) nid st):Mid P R j nid st:=⟨h,h2⟩
def yX(xs:List Nat)(j:Nat):Option Value:=if j<xs.length then some (.int .u16 (U (xs.getD j 0))) else none
theorem QS{xs:List Nat} {j:Nat} {x:Value}(h:yX xs j=some x):j<xs.length/\x= .int .u16 (U (xs.getD j 0)):=by
 unfold yX at h
 split at h
 ·cases h;exact⟨‹_›,rfl⟩
 ·cases h
end Go.Sy
set_option maxRecDepth 20000
namespace Go.Bp
open Go.Sy
variable {s i j k n p:Nat}
def low(s:Nat):Nat:=Lib.ctz 16 (s%65536)
def o8(s k:Nat):Nat:=s%65536/2^k*2^k
theorem afG:o8 s 0=s%65536:=by simp[o8]
theorem CU:o8 s k<65536:=Nat.lt_of_le_of_lt (Nat.div_mul_le_self _ _) (Nat.mod_lt _ (by decide))
theorem pW:(o8 s k).testBit i=(decide (k<=i)&&(s%65536).testBit i):=by
 unfold o8
 rw[Nat.testBit_mul_two_pow,Nat.testBit_div_two_pow]
 by_cases h:k<=i
 ·simp[h]
 ·simp[h]
theorem qW(h:i<16):(s%65536).testBit i=s.testBit i:=by
 rw[show(65536:Nat)=2^16 by rfl,Nat.testBit_mod_two_pow];simp[h]
theorem CV(h:16<=i):(s%65536).testBit i=false:=by
 rw[show(65536:Nat)=2^16 by rfl,Nat.testBit_mod_two_pow];simp;omega
theorem Ky(hk:k<=p)(h:∀i,k<=i->i<p->s.testBit i=false):mem s p=mem s k:=by
 induction p with
 |zero=>have:k=0:=by omega
        subst this;rfl
 |succ p ih=>
  by_cases e:k=p+1
  ·subst e;rfl
  ·rw[Kw (h p omgz omgz)]
   exact ih omgz (λi h1 h2=>h i h1 omgz)
structure NextM(s k:Nat)(p:Nat):Prop where
 ge:k<=p
 lt:p<16
 mem:mem s (p+1)=mem s k++[(p:Int)]
 len:aF s (p+1)=aF s k+1
 cut:U (fG (o8 s k) (o8 s k+65535))=U (o8 s (p+1))
theorem Ri(h:¬o8 s k%65536=0):NextM s k (low (o8 s k)):=by
 have hlt:=CU (s:=s) (k:=k)
 generalize hr:o8 s k=r at*
 rw[Nat.mod_eq_of_lt hlt] at h
 obtain⟨m,hm,hp⟩:=Lib.ctzFrom_spec 16 r omgz (by simpa using hlt)
 have e:low r=Lib.ctzFrom 16 r:=by unfold low;rw[Nat.mod_eq_of_lt hlt];simp[Lib.ctz,h]
 rw[e]
 generalize Lib.ctzFrom 16 r=p at*
 have hb:∀i,r.testBit i=(decide (p<=i)&&(2*m+1).testBit (i-p)):=λi=>by
  rw[hm,Nat.mul_comm,Nat.testBit_mul_two_pow]
 have hbp:r.testBit p=true:=by rw[hb];simp
 have hk:k<=p/\(s%65536).testBit p=true:=by
  rw[<-hr,pW] at hbp;simpa using hbp
 have hgap:∀i,k<=i->i<p->s.testBit i=false:=λi h1 h2=>by
  have h3:r.testBit i=false:=by rw[hb];simp;omega
  rw[<-hr,pW] at h3
  rw[<-qW omgz]
  simpa[h1] using h3
 have hsp:s.testBit p=true:=by rw[<-qW hp];exact hk.2
 have hmem:mem s (p+1)=mem s k++[(p:Int)]:=by rw[Kv hsp,Ky hk.1 hgap]
 refine⟨hk.1,hp,hmem,by unfold aF;rw[hmem];simp,?_⟩
 unfold U
 congr 1
 have e1:(r+65535)%65536=r-1:=by omega
 unfold fG
 rw[kR,hr,e1,Nat.mod_eq_of_lt hlt,Nat.mod_eq_of_lt CU]
 refine Nat.eq_of_testBit_eq (λi=>?_)
 have e2:r-1=2^(p+1)*m+(2^p-1):=by
  have h2:0<2^p:=Nat.two_pow_pos p
  rw[hm,Nat.pow_succ,Nat.mul_add,Nat.mul_one,<-Nat.mul_assoc];omega
 have h2:2^p-1<2^(p+1):=by have h2:0<2^p:=Nat.two_pow_pos p;rw[Nat.pow_succ];omega
 rw[Nat.testBit_and,e2,Nat.testBit_two_pow_mul_add _ h2,pW]
 have hs:r.testBit i=(decide (k<=i)&&(s%65536).testBit i):=by rw[<-hr,pW]
 by_cases c:p+1<=i
 ·have hk':decide (k<=i)=true:=by simp;omega
  rw[hk',Bool.true_and] at hs
  have hx:r.testBit i=m.testBit (i-(p+1)):=by
   rw[hb]
   have:i-p=(i-(p+1))+1:=by omega
   rw[this,Nat.testBit_succ,show(2*m+1)/2=m by omega]
   simp;omega
  rw[if_neg omgz,<-hs,hx]
  simp[c]
 ·rw[if_pos omgz,Nat.testBit_two_pow_sub_one]
  have:decide (p+1<=i)=false:=by simpa using c
  rw[this,Bool.false_and]
  by_cases c2:i<p
  ·have:r.testBit i=false:=by rw[hb];simp;omega
   rw[this];simp
  ·simp[c2]
theorem Rj(h:o8 s k%65536=0)(hk:k<=16):mem s 16=mem s k/\aF s 16=aF s k:=by
 have e:mem s 16=mem s k:=by
  refine Ky hk (λi h1 h2=>?_)
  have h3:(o8 s k).testBit i=false:=by
   rw[Nat.mod_eq_of_lt CU] at h;rw[h];simp
  rw[pW] at h3
  rw[<-qW h2]
  simpa[h1] using h3
 exact⟨e,by unfold aF;rw[e]⟩
end Go.Bp
namespace Go.Bp
open Go.Sy
variable {l:List Ex} {s q i j k n:Nat}
def CW(s n:Nat):List Nat:=(List.range n).filter λi=>s.testBit i
theorem Fp:mem s n=(CW s n).map λ(i:Nat)=>(i:Int):=by
 induction n with
 |zero=>rfl
 |succ n ih=>
  unfold CW at*
  rw[List.range_succ,List.filter_append,List.map_append,<-ih]
  cases h:s.testBit n with
  |true=>rw[Kv h];simp[h]
  |false=>rw[Kw h];simp[h]
theorem Rk:aF s n=(CW s n).length:=by unfold aF;rw[Fp];simp
theorem uG:i∈CW s n↔i<n/\s.testBit i=true:=by simp[CW]
end Go.Bp
namespace Go.Bp
open Go.Sy
variable {s q x y i j k n:Nat}
theorem CX(h:16<=i):bit x i=false:=CV h
theorem Rl(h:bit x i=true):i<16:=by
 refine Classical.byContradiction λhn=>?_
 rw[CX omgz] at h;cases h
theorem Yg:bit (x%65536) i=bit x i:=by unfold bit;rw[Nat.mod_mod]
theorem Fq:bit (fG x y) i=(bit x i&&bit y i):=by unfold bit fG;rw[kR,Nat.testBit_and]
theorem Yh:bit (sor x y) i=(bit x i||bit y i):=by unfold bit sor;rw[zD,Nat.testBit_or]
theorem Fs:bit (jE x y) i=(bit x i&& !bit y i):=by
 have h:=Qq (x:=x%65536) (y:=y) (j:=i) (Nat.mod_lt _ (by decide))
 by_cases hi:i<16
 ·have e:jE x y%65536=Xj (x%65536) y:=by
   unfold jE Xj
   rw[kR];congr 1;omega
  unfold bit
  rw[e,h,qW hi (s:=y)]
 ·rw[CX omgz,CX (x:=x) omgz];rfl
theorem Fu:bit 0 i=false:=by simp[bit]
theorem xH:x%65536=y%65536↔∀i,i<16->bit x i=bit y i:=by
 refine⟨λh i _=>by unfold bit;rw[h],λh=>Nat.eq_of_testBit_eq λi=>?_⟩
 by_cases hi:i<16
 ·exact h i hi
 ·rw[CV omgz,CV omgz]
theorem Rm:x%65536=0↔∀i,i<16->bit x i=false:=by
 have:=xH (x:=x) (y:=0)
 simp only[Fu,Nat.zero_mod] at this
 exact this
theorem xI:jE x y%65536=0↔∀i,bit x i=true->bit y i=true:=by
 rw[Rm]
 refine⟨λh i hx=>?_,λh i _=>?_⟩
 ·have:=h i (Rl hx)
  rw[Fs,hx] at this
  simpa using this
 ·rw[Fs]
  cases hx:bit x i with
  |false=>rfl
  |true=>rw[h i hx];rfl
theorem Yi(h:∀i,bit s i=true->i<n):s%65536<2^n:=by
 refine Nat.lt_of_not_le λhge=>?_
 obtain⟨k,hk1,hk2⟩:=Nat.exists_ge_and_testBit_of_ge_two_pow hge
 have:=h k hk2
 omega
end Go.Bp
namespace Go.Dg
structure Fo where
 v:Nat
 lo:Nat
 hi:Nat
deriving DecidableEq
instance:Inhabited Fo:=⟨⟨0,0,0⟩⟩
variable {F G D e:List Fo} {f:Fo} {n m i j k s t r u nx n1:Nat} {tab:Nat->Bool}
end Go.Dg
set_option maxHeartbeats 1000000
namespace Go.Proofs.YtgmpdplpodemaaaGreatDoor
open Go Go.Sy Go.Bp
attribute [local irreducible] AO AL AC OpT ACall Ends DGo aK Thn Blk Nxt
instance:aa Nd 5:=⟨λn=>[.val (.int .i64 n.kind),.val (.int .i64 n.server),.val (.int .i64 n.need),.isl n.wz (cI .i64 n.w) n.w.length,.isl n.kz (cI .i64 n.k) n.k.length],λ_=>rfl,λ_=>rfl,λ_=>rfl⟩
instance:aa Ex 2:=⟨λx=>[.isl x.nz (cR x.nodes) x.nodes.length,.val (.int .i64 x.root)],λ_=>rfl,λ_=>rfl,λ_=>rfl⟩
theorem zK(n:Nd):aa.cells n=[.val (.int .i64 n.kind),.val (.int .i64 n.server),.val (.int .i64 n.need),.isl n.wz (cI .i64 n.w) n.w.length,.isl n.kz (cI .i64 n.k) n.k.length]:=rfl
theorem jr(x:Ex):aa.cells x=[.isl x.nz (cR x.nodes) x.nodes.length,.val (.int .i64 x.root)]:=rfl
theorem ex_0(x:Ex):(aa.cells x)[0]? =some (.isl x.nz (cR x.nodes) x.nodes.length):=rfl
theorem ex_1(x:Ex):(aa.cells x)[1]? =some (.val (.int .i64 x.root)):=rfl
theorem Yj{l:List Nd} {a b c:Int} {wz kz:Bool} {w k:List Int} {n m:Nat}(hn:n=w.length)(hm:m=k.length):
 cR l++[.val (.int .i64 a),.val (.int .i64 b),.val (.int .i64 c),.isl wz (cI .i64 w) n,.isl kz (cI .i64 k) m]=cR (l++[⟨a,b,c,wz,w,kz,k⟩]):=by
 subst hn;subst hm;exact pO (a:=(⟨a,b,c,wz,w,kz,k⟩:Nd))
theorem lV{l:List Nd} {a b c:Int} {wz kz:Bool} {w:List Int} {n:Nat}(hn:n=w.length):
 cR l++[.val (.int .i64 a),.val (.int .i64 b),.val (.int .i64 c),.isl wz (cI .i64 w) n,.isl kz [] 0]=cR (l++[⟨a,b,c,wz,w,kz,[]⟩]):=by
 subst hn;exact pO (a:=(⟨a,b,c,wz,w,kz,[]⟩:Nd))
theorem dJ{l:List Nd} {a b c:Int} {wz kz:Bool} {k:List Int} {n:Nat}(hn:n=k.length):
 cR l++[.val (.int .i64 a),.val (.int .i64 b),.val (.int .i64 c),.isl wz [] 0,.isl kz (cI .i64 k) n]=cR (l++[⟨a,b,c,wz,[],kz,k⟩]):=by
 subst hn;exact pO (a:=(⟨a,b,c,wz,[],kz,k⟩:Nd))
theorem df{l:List Nd} {a b c:Int} {wz kz:Bool}:
 cR l++[.val (.int .i64 a),.val (.int .i64 b),.val (.int .i64 c),.isl wz [] 0,.isl kz [] 0]=cR (l++[⟨a,b,c,wz,[],kz,[]⟩]):=pO (a:=(⟨a,b,c,wz,[],kz,[]⟩:Nd))
attribute [push_cast] zK ex_0 ex_1 Yj
end Go.Proofs.YtgmpdplpodemaaaGreatDoor
namespace Go.Proofs.YtgmpdplpodemaaaGreatDoor
open Go Go.Sy Go.Bp
attribute [local irreducible] AO AL AC OpT ACall Ends DGo aK Thn Blk Nxt
variable {l k w:List Int} {z zk wz:Bool} {n K i j m b c:Nat} {a x:Int}
def dmy:Nat:=0
theorem ae:dmy=0:=rfl
theorem bq{α:Type} {l:List α} {d:α} {i:Nat}(h:i<l.length):l.getD i d∈l:=by rw[List.getD_eq_getElem?_getD,List.getElem?_eq_getElem h,Option.getD_some];exact List.getElem_mem h
theorem wT(h:0<n):(n==0)=false:=by simp;omega
def ifI(z:Bool)(F:Nat)(p:Int->Bool)(l:List Int)(n:Nat)(j:{j:Nat // j<=n/\∀i,i<j->p (l.getD i default)=false}):St:=
 ⟨19,0,[(0,.isl z (cI .i64 l) n),(1,.fn F []),(7,.val (.int .i64 n)),(8,.val (.int .i64 j.val))],[]⟩
theorem Yk{F:FuncId} [eU Tryz.prog F](p:Int->Bool)(hl:l.length=n)(hn:n<2^47)(hf:∀t:Int,ACall Tryz.prog F [.val (.int .i64 t)] [] 0 (.val (.bool (p t))) []):
 ACall Tryz.prog 164 [.isl z (cI .i64 l) n,.fn F []] [] 0 (.val (.int .i64 (ix p l))) []:=by
 refine az Tryz.func164 Tryz.ntmps164 rfl ?_
 repeat' (first|(refine ah ?_;refine ak [] ([].length) (ifI z F p l n) (λj=>n-j.val) (⟨0,omgz,λi hi=>absurd hi omgz⟩) rfl (by unfold ifI;exact jZ) ?_;(rintro⟨j,hj,hnb⟩;(simp-dsimp only[ifI];refine zqS ?_)))|(refine aj ?_;refine Nxt.mk [] (⟨j+1,omgz,kW hnb (by assumption)⟩) rfl (by unfold ifI;exact jZ) zqO)|refine zqN ?_|((first|refine ay rfl (λK hK=>?_)|refine au (λK hK=>?_));(first|refine gq (f:=F) [] 0 false ?_);refine mg ?_;(first|refine⟨_,_,hf (l.getD j default),?_⟩);refine jo ?_;apply hK;clear hK K)|refine aY ?_|refine aZ ?_|(refine bf ?_ ?_<;>intro hc<;>try exact zqM))
 all_goals first
  |(have e:ix p l=j:=oD omgz hnb (by assumption);exact fu [] @e)
  |(have ej:j=n:=omgz;subst ej;subst hl;have e:ix p l= -1:=lG hnb;exact fu [] @e)
theorem Rn{F:FuncId} [eU Tryz.prog F](p:Int->Bool)(hl:l.length=n)(hn:n<2^47)(hf:∀t:Int,ACall Tryz.prog F [.val (.int .i64 t)] [] 0 (.val (.bool (p t))) []):
 ACall Tryz.prog 124 [.isl z (cI .i64 l) n,.fn F []] [] 0 (.val (.bool (l.any p))) []:=by
 refine az Tryz.func124 Tryz.ntmps124 rfl ?_
 have zx1:= @jh;have zx2:=aA;have zx3:=aA;repeat' (first|refine zqN ?_|refine eG (Yk p hl hn hf) ?_|refine dm ?_|refine dn ?_|(refine dw ?_ ?_<;>intro hc<;>try exact zqM))
 all_goals exact fu [] @jh
end Go.Proofs.YtgmpdplpodemaaaGreatDoor
set_option maxHeartbeats 4000000
namespace Go.Proofs.YtgmpdplpodemaaaGreatDoor
open Go Go.Sy Go.Dg
attribute [local irreducible] AO AL AC OpT ACall Ends DGo aK Thn Blk Nxt
structure Fk where
 v:Int
 lo:Int
 hi:Int
deriving DecidableEq
instance:Inhabited Fk:=⟨⟨0,0,0⟩⟩
instance:aa Fk 3:=⟨λx=>[.val (.int .i64 x.v),.val (.int .i64 x.lo),.val (.int .i64 x.hi)],λ_=>rfl,λ_=>rfl,λ_=>rfl⟩
variable {N N':Nat} {F F1 F2 G:List Fo} {L L':List Fk} {v lo hi n k k1 k2 k' i m s t a b r:Nat} {p q p' q':Int} {z z':Bool} {x y:Fk}
end Go.Proofs.YtgmpdplpodemaaaGreatDoor
namespace Go.Bp
open Go.Sy
variable {s q x y i j k n m:Nat} {go:Nat->Bool}
def fd(go:Nat->Bool)(j:Nat):Nat->Nat×Bool
 |0=>(j,true)
 |n+1=>if go (j+1)=true then fd go (j+1) n else(j+1,false)
theorem CY(h:go (j+1)=true):fd go j (n+1)=fd go (j+1) n:=by simp[fd,h]
theorem Nq(h:go (j+1)=false):fd go j (n+1)=(j+1,false):=by simp[fd,h]
theorem ai7(h0:go j=true)(h:(fd go j n).2=true):go (fd go j n).1=true/\(fd go j n).1=j+n:=by
 induction n generalizing j with
 |zero=>exact⟨h0,rfl⟩
 |succ n ih=>
  by_cases hg:go (j+1)=true
  ·rw[CY hg] at h⊢
   have:=ih hg h
   exact⟨this.1,by rw[this.2];omega⟩
  ·rw[Nq (by simpa using hg)] at h;cases h
theorem afH(h:(fd go j n).2=true):fd go j (n+m)=fd go (j+n) m:=by
 induction n generalizing j with
 |zero=>rw[Nat.zero_add];rfl
 |succ n ih=>
  by_cases hg:go (j+1)=true
  ·rw[CY hg] at h
   rw[show n+1+m=n+m+1 by omega,CY hg,ih h,show j+1+n=j+(n+1) by omega]
  ·rw[Nq (by simpa using hg)] at h;cases h
theorem Rp(h:(fd go j n).2=false):fd go j (n+m)=fd go j n:=by
 induction n generalizing j with
 |zero=>cases h
 |succ n ih=>
  by_cases hg:go (j+1)=true
  ·rw[CY hg] at h⊢
   rw[show n+1+m=n+m+1 by omega,CY hg,ih h]
  ·have hg:go (j+1)=false:=by simpa using hg
   rw[Nq hg,show n+1+m=n+m+1 by omega,Nq hg]
def iZ(m k:Nat):List Nat:=(List.range (2^m)).filter λn=>decide ((aF n 16)=k)
def Yl(n:Nat):Nat:=fG n (Iu n)
def upV(n:Nat):Nat:=n+Yl n
def IL(n:Nat):Nat:=sor (upV n) (X3 (rH n (upV n)) (Yl n)%4294967296/2^2)
def IM(m k:Nat):Bool:=
 let l:=iZ m k
 decide (0<l.length)&&decide (l.length<=126)&&decide (l.getD 0 0=2^k-1)&&(List.range l.length).all λj=>
  let n:=l.getD j 0
  decide (n<2^m)&&(if n=0 then decide (j+1=l.length) else decide (Yl n%4294967296≠0)&&(if j+1<l.length then decide (IL n%4294967296=l.getD (j+1) 0) else !decide (IL n%4294967296<2^m)))
theorem Kz:∀m,m<10->∀k,k<m+1->IM m k=true:=by decide+kernel
structure acZ(m k j n:Nat):Prop where
 lt:n<2^m
 zero:n=0->j+1=(iZ m k).length
 low:n≠0->Yl n%4294967296≠0
 next:n≠0->j+1<(iZ m k).length->IL n%4294967296=(iZ m k).getD (j+1) 0
 last:n≠0->¬j+1<(iZ m k).length->¬IL n%4294967296<2^m
theorem Ym(hm:m<10)(hk:k<=m)(hj:j<(iZ m k).length):acZ m k j ((iZ m k).getD j 0):=by
 have h:=Kz m hm k omgz
 unfold IM at h
 simp only[Bool.and_eq_true,decide_eq_true_eq,List.all_eq_true,List.mem_range] at h
 obtain⟨_,h⟩:=h
 obtain⟨h1,h2⟩:=h j hj
 refine⟨h1,λe=>?_,λe=>?_,λe e2=>?_,λe e2=>?_⟩
 ·rw[if_pos e] at h2;simpa using h2
 ·rw[if_neg e] at h2;simp only[Bool.and_eq_true,decide_eq_true_eq] at h2;exact h2.1
 ·rw[if_neg e] at h2;simp only[Bool.and_eq_true,decide_eq_true_eq] at h2;rw[if_pos e2] at h2;simpa using h2.2
 ·rw[if_neg e] at h2;simp only[Bool.and_eq_true,decide_eq_true_eq] at h2;rw[if_neg e2] at h2;simpa using h2.2
theorem IP(hm:m<10)(hk:k<=m):0<(iZ m k).length/\(iZ m k).length<=126/\(iZ m k).getD 0 0=2^k-1:=by
 have h:=Kz m hm k omgz
 unfold IM at h
 simp only[Bool.and_eq_true,decide_eq_true_eq] at h
 exact⟨h.1.1.1,h.1.1.2,h.1.2⟩
def BJ(ms:List Nat)(n:Nat):Nat->Nat
 |0=>0
 |i+1=>if Nh n i=true then sor (BJ ms n i) (2^ms.getD i 0) else BJ ms n i
def pick(s n:Nat):Nat:=BJ (CW s 16) n (aF s 16)
def chs(s k:Nat):List Nat:=(iZ (aF s 16) k).map (pick s)
def uH(s:Nat):Nat->List Nat
 |0=>[]
 |k+1=>uH s k++chs s k
def iq(s:Nat):List Nat:=uH s (aF s 16+1)
end Go.Bp
namespace Go.Bp
open Go.Sy
variable {n i j k m s N:Nat} {go:Nat->Bool}
def sbL(s k:Nat):Nat:=(uH s k).length
theorem zL:sbL s (k+1)=sbL s k+(iZ (aF s 16) k).length:=by unfold sbL;simp[uH,chs]
theorem acj:sbL s 0=0:=rfl
theorem BK:∃r,uH s (k+n)=uH s k++r:=by
 induction n with
 |zero=>exact⟨[],by simp⟩
 |succ n ih=>
  obtain⟨r,hr⟩:=ih
  exact⟨r++chs s (k+n),by show uH s (k+n)++chs s (k+n)=_;rw[hr,List.append_assoc]⟩
theorem IQ(h:k<=m):sbL s k<=sbL s m:=by
 obtain⟨r,hr⟩:=BK (s:=s) (k:=k) (n:=m-k)
 rw[show k+(m-k)=m by omega] at hr
 unfold sbL;rw[hr,List.length_append];omega
theorem Yn(hk:k<=aF s 16)(hi:i<(iZ (aF s 16) k).length):(iq s).getD (sbL s k+i) 0=pick s ((iZ (aF s 16) k).getD i 0):=by
 obtain⟨r,hr⟩:=BK (s:=s) (k:=k+1) (n:=aF s 16-k)
 rw[show k+1+(aF s 16-k)=aF s 16+1 by omega] at hr
 unfold iq sbL;rw[hr,show uH s (k+1)=uH s k++chs s k from rfl,List.append_assoc]
 have hc:i<(chs s k).length:=by unfold chs;simpa using hi
 simp only[List.getD_eq_getElem?_getD]
 rw[List.getElem?_append_right omgz,Nat.add_sub_cancel_left,List.getElem?_append_left hc]
 unfold chs;simp[List.getElem?_eq_getElem hi]
structure SG(s:Nat)(go:Nat->Bool)(k:Nat):Prop where
 hle:k<=aF s 16+1
 hgo:go (sbL s k)=true
 hfd:fd go 0 (iq s).length=fd go (sbL s k) ((iq s).length-sbL s k)
theorem SG.zero(h:go 0=true):SG s go 0:=⟨omgz,h,by rw[acj];rfl⟩
theorem xK:(iq s).length=sbL s (aF s 16+1):=rfl
theorem SG.t(h:SG s go k)(hk:k<=aF s 16)(hb:(fd go (sbL s k) (iZ (aF s 16) k).length).2=true):SG s go (k+1)/\(fd go (sbL s k) (iZ (aF s 16) k).length).1=sbL s (k+1):=by
 have h1:=ai7 h.hgo hb
 have hl:=IQ (s:=s) (k:=k+1) (m:=aF s 16+1) omgz
 rw[<-xK] at hl
 have hs:=zL (s:=s) (k:=k)
 rw[<-hs] at h1
 refine⟨⟨omgz,by rw[<-h1.2];exact h1.1,?_⟩,h1.2⟩
 rw[h.hfd,show(iq s).length-sbL s k=(iZ (aF s 16) k).length+((iq s).length-sbL s (k+1)) by omega,afH hb,<-hs]
theorem SG.f(h:SG s go k)(hk:k<=aF s 16)(hb:(fd go (sbL s k) (iZ (aF s 16) k).length).2=false):fd go 0 (iq s).length=fd go (sbL s k) (iZ (aF s 16) k).length:=by
 have hl:=IQ (s:=s) (k:=k+1) (m:=aF s 16+1) omgz
 rw[<-xK] at hl
 have hs:=zL (s:=s) (k:=k)
 rw[h.hfd,show(iq s).length-sbL s k=(iZ (aF s 16) k).length+((iq s).length-sbL s (k+1)) by omega,Rp hb]
theorem SG.e(h:SG s go k)(hk:k=aF s 16+1):(fd go 0 (iq s).length).1=sbL s k:=by
 rw[h.hfd,xK,hk,Nat.sub_self];rfl
end Go.Bp
namespace Go.Bp
open Go.Sy
variable {n i j k m s q d x N L:Nat} {p:Nat->Bool} {xs:List Nat}
def fH(acc:List Nat)(q:Nat):Bool:=acc.any λm=>decide (jE m q%65536=0)
end Go.Bp
namespace Go.Dg
open Go.Bp Go.Sy
variable {F G D e A B:List Fo} {f:Fo} {n m i j k s t r u v w nx n1 l x y:Nat} {tab φ φ0 φ1 p q:Nat->Bool} {xs:List Nat}
def mB(p:Nat->Bool)(xs:List Nat):Nat->List Nat
 |0=>[]
 |j+1=>if(!fH (mB p xs j) (xs.getD j 0)&&p (xs.getD j 0))=true then mB p xs j++[xs.getD j 0] else mB p xs j
def isM(p:Nat->Bool)(x:Nat):Bool:=p x&&(List.range x).all λy=> !(p y&&decide (jE y x%65536=0))
theorem KA:isM p x=true↔p x=true/\∀y,y<x->p y=true->¬jE y x%65536=0:=by
 unfold isM
 rw[Bool.and_eq_true,List.all_eq_true]
 refine and_congr_right λ_=>⟨λh y hy hp hs=>?_,λh y hy=>?_⟩
 ·have:=h y (List.mem_range.2 hy)
  rw[hp,decide_eq_true hs] at this;cases this
 ·have:=h y (List.mem_range.1 hy)
  cases hp:p y with
  |false=>rfl
  |true=>rw[decide_eq_false (this hp)];rfl
theorem zM:jE x x%65536=0:=xI.2 λ_ h=>h
theorem afI(h:jE x y%65536=0)(hx:x<65536)(hy:y<65536):x<=y:=by
 have hb:=xI.1 h
 have e:x&&&y=x:=by
  apply Nat.eq_of_testBit_eq
  intro i
  rw[Nat.testBit_and]
  have:=hb i
  unfold bit at this
  rw[Nat.mod_eq_of_lt hx,Nat.mod_eq_of_lt hy] at this
  cases h1:x.testBit i with
  |false=>rfl
  |true=>rw[this h1];rfl
 rw[<-e];exact Nat.and_le_right
end Go.Dg
set_option maxHeartbeats 2000000
namespace Go.Proofs.YtgmpdplpodemaaaGreatDoor
open Go Go.Sy Go.Bp
attribute [local irreducible] AO AL AC OpT ACall Ends DGo aK Thn Blk Nxt
variable {s i j k n:Nat}
theorem ai8:GV 0= .ipt (cI .u8 yJ) 0:=rfl
theorem uI(h:s%65536≠0):U (fG s (65536-s%65536))=U (2^low s)/\low s<16:=by
 have:=Lib.lowest_bit 16 (s%65536) h (Nat.mod_lt _ (by decide))
 refine⟨?_,this.2⟩
 have h2:=this.1
 have e:65536-s%65536=2^16-s%65536:=by omega
 unfold fG low
 rw[<-h2,<-e]
 unfold U
 congr 1
 have lt:65536-s%65536<65536:=by omega
 rw[kR,Nat.mod_eq_of_lt lt,Nat.mod_eq_of_lt (show s%65536&&&(65536-s%65536)<65536 from Nat.lt_of_le_of_lt Nat.and_le_right lt)]
def dbI(p:Nat):Nat:=2^p*125613361%4294967296/134217728
theorem ack(h:n<32):dbI n<32/\yJ[dbI n]? =some (n:Int):=by
 have key:∀k,k<32->dbI k<32/\yJ[dbI k]? =some (k:Int):=by decide+kernel
 exact key n h
theorem afJ(m:Nat):IntKind.wrap .u32 (m:Int)=((m%4294967296:Nat):Int):=by
 simp[IntKind.wrap,IntKind.bits,IntKind.signed]
theorem afK(m:Nat):Int.fdiv (m:Int) (2^min (27:Nat) (IntKind.bits .u32))=((m/134217728:Nat):Int):=by
 rw[show min (27:Nat) (IntKind.bits .u32)=27 from rfl,Int.fdiv_eq_ediv_of_nonneg _ (by decide),show(2:Int)^27=((134217728:Nat):Int) by rfl,<-Int.natCast_ediv]
theorem afL(h:n<16):Int.fdiv (IntKind.wrap .u32 (U (2^n)*125613361)) (2^min (27:Nat) (IntKind.bits .u32))=(dbI n:Int):=by
 have h2:2^n<65536:=by rw[show(65536:Nat)=2^16 by rfl];exact Nat.pow_lt_pow_right (by decide) h
 rw[Bb h2,show(((2^n:Nat):Int)*125613361)=((2^n*125613361:Nat):Int) by simp,afJ,afK];rfl
theorem afM{q d r:Nat}(hne:¬s%65536=0)(hl:U (fG s (65536-s%65536))=U q)(hm:Int.fdiv (IntKind.wrap .u32 (U q*125613361)) (2^min (27:Nat) (IntKind.bits .u32))=(d:Int))(hd:d<32)(ha:yJ[d]? =some (r:Int))(hr:r<16):
 ACall Tryz.prog 85 [.val (.int .u16 (U s))] [] 0 (.val (.int .i64 r)) []:=by
 refine az Tryz.func85 Tryz.ntmps85 rfl ?_
 have zx1:= @hne;have zx2:= @hl;have zx3:= @hm;have zx4:= @ai8;have zx5:= @ha;have zx6:=aA;repeat' (first|refine zqN ?_|refine kI ?_|refine kJ ?_|(refine kK ?_ ?_<;>intro hc<;>try exact zqM))
 all_goals exact aB []
theorem ai9(hne:¬s%65536=0):ACall Tryz.prog 85 [.val (.int .u16 (U s))] [] 0 (.val (.int .i64 (low s))) []:=
 afM hne (uI hne).1 (afL (uI hne).2) (ack (n:=low s) (by have:=(uI hne).2;omega)).1 (ack (n:=low s) (by have:=(uI hne).2;omega)).2 (uI hne).2
def P8:ByteArray:=⟨[0,1,1,2,1,2,2,3,1,2,2,3,2,3,3,4,1,2,2,3,2,3,3,4,2,3,3,4,3,4,4,5,1,2,2,3,2,3,3,4,2,3,3,4,3,4,4,5,2,3,3,4,3,4,4,5,3,4,4,5,4,5,5,6,1,2,2,3,2,3,3,4,2,3,3,4,3,4,4,5,2,3,3,4,3,4,4,5,3,4,4,5,4,5,5,6,2,3,3,4,3,4,4,5,3,4,4,5,4,5,5,6,3,4,4,5,4,5,5,6,4,5,5,6,5,6,6,7,1,2,2,3,2,3,3,4,2,3,3,4,3,4,4,5,2,3,3,4,3,4,4,5,3,4,4,5,4,5,5,6,2,3,3,4,3,4,4,5,3,4,4,5,4,5,5,6,3,4,4,5,4,5,5,6,4,5,5,6,5,6,6,7,2,3,3,4,3,4,4,5,3,4,4,5,4,5,5,6,3,4,4,5,4,5,5,6,4,5,5,6,5,6,6,7,3,4,4,5,4,5,5,6,4,5,5,6,5,6,6,7,4,5,5,6,5,6,6,7,5,6,6,7,6,7,7,8].toArray⟩
theorem Yo:P8.size=256:=by decide+kernel
def IR(i:Int):Int:=(aF i.toNat 16:Nat)
theorem aja:∀i,i<256->((P8.get! i).toNat:Int)=(aF i 16:Nat):=by decide+kernel
theorem ajb{P:Program} {st:St} {dst:Option Nat} {ty:TypeId} {pos:String} {af:Array Edge} {g:Option (Nat×Bool)} {nid:Nat} {K:Nat->Eff->Prop}(t:TypeId){lit:ByteArray}(ix:Operand) [ht:Eo P t](hl:lit=P8)
 (h:aH (jK (st.op ix)) λi=>(0<=i/\i<256)/\K 0 ⟨.val (.int .u8 (IR i)),[]⟩):AO P ⟨dst,.index t (.const (.string lit)) ix,ty,pos,af,g⟩ nid st K:=by
 subst hl
 obtain⟨i,h1,⟨h2,h3⟩,h4⟩:=h
 refine iQ t _ ix ⟨_,rfl,i,h1,⟨h2,?_⟩,?_⟩
 ·rw[Yo];exact h3
 ·have:=aja i.toNat omgz
  show K 0 ⟨.val (.int .u8 ((P8.get! i.toNat).toNat:Int)),[]⟩
  rw[this];exact h4
theorem KC(i:Int):0<=IR i/\IR i<=16:=by have:=ni (s:=i.toNat) (j:=16);unfold IR;omega
def cb(s i:Nat):Nat:=if s.testBit i=true then 1 else 0
theorem Yp{s j:Nat}:aF s (j+1)=aF s j+cb s j:=by
 unfold cb
 cases h:s.testBit j with
 |true=>rw[IJ h];simp
 |false=>rw[IK h];simp
theorem zN{s:Nat}:aF s 16=cb s 0+cb s 1+cb s 2+cb s 3+cb s 4+cb s 5+cb s 6+cb s 7+cb s 8+cb s 9+cb s 10+cb s 11+cb s 12+cb s 13+cb s 14+cb s 15:=by
 iterate 16 rw[Yp]
 rw[II];omega
theorem Rq{s:Nat}:aF (s%65536) 16=aF s 16:=by
 have key:∀i,i<16->cb (s%65536) i=cb s i:=λi hi=>by
  unfold cb;rw[show(65536:Nat)=2^16 by rfl,Nat.testBit_mod_two_pow];simp[hi]
 rw[zN,zN]
 simp(discharger:=omega) only[key]
theorem Yq{s:Nat}:IR (U (s%65536/256))+IR (U (fG s 255))=(aF s 16:Nat):=by
 have e1:(U (s%65536/256)).toNat=s%65536/256:=by rw[Bb omgz];rfl
 have e2:fG s 255<65536:=Nat.lt_of_le_of_lt Nat.and_le_right (by decide)
 have e3:(U (fG s 255)).toNat=fG s 255:=by rw[Bb e2];rfl
 unfold IR
 rw[e1,e3,<-Rq (s:=s),zN,zN,zN]
 have h1:∀i,cb (s%65536/256) i=cb (s%65536) (i+8):=λi=>by
  unfold cb
  rw[show(256:Nat)=2^8 by rfl,Nat.testBit_div_two_pow]
 have h2:∀i,i<8->cb (fG s 255) i=cb (s%65536) i:=λi hi=>by
  unfold cb fG
  rw[Nat.testBit_and,show(255:Nat)=2^8-1 by rfl,Nat.testBit_two_pow_sub_one,show(65536:Nat)=2^16 by rfl,Nat.testBit_mod_two_pow]
  simp[hi,show i<16 by omega]
 have h3:∀i,8<=i->cb (fG s 255) i=0:=λi hi=>by
  unfold cb fG
  rw[Nat.testBit_and,show(255:Nat)=2^8-1 by rfl,Nat.testBit_two_pow_sub_one]
  simp[show¬i<8 by omega]
 have h4:∀i,16<=i->cb (s%65536) i=0:=λi hi=>by
  unfold cb
  rw[show(65536:Nat)=2^16 by rfl,Nat.testBit_mod_two_pow]
  simp[show¬i<16 by omega]
 simp only[h1,Nat.reduceAdd]
 simp(discharger:=omega) only[h2,h3,h4]
 omega
theorem ajc:ACall Tryz.prog 37 [.val (.int .u16 (U s))] [] 0 (.val (.int .i64 (aF s 16:Nat))) []:=by
 have e0:U (s%65536/256)<256:=by rw[Bb omgz];omega
 have e1:U (fG s 255)<256:=by
  have h:fG s 255<=255:=Nat.and_le_right
  rw[Bb omgz];omega
 have e2:=XF (x:=s%65536/256)
 have e3:=XF (x:=fG s 255)
 have e4:=KC (U (s%65536/256))
 have e5:=KC (U (fG s 255))
 have zx1:=Yq (s:=s)
 have e7:=ni (s:=s) (j:=16)
 generalize aF s 16=m at*
 refine az Tryz.func37 Tryz.ntmps37 rfl ?_
 have zx2:=aA;have zx3:=aA;repeat' (first|((refine aD (λK hK=>?_);refine ajb _ _ (by kernel_rfl) ?_;(simp-dsimp(disch:=try exact vD) only[push_cast,simprocAttr,zx1]);(repeat refine aI ?_);first|refine hK _ _ _ ?_|refine hK _ _ ?_;clear hK K))|refine zqN ?_|refine dm ?_|refine dn ?_|(refine dw ?_ ?_<;>intro hc<;>try exact zqM)|refine zqR [] ?_|refine zqD ?_|fail)
 all_goals exact aB []
def msI(s:Nat)(k:{k:Nat // k<=16}):St:=
 ⟨16,0,[(0,.val (.int .u16 (U (o8 s k.val)))),(3,fw (aF s k.val) 0 1)],fA (aF s k.val) 0 (cI .i64 (mem s k.val)) 3⟩
theorem KD:ACall Tryz.prog 46 [.val (.int .u16 (U s))] [] 0 (.isl (aF s 16==0) (cI .i64 (mem s 16)) (aF s 16)) []:=by
 have h00:U s=U (o8 s 0):=by rw[afG,acb]
 rw[h00]
 have zx2:=ae;have zx3:=ae;have zx4:=ae;have zx5:=ae
 have hle:=λ(j:Nat)=>ni (s:=s) (j:=j)
 refine az Tryz.func46 Tryz.ntmps46 rfl ?_
 have zx1:= @QO;have zx6:= @II;have zx7:= @dI;have zx8:= @aci;have zx9:=aA;repeat' (first|(refine ah ?_;refine ak [9] ([9].length) (msI s) (λk=>16-k.val) (⟨0,omgz⟩) rfl (by unfold msI;exact aO) ?_;(rintro⟨k,hk⟩;have hkl:=hle k;rcases Decidable.em (o8 s k%65536=0) with hz|hz<;>first|(have hlm:=Rj hz hk;rcases Nat.eq_zero_or_pos (aF s k) with h0|h0<;>(simp-dsimp only[msI];refine zqS ?_))|(have hn:=Ri hz;have hnp:=hn.lt;have hng:=hn.ge;have zx2:=hn.mem;have zx3:=hn.len;have zx4:=hn.cut;generalize zx5:low (o8 s k)=p at hn hnp hng zx2 zx3 zx4;rcases Nat.eq_zero_or_pos (aF s k) with h0|h0<;>(simp-dsimp only[msI];refine zqS ?_))))|(refine aj ?_;refine Nxt.mk [2] (⟨p+1,omgz⟩) rfl (by unfold msI;exact aO) zqO)|(refine aj ?_;refine Nxt.mk [1] (⟨p+1,omgz⟩) rfl (by unfold msI;exact aO) zqO)|refine zqN ?_|refine fC (ai9 (s:=o8 s k) (by assumption)) ?_|refine mh ?_|refine kg ?_|refine ko ?_|refine kr ?_|refine mo ?_|(refine mq ?_ ?_<;>intro hc<;>try exact zqM))
 all_goals first
  |(rw[hlm.1,hlm.2,h0,aci h0];exact aB [];done)
  |(rw[hlm.1,hlm.2,wT h0];((refine Ends.frz 0 ?_;simp-dsimp(disch:=try exact vD) only[push_cast,simprocAttr,Tryz.f46,Rh,dI];(repeat refine aI ?_);intro K hK;refine hK _ _ ?_;clear hK K);refine Ends.mk2 zqI [] ?_;simp-dsimp(disch:=try exact vD) only[push_cast,simprocAttr,Tryz.f46,Rh,dI];try exact zqF);done)
  |skip
theorem CZ:ACall Tryz.prog 12 [.val (.int .u16 (U s))] [] 0 (.val (.int .i64 (aF s 16:Nat))) []:=by
 refine az Tryz.func12 Tryz.ntmps12 rfl ?_
 repeat' (first|refine zqN ?_|refine aM (ajc (s:=s)) ?_|refine aY ?_|refine aZ ?_|(refine bf ?_ ?_<;>intro hc<;>try exact zqM))
 all_goals exact aB []
end Go.Proofs.YtgmpdplpodemaaaGreatDoor
namespace Go.Proofs.YtgmpdplpodemaaaGreatDoor
open Go Go.Sy Go.Bp
attribute [local irreducible] AO AL AC OpT ACall Ends DGo aK Thn Blk Nxt
variable {n i j k m s N j0:Nat} {H:jG}
theorem afN{k:List Nat}(hi:i<k.length):(k.map λ(i:Nat)=>(i:Int)).getD i default=((k.getD i 0:Nat):Int):=by
 simp[List.getD_eq_getElem?_getD,List.getElem?_eq_getElem hi]
def piN(s i:Nat):Nat:=(CW s 16).getD i 0
theorem afO(hi:i<aF s 16):(mem s 16).getD i default=(piN s i:Int):=by rw[Fp,afN (by rw[<-Rk];exact hi)];rfl
theorem Yr(hi:i<aF s 16):piN s i∈CW s 16:=by
 rw[Rk] at hi
 unfold piN;rw[List.getD_eq_getElem?_getD,List.getElem?_eq_getElem hi,Option.getD_some];exact List.getElem_mem hi
theorem Yt(hi:i<aF s 16):piN s i<16/\bit s (piN s i)=true:=by
 have:=uG.1 (Yr hi)
 exact⟨this.1,by unfold bit;rw[qW this.1];exact this.2⟩
def pkA(s n i:Nat):Nat:=BJ (CW s 16) n i
theorem ajd:pkA s n 0=0:=rfl
theorem aje(h:Nh n i=true):pkA s n (i+1)=sor (pkA s n i) (2^piN s i):=by unfold pkA piN;simp[BJ,h]
theorem ajf(h:Nh n i=false):pkA s n (i+1)=pkA s n i:=by unfold pkA;simp[BJ,h]
theorem Yu:pkA s n (aF s 16)=pick s n:=rfl
structure CG(s k N:Nat)(go:Nat->Bool)(j0:Nat)(p:Nat×Nat):Prop where
 hle:p.1<=N
 hat:p.1<N->p.2=(iZ (aF s 16) k).getD p.1 0
 hend:p.1=N->¬p.2%4294967296<2^aF s 16
 hgo:go (j0+p.1)=true
 hfd:fd go j0 N=fd go (j0+p.1) (N-p.1)
theorem Rs:V (sor (n+fG n (Iu n)) (X3 (rH n (n+fG n (Iu n))) (fG n (Iu n))%4294967296/4))=V (IL n):=rfl
theorem CG.nxt{go:Nat->Bool} {j0:Nat}(hc:acZ (aF s 16) k i n)(hN:(iZ (aF s 16) k).length=N)(hi:i<N)(h0:n≠0)(hg:go (j0+i+1)=true)(hf:fd go j0 N=fd go (j0+i) (N-i)):
 CG s k N go j0 (i+1,IL n%4294967296):=by
 refine⟨omgz,λe=>hc.next h0 (by dsimp only at e;omega),λe=>?_,hg,?_⟩
 ·dsimp only at e⊢
  rw[Nat.mod_mod];exact hc.last h0 omgz
 ·rw[hf];dsimp only
  rw[show N-i=N-(i+1)+1 by omega,CY hg,Nat.add_assoc]
theorem fdG{go:Nat->Bool} {j0:Nat}(hi:i<N)(hg:go (j0+i+1)=false)(hf:fd go j0 N=fd go (j0+i) (N-i)):fd go j0 N=(j0+i+1,false):=by
 rw[hf,show N-i=N-(i+1)+1 by omega,Nq hg]
theorem fdZ{go:Nat->Bool} {j0:Nat}(hi:i+1=N)(hg:go (j0+i+1)=true)(hf:fd go j0 N=fd go (j0+i) (N-i)):fd go j0 N=(j0+i+1,true):=by
 rw[hf,show N-i=0+1 by omega,CY hg];rfl
theorem fdN{go:Nat->Bool} {j0:Nat}(hi:i=N)(hf:fd go j0 N=fd go (j0+i) (N-i)):fd go j0 N=(j0+i,true):=by
 rw[hf,show N-i=0 by omega];rfl
attribute [local irreducible] aF mem iZ pick pkA fd
def coI(s:Nat)(k N:Nat)(H:jG)(j0:Nat)(p:{p:Nat×Nat // CG s k N H.go j0 p}):St:=
 ⟨70,1,[(2,.yl 0),(7,.isl (aF s 16==0) (cI .i64 (mem s 16)) (aF s 16)),(8,.val (.int .u32 (V p.val.2)))],[(0,some (.tr H (j0+p.val.1)))]⟩
def coJ(s n:Nat)(H:jG)(j:Nat)(i:{i:Nat // i<=aF s 16}):St:=
 ⟨70,1,[(2,.yl 0),(7,.isl (aF s 16==0) (cI .i64 (mem s 16)) (aF s 16)),(8,.val (.int .u32 (V n))),(9,.val (.int .u16 (U (pkA s n i.val)))),(32,.isl (aF s 16==0) (cI .i64 (mem s 16)) (aF s 16)),(33,.val (.int .i64 (aF s 16))),(34,.val (.int .i64 i.val))],[(0,some (.tr H j))]⟩
theorem Nr(hP:H.P=Tryz.prog)(hm:aF s 16<10)(hk:k<=aF s 16)(hN:(iZ (aF s 16) k).length=N)(hgo:H.go j0=true)(hx:∀i,i<N->H.xs (j0+i)=some (.int .u16 (U (pick s ((iZ (aF s 16) k).getD i 0))))):
 ACall Tryz.prog 39 [.val (.int .u16 (U s)),.val (.int .i64 k),.yl 0] [.tr H j0] 1 (.val (.bool (fd H.go j0 N).2)) [.tr H (fd H.go j0 N).1]:=by
 have hf:=IP hm hk
 have hM:2^aF s 16<=512:=by rw[show(512:Nat)=2^9 by rfl];exact Nat.pow_le_pow_right (by decide) omgz
 have hk1:2^k<=2^aF s 16:=Nat.pow_le_pow_right (by decide) hk
 have zx3:2^aF s 16%4294967296=2^aF s 16:=Nat.mod_eq_of_lt omgz
 have zx4:=dI (s:=s) (j:=16)
 have h0:CG s k N H.go j0 (0,2^k-1):=⟨omgz,λ_=>hf.2.2.symm,λe=>absurd e (by show¬(0=N);omega),hgo,rfl⟩
 have hat:=λ(i:Nat) (h:i<N)=>PLift.up (Ym hm hk (j:=i) omgz)
 have hx:=PLift.up hx
 generalize hM2:2^aF s 16=M at hM zx3
 have zx5:=ae;have zx6:=ae;have zx7:=ae;have hne:=ae;have hmn:=ae;have zx8:=ae;have zx9:=ae;have zx10:=ae;have zx11:=ae;have zx12:=ae;have zx13:=ae;have zx14:=ae;have zx15:=ae;have zx16:=ae
 refine az Tryz.func39 Tryz.ntmps39 rfl ?_
 have zx1:= @hP;have zx2:= @hM2;have zx17:= @ajd;have zx18:= @aje;have zx19:= @ajf;have zx20:= @Rs;repeat' (first|(((first|refine ay rfl (λK hK=>?_)|refine au (λK hK=>?_));apply Xy;(simp-dsimp(disch:=try exact vD) only[push_cast,simprocAttr,hP,zx10,zx13,zx14]);(repeat refine aI ?_);apply hK;clear hK K))|(refine ah ?_;refine ak [0] ([0].length) (coJ s n H (j0+i)) (λa=>aF s 16-a.val) (⟨0,omgz⟩) rfl (by unfold coJ;exact mr) ?_;(rintro⟨a,ha⟩;rcases Nat.lt_or_eq_of_le ha with hal|hal<;>first|(have zx11:=afO (s:=s) hal;have hpb:=Yt hal;rcases Bool.eq_false_or_eq_true (Nh n a) with zx12|zx12<;>(simp-dsimp only[coJ];refine zqS ?_))|(have zx16:pkA s n a=pick s n:=(by rw[hal];exact Yu);(simp-dsimp only[coJ];refine zqS ?_))))|(refine aj ?_;refine Nxt.mk [0] (⟨a+1,omgz⟩) rfl (by unfold coJ;exact mr) zqO)|(refine ah ?_;refine ak [0] ([0].length) (coI s k N H j0) (λp=>N-p.val.1) (⟨(0,2^k-1),h0⟩) rfl (by unfold coI;exact mr) ?_;(rintro⟨⟨i,n⟩,hc0⟩;have hle:=hc0.hle;have zx14:=hc0.hgo;have hfd:=hc0.hfd;dsimp only at hle zx14 hfd;rcases Nat.lt_or_eq_of_le hle with hil|hil<;>first|(have zx9:=hc0.hend hil;have zx6:=fdN hil hfd;rw[hM2] at zx9;(simp-dsimp only[coI];refine zqS ?_))|(have hne:=hc0.hat hil;have hCN:=(hat i hil).down;have zx10:=hx.down i hil;dsimp only at hne;rw[<-hne] at hCN zx10;clear hne;have zx5:j0+(i+1)=j0+i+1:=(Nat.add_assoc j0 i 1).symm;have zx8:=hCN.lt;rw[hM2] at zx8;have hmn:n%4294967296=n:=Nat.mod_eq_of_lt omgz;rw[<-hmn] at zx8;have hzl:=hCN.zero;rw[hN] at hzl;rcases Nat.eq_zero_or_pos n with hnz|hnz<;>(first|(have zx15:(n%4294967296=0)=True:=eq_true omgz)|(have zx15:(n%4294967296=0)=False:=eq_false omgz));all_goals(rcases Bool.eq_false_or_eq_true (H.go (j0+i+1)) with zx13|zx13)<;>(first|have zx7:(fG n (Iu n)%4294967296=0)=False:=eq_false (hCN.low omgz)|have hlo:=ae)<;>(first|have zx6:=fdG hil zx13 hfd|have zx6:=fdZ (hzl hnz) zx13 hfd|have zx6:=CG.nxt hCN hN hil omgz zx13 hfd)<;>(simp-dsimp only[coI];refine zqS ?_))))|(refine aj ?_;refine Nxt.mk [0] (⟨(i+1,IL n%4294967296),zx6⟩) rfl (by unfold coI;exact mr) zqO)|refine zqN ?_|refine aiR (KD (s:=s)) ?_|refine QB ?_|refine QG ?_|(refine QH ?_ ?_<;>intro hc<;>try exact zqM))
 all_goals exact fu [0] @zx6
end Go.Proofs.YtgmpdplpodemaaaGreatDoor
namespace Go.Proofs.YtgmpdplpodemaaaGreatDoor
open Go Go.Sy Go.Bp
attribute [local irreducible] AO AL AC OpT ACall Ends DGo aK Thn Blk Nxt
variable {n i j k m s N j0:Nat} {H:jG}
attribute [local irreducible] aF mem iZ pick fd sbL iq
abbrev bxS(s:Nat):AV:= .ipt [.val (.int .u16 (U s))] 0
def sbI(s:Nat)(H:jG)(k:{k:Nat // SG s H.go k}):St:=
 ⟨16,1,[(0,.yl 0),(1,bxS s),(3,.val (.int .i64 k.val))],[(0,some (.tr H (sbL s k.val)))]⟩
theorem Fv(hP:H.P=Tryz.prog)(hm:aF s 16<10)(hgo:H.go 0=true)(hx:∀i,i<(iq s).length->H.xs i=some (.int .u16 (U ((iq s).getD i 0)))):
 ACall Tryz.prog 78 [.yl 0,bxS s] [.tr H 0] 1 (.tup []) [.tr H (fd H.go 0 (iq s).length).1]:=by
 have hxc:∀k,k<=aF s 16->∀i,i<(iZ (aF s 16) k).length->H.xs (sbL s k+i)=some (.int .u16 (U (pick s ((iZ (aF s 16) k).getD i 0)))):=by
  intro k hk i hi
  have hl:=IQ (s:=s) (k:=k+1) (m:=aF s 16+1) omgz
  rw[hx _ (by rw[xK];rw[zL] at hl;omega),Yn hk hi]
 have hz:=SG.zero (s:=s) hgo
 have hch:=λ(k:Nat) (h:SG s H.go k) (hk:k<=aF s 16)=>PLift.up (Nr hP hm hk rfl h.hgo (hxc k hk))
 clear hx hxc
 have zx1:=ae;have zx2:=ae;have zx3:=ae
 refine az Tryz.func78 Tryz.ntmps78 rfl ?_
 have zx4:= @acj;have zx5:=aA;have zx6:=aA;repeat' (first|(refine ah ?_;refine ak [0] ([0].length) (sbI s H) (λk=>aF s 16+1-k.val) (⟨0,hz⟩) rfl (by unfold sbI;exact dK) ?_;(rintro⟨k,hc0⟩;have hle:=hc0.hle;rcases Nat.lt_or_ge (aF s 16) k with hk|hk<;>first|(have zx2:=hc0.e omgz;(simp-dsimp only[sbI];refine zqS ?_))|(rcases Bool.eq_false_or_eq_true (fd H.go (sbL s k) (iZ (aF s 16) k).length).2 with zx1|zx1<;>first|(have zx3:=(hc0.t hk zx1).2;have hn:=(hc0.t hk zx1).1;(simp-dsimp only[sbI];refine zqS ?_))|(have zx2:=hc0.f hk zx1;(simp-dsimp only[sbI];refine zqS ?_)))))|(refine aj ?_;refine Nxt.mk [0] (⟨k+1,hn⟩) rfl (by unfold sbI;exact dK) zqO)|refine zqN ?_|((first|refine ay rfl (λK hK=>?_)|refine au (λK hK=>?_));(first|refine ai (f:=12) [] 0 false ?_|refine ai (f:=39) [0] 1 false ?_);refine vT ?_;(first|refine⟨_,_,CZ (s:=s),?_⟩|refine⟨_,_,(hch k hc0 ‹_›).down,?_⟩);refine nP ?_;apply hK;clear hK K)|refine kI ?_|refine kJ ?_|(refine kK ?_ ?_<;>intro hc<;>try exact zqM))
 all_goals exact fu [0] @zx2
theorem KE:ACall Tryz.prog 34 [.val (.int .u16 (U s))] [] 0 (.fn 78 [bxS s]) []:=by
 refine az Tryz.func34 Tryz.ntmps34 rfl ?_
 repeat' (first|refine zqN ?_|refine aY ?_|refine aZ ?_|(refine bf ?_ ?_<;>intro hc<;>try exact zqM))
 all_goals first
  |(((refine Ends.frz 0 ?_;simp-dsimp(disch:=try exact vD) only[push_cast,simprocAttr,Tryz.f34];(repeat refine aI ?_);intro K hK;refine hK _ _ ?_;clear hK K);refine Ends.mk2 zqI [] ?_;simp-dsimp(disch:=try exact vD) only[push_cast,simprocAttr,Tryz.f34];try exact zqF);done)
  |skip
end Go.Proofs.YtgmpdplpodemaaaGreatDoor
namespace Go.Proofs.YtgmpdplpodemaaaGreatDoor
open Go Go.Sy Go.Bp
attribute [local irreducible] AO AL AC OpT ACall Ends DGo aK Thn Blk Nxt
variable {z:Bool} {n i j m q s d L:Nat} {qs:List Nat}
instance:vw Nat:=⟨λx=> .val (.int .u16 (U x)),λ_=>rfl,λ_=>rfl⟩
theorem bC(x:Nat):vw.c x=AV.val (.int .u16 (U x)):=rfl
theorem dR(x:Nat):cX [x]=[AV.val (.int .u16 (U x))]:=rfl
theorem bR(x:Nat):cX qs++[AV.val (.int .u16 (U x))]=cX (qs++[x]):=by simp[cX,bC]
def ixI(z:Bool)(F:Nat)(c1:List AV)(p:Nat->Bool)(k:List Nat)(n:Nat)(j:{j:Nat // j<=n/\∀i,i<j->p (k.getD i default)=false}):St:=
 ⟨19,0,[(0,.isl z (cX k) n),(1,.fn F [.ipt c1 0]),(7,.val (.int .i64 n)),(8,.val (.int .i64 j.val))],[]⟩
theorem Yv{F:FuncId} [eU Tryz.prog F]{c1:List AV} {k:List Nat}(p:Nat->Bool)(hl:k.length=n)(hn:n<2^47)(hf:∀x,ACall Tryz.prog F [.val (.int .u16 (U x)),.ipt c1 0] [] 0 (.val (.bool (p x))) []):
 ACall Tryz.prog 80 [.isl z (cX k) n,.fn F [.ipt c1 0]] [] 0 (.val (.int .i64 (ix p k))) []:=by
 refine az Tryz.func80 Tryz.ntmps80 rfl ?_
 have zx1:= @bC;have zx2:=aA;have zx3:=aA;repeat' (first|(refine ah ?_;refine ak [] ([].length) (ixI z F c1 p k n) (λj=>n-j.val) (⟨0,omgz,λi hi=>absurd hi omgz⟩) rfl (by unfold ixI;exact ed) ?_;(rintro⟨j,hj,hnb⟩;(simp-dsimp only[ixI];refine zqS ?_)))|(refine aj ?_;refine Nxt.mk [] (⟨j+1,omgz,kW hnb (by assumption)⟩) rfl (by unfold ixI;exact ed) zqO)|refine zqN ?_|((first|refine ay rfl (λK hK=>?_)|refine au (λK hK=>?_));(first|refine gq (f:=F) [] 0 false ?_);refine zu ?_;(first|refine⟨_,_,hf (k.getD j default),?_⟩);refine rG ?_;apply hK;clear hK K)|refine dm ?_|refine dn ?_|(refine dw ?_ ?_<;>intro hc<;>try exact zqM))
 all_goals first
  |(have e:ix p k=j:=oD omgz hnb (by assumption);exact fu [] @e;done)
  |(have ej:j=n:=omgz;subst ej;subst hl;have e:ix p k= -1:=lG hnb;exact fu [] @e;done)
  |skip
theorem Fw{F:FuncId} [eU Tryz.prog F]{c1:List AV} {k:List Nat}(p:Nat->Bool)(hl:k.length=n)(hn:n<2^47)(hf:∀x,ACall Tryz.prog F [.val (.int .u16 (U x)),.ipt c1 0] [] 0 (.val (.bool (p x))) []):
 ACall Tryz.prog 40 [.isl z (cX k) n,.fn F [.ipt c1 0]] [] 0 (.val (.bool (k.any p))) []:=by
 refine az Tryz.func40 Tryz.ntmps40 rfl ?_
 have zx1:= @jh;have zx2:=aA;have zx3:=aA;repeat' (first|refine zqN ?_|refine eG (Yv p hl hn hf) ?_|refine dm ?_|refine dn ?_|(refine dw ?_ ?_<;>intro hc<;>try exact zqM))
 all_goals exact fu [] @jh
end Go.Proofs.YtgmpdplpodemaaaGreatDoor
set_option maxHeartbeats 4000000
namespace Go.Proofs.YtgmpdplpodemaaaGreatDoor
open Go Go.Sy Go.Bp Go.Dg
attribute [local irreducible] AO AL AC OpT ACall Ends DGo aK Thn Blk Nxt
variable {A F F1 F2 G:List Fo} {n N M k i m r a j w u v s q:Nat} {z:Bool} {b b1 b2:Bool} {p:Nat->Bool} {xs qs:List Nat} {H:jG}
theorem C8:ACall Tryz.prog 42 [.val (.int .u16 (U s)),.val (.int .u16 (U q))] [] 0 (.val (.bool (decide (jE q s%65536=0)))) []:=by
 refine az Tryz.func42 Tryz.ntmps42 rfl ?_
 repeat' (first|refine zqN ?_|refine aY ?_|refine aZ ?_|(refine bf ?_ ?_<;>intro hc<;>try exact zqM))
 all_goals exact aB []
theorem Yw:ACall Tryz.prog 41 [.val (.int .u16 (U q)),.ipt [.val (.int .u16 (U s))] 0] [] 0 (.val (.bool (decide (jE q s%65536=0)))) []:=by
 refine az Tryz.func41 Tryz.ntmps41 rfl ?_
 repeat' (first|refine zqN ?_|refine aM C8 ?_|refine aY ?_|refine aZ ?_|(refine bf ?_ ?_<;>intro hc<;>try exact zqM))
 all_goals exact aB []
theorem xL(hl:qs.length=n)(hn:n<2^47):ACall Tryz.prog 14 [.isl z (cX qs) n,.val (.int .u16 (U s))] [] 0 (.val (.bool (fH qs s))) []:=by
 have h:=PLift.up (Fw (z:=z) (k:=qs) (F:=41) (c1:=[.val (.int .u16 (U s))]) (λm=>decide (jE m s%65536=0)) hl hn (λm=>Yw))
 have e:(qs.any λm=>decide (jE m s%65536=0))=fH qs s:=by unfold fH;rfl
 rw[e] at h
 refine az Tryz.func14 Tryz.ntmps14 rfl ?_
 repeat' (first|((first|refine bT (r:=1) 0 ?_|refine bS (r:=1) 0 ?_);refine jo ?_;intro K hK;refine hK _ _ ?_;clear hK K)|refine zqN ?_|refine aM h.down ?_|refine aY ?_|refine aZ ?_|(refine bf ?_ ?_<;>intro hc<;>try exact zqM))
 all_goals exact aB []
def mBl(p:Nat->Bool)(xs:List Nat)(j:Nat):Nat:=(mB p xs j).length
theorem C9:mB p xs 0=[]:=rfl
theorem uJ:mBl p xs 0=0:=rfl
theorem mB_t(h1:fH (mB p xs j) (xs.getD j 0)=false)(h2:p (xs.getD j 0)=true):mB p xs (j+1)=mB p xs j++[xs.getD j 0]:=by
 show(if(!fH (mB p xs j) (xs.getD j 0)&&p (xs.getD j 0))=true then _ else _)=_
 rw[h1,h2];rfl
theorem afP(h:fH (mB p xs j) (xs.getD j 0)=true\/p (xs.getD j 0)=false):mB p xs (j+1)=mB p xs j:=by
 show(if(!fH (mB p xs j) (xs.getD j 0)&&p (xs.getD j 0))=true then _ else _)=_
 rcases h with h|h
 ·rw[h];rfl
 ·rw[h,Bool.and_false];rfl
theorem acl(h:mB p xs (j+1)=mB p xs j++[q]):mBl p xs (j+1)=mBl p xs j+1:=by unfold mBl;rw[h];simp
theorem KF(h:mB p xs (j+1)=mB p xs j):mBl p xs (j+1)=mBl p xs j:=by unfold mBl;rw[h]
theorem afQ:mBl p xs j<=j:=by
 induction j with
 |zero=>exact Nat.le_refl _
 |succ j ih=>
  cases h1:fH (mB p xs j) (xs.getD j 0) with
  |true=>rw[KF (afP (.inl h1))];omega
  |false=>
   cases h2:p (xs.getD j 0) with
   |false=>rw[KF (afP (.inr h2))];omega
   |true=>rw[acl (mB_t h1 h2)];omega
theorem kX(h:mBl p xs j=0):mB p xs j=[]:=List.length_eq_zero_iff.1 h
theorem eF:(mB p xs j).length=mBl p xs j:=rfl
theorem ig:(cX (mB p xs j)).take (mBl p xs j)=cX (mB p xs j):=List.take_of_length_le (by simp[cX,mBl])
theorem Yx:fd (λ_=>true) j n=(j+n,true):=by
 induction n generalizing j with
 |zero=>rfl
 |succ n ih=>rw[CY rfl,ih,show j+1+n=j+(n+1) by omega]
theorem di:fH [] q=false:=by unfold fH;rfl
attribute [local irreducible] aF mem iZ pick fd sbL iq mB mBl fH
end Go.Proofs.YtgmpdplpodemaaaGreatDoor
namespace Go.Proofs.YtgmpdplpodemaaaGreatDoor
open Go Go.Sy Go.Bp Go.Dg
attribute [local irreducible] AO AL AC OpT ACall Ends DGo aK Thn Blk Nxt
variable {n N M k i m r a b j w u v s q x y:Nat} {z:Bool} {xs:List Nat} {l:List Int} {p t:Int}
theorem Yy:ACall Tryz.prog 162 [.val (.int .i64 p)] [] 0 (.val (.bool false)) []:=by
 refine az Tryz.func162 Tryz.ntmps162 rfl ?_
 repeat' (first|refine zqN ?_|refine aY ?_|refine aZ ?_|(refine bf ?_ ?_<;>intro hc<;>try exact zqM))
 all_goals exact aB []
theorem Yz:ACall Tryz.prog 163 [.val (.int .u16 p)] [] 0 (.val (.bool false)) []:=by
 refine az Tryz.func163 Tryz.ntmps163 rfl ?_
 repeat' (first|refine zqN ?_|refine aY ?_|refine aZ ?_|(refine bf ?_ ?_<;>intro hc<;>try exact zqM))
 all_goals exact aB []
def lg(p t:Int):Int:=if p<t then-1 else if t<p then 1 else 0
theorem YA:ACall Tryz.prog 119 [.val (.int .i64 p),.val (.int .i64 t)] [] 0 (.val (.int .i64 (lg p t))) []:=by
 have zx1:=ae;have zx2:=ae
 rcases Decidable.em (p<t) with zx1|zx1<;>rcases Decidable.em (t<p) with zx2|zx2
 all_goals first
  |(have e:lg p t= -1:=(by unfold lg;rw[if_pos zx1]);rw[e])
  |(have e:lg p t=1:=(by unfold lg;rw[if_neg zx1,if_pos zx2]);rw[e])
  |(have e:lg p t=0:=(by unfold lg;rw[if_neg zx1,if_neg zx2]);rw[e])
 all_goals(refine az Tryz.func119 Tryz.ntmps119 rfl ?_)
 all_goals(have zx3:=aA;repeat' (first|refine zqN ?_|refine eG Yy ?_|refine dm ?_|refine dn ?_|(refine dw ?_ ?_<;>intro hc<;>try exact zqM)))
 all_goals exact CR [] @zx1 @zx2
theorem YB:ACall Tryz.prog 120 [.val (.int .u16 p),.val (.int .u16 t)] [] 0 (.val (.int .i64 (lg p t))) []:=by
 have zx1:=ae;have zx2:=ae
 rcases Decidable.em (p<t) with zx1|zx1<;>rcases Decidable.em (t<p) with zx2|zx2
 all_goals first
  |(have e:lg p t= -1:=(by unfold lg;rw[if_pos zx1]);rw[e])
  |(have e:lg p t=1:=(by unfold lg;rw[if_neg zx1,if_pos zx2]);rw[e])
  |(have e:lg p t=0:=(by unfold lg;rw[if_neg zx1,if_neg zx2]);rw[e])
 all_goals(refine az Tryz.func120 Tryz.ntmps120 rfl ?_)
 all_goals(have zx3:=aA;repeat' (first|refine zqN ?_|refine eG Yz ?_|refine dm ?_|refine dn ?_|(refine dw ?_ ?_<;>intro hc<;>try exact zqM)))
 all_goals exact CR [] @zx1 @zx2
def orL:List Int->Int
 |[]=>0
 |x::l=>if x=0 then orL l else x
theorem Ru(h:l.getD i default=0):orL (l.drop i)=orL (l.drop (i+1)):=by
 by_cases hi:i<l.length
 ·rw[List.drop_eq_getElem_cons hi]
  have e:l[i]=0:=by rw[<-h,List.getD_eq_getElem?_getD,List.getElem?_eq_getElem hi];rfl
  rw[orL,if_pos e]
 ·rw[List.drop_eq_nil_of_le omgz,List.drop_eq_nil_of_le omgz]
theorem YC(hi:i<l.length)(h:¬l.getD i default=0):orL (l.drop i)=l.getD i default:=by
 have e:l.getD i default=l[i]:=by rw[List.getD_eq_getElem?_getD,List.getElem?_eq_getElem hi];rfl
 rw[e] at h⊢
 rw[List.drop_eq_getElem_cons hi,orL,if_neg h]
def Rv(z:Bool)(l:List Int)(n:Nat)(v:Int)(i:{i:Nat // i<=n/\orL (l.drop i)=v}):St:=
 ⟨18,0,[(3,.val (.int .i64 0)),(6,.isl z (cI .i64 l) n),(7,.val (.int .i64 n)),(8,.val (.int .i64 i.val))],[]⟩
theorem ajg(hl:l.length=n)(hn:n<2^40):ACall Tryz.prog 118 [.isl z (cI .i64 l) n] [] 0 (.val (.int .i64 (orL l))) []:=by
 generalize hv:orL l=v
 have h0:0<=n/\orL (l.drop 0)=v:=⟨Nat.zero_le _,hv⟩
 have zx1:=ae
 refine az Tryz.func118 Tryz.ntmps118 rfl ?_
 have zx2:=aA;have zx3:=aA;repeat' (first|(refine ah ?_;refine ak [] ([].length) (Rv z l n v) (λi=>n-i.val) (⟨0,h0⟩) rfl (by unfold Rv;exact ed) ?_;(rintro⟨i,hi,hv1⟩;rcases Nat.lt_or_eq_of_le hi with hil|hil<;>first|(have ei:n=i:=hil.symm;subst ei;(simp-dsimp only[Rv];refine zqS ?_))|(rcases Decidable.em (l.getD i default=0) with zx1|zx1<;>(simp-dsimp only[Rv];refine zqS ?_))))|(refine aj ?_;refine Nxt.mk [] (⟨i+1,omgz,by rw[<-Ru zx1];exact hv1⟩) rfl (by unfold Rv;exact ed) zqO)|refine zqN ?_|refine dm ?_|refine dn ?_|(refine dw ?_ ?_<;>intro hc<;>try exact zqM))
 all_goals first
  |(have e:v=0:=(by rw[<-hv1,<-hl,List.drop_length];rfl);rw[e];exact aB [];done)
  |(have e:v=l.getD i default:=(by rw[<-hv1];exact YC omgz zx1);rw[e];exact aB [];done)
  |skip
def vU(s q:Nat):Int:=orL [lg (aF s 16) (aF q 16),lg (U s) (U q)]
theorem IU:ACall Tryz.prog 77 [.val (.int .u16 (U s)),.val (.int .u16 (U q))] [] 0 (.val (.int .i64 (vU s q))) []:=by
 have ho:=PLift.up (ajg (z:=false) (l:=[lg (aF s 16) (aF q 16),lg (U s) (U q)]) (n:=2) rfl (by decide))
 unfold vU
 generalize orL [lg (aF s 16) (aF q 16),lg (U s) (U q)]=v at ho⊢
 refine az Tryz.func77 Tryz.ntmps77 rfl ?_
 repeat' (first|refine zqN ?_|((first|refine ay rfl (λK hK=>?_)|refine au (λK hK=>?_));(first|refine ai (f:=12) (dst:=some 6) [] 0 false ?_|refine ai (f:=12) (dst:=some 8) [] 0 false ?_|refine ai (f:=119) [] 0 false ?_|refine ai (f:=120) [] 0 false ?_|refine ai (f:=118) [] 0 true ?_);refine mg ?_;(first|refine⟨_,_,CZ (s:=s),?_⟩|refine⟨_,_,CZ (s:=q),?_⟩|refine⟨_,_,YA,?_⟩|refine⟨_,_,YB,?_⟩|refine⟨_,_,ho.down,?_⟩);refine jo ?_;apply hK;clear hK K)|refine aY ?_|refine aZ ?_|(refine bf ?_ ?_<;>intro hc<;>try exact zqM))
 all_goals exact aB []
def bef(s q:Nat):Bool:=if aF s 16=aF q 16 then decide (s%65536<q%65536) else decide (aF s 16<aF q 16)
theorem Fx:lg p t<0↔p<t:=by unfold lg;split<;>(try split)<;>omega
theorem BL:lg p t=0↔p=t:=by unfold lg;split<;>(try split)<;>omega
theorem KG:(0<=vU s q)=(bef s q=false):=by
 unfold vU orL orL orL bef
 apply propext
 have h1:=Fx (p:=(aF s 16:Int)) (t:=aF q 16)
 have h2:=BL (p:=(aF s 16:Int)) (t:=aF q 16)
 have h3:=Fx (p:=U s) (t:=U q)
 unfold U at*
 by_cases e:aF s 16=aF q 16
 ·rw[if_pos e,if_pos (h2.2 omgz)]
  by_cases e2:lg ((s%65536:Nat):Int) ((q%65536:Nat):Int)=0
  ·rw[if_pos e2];have:=BL.1 e2;simp;omega
  ·rw[if_neg e2,decide_eq_false_iff_not];omega
 ·rw[if_neg e,if_neg (λh=>e (by have:=h2.1 h;omega)),decide_eq_false_iff_not];omega
theorem nk(h:i<16):bit s i=s.testBit i:=by unfold bit;rw[qW h]
end Go.Proofs.YtgmpdplpodemaaaGreatDoor
namespace Go.Proofs.YtgmpdplpodemaaaGreatDoor
open Go Go.Sy Go.Bp Go.Dg
attribute [local irreducible] AO AL AC OpT ACall Ends DGo aK Thn Blk Nxt
variable {n N M k i m r a b j w u v s q x y:Nat} {z:Bool} {xs:List Nat} {e1:Int}
theorem YD(x:Int):x+1-1=x:=by omega
theorem Rx:∀i,i<16->bit 61440 i=decide (12<=i):=by decide
theorem afR(x:Nat):(fG x (uN 61440)%65536=0)=(x%65536<4096):=by
 apply propext
 rw[show uN 61440=61440 from rfl]
 constructor
 ·intro h
  refine Yi (n:=12) λi hi=>?_
  by_cases hc:12<=i
  ·have hi6:=Rl hi
   have h0:bit (fG x 61440) i=bit 0 i:=xH.1 (by rw[h]) i hi6
   rw[Fq,hi,Rx i hi6,decide_eq_true hc,Fu] at h0
   cases h0
  ·omega
 ·intro h
  have:fG x 61440%65536=0%65536:=xH.2 λi hi=>by
   rw[Fq,Rx i hi,Fu]
   by_cases hc:12<=i
   ·have hp:2^12<=2^i:=Nat.pow_le_pow_right omgz hc
    have:bit x i=false:=by unfold bit;exact Nat.testBit_lt_two_pow omgz
    rw[this];rfl
   ·rw[decide_eq_false hc,Bool.and_false]
  exact this
def fe(xs:List Nat):Nat->Nat->Int
 |0,_=>0
 |m+1,i=>if¬xs.getD i default%65536<4096 then 7 else if 0<i/\bef (xs.getD (i-1) default) (xs.getD i default)=false then 1 else fe xs m (i+1)
theorem fe_r(h:¬xs.getD i default%65536<4096):fe xs (m+1) i=7:=by unfold fe;rw[if_pos h]
theorem fe_b(h:xs.getD i default%65536<4096)(hi:0<i)(hb:bef (xs.getD (i-1) default) (xs.getD i default)=false):fe xs (m+1) i=1:=by
 unfold fe;rw[if_neg (λh2=>h2 h),if_pos ⟨hi,hb⟩]
theorem afS(h:xs.getD i default%65536<4096)(hb:0<i->bef (xs.getD (i-1) default) (xs.getD i default)=true):fe xs (m+1) i=fe xs m (i+1):=by
 conv=>lhs;unfold fe
 rw[if_neg (λh2=>h2 h),if_neg (λh2=>by rw[hb h2.1] at h2;cases h2.2)]
def Ns(xs:List Nat):Bool:=(List.range xs.length).any λi=>fH (xs.take i) (xs.getD i default)
def oG(xs:List Nat):Int:=if fe xs xs.length 0=0 then(if Ns xs=true then 1 else 0) else fe xs xs.length 0
def fvA(z:Bool)(xs:List Nat)(n:Nat)(e1:Int)(i:{i:Nat // i<=n/\fe xs (n-i) i=e1}):St:=
 ⟨48,0,[(0,.isl z (cX xs) n),(10,.isl z (cX xs) n),(11,.val (.int .i64 n)),(12,.val (.int .i64 i.val))],[]⟩
def fvB(z:Bool)(xs:List Nat)(n:Nat)(i:{i:Nat // i<=n/\∀j,j<i->fH (xs.take j) (xs.getD j default)=false}):St:=
 ⟨48,0,[(0,.isl z (cX xs) n),(35,.isl z (cX xs) n),(36,.val (.int .i64 n)),(37,.val (.int .i64 i.val))],[]⟩
theorem Ry(hl:xs.length=n)(h:∀j,j<n->fH (xs.take j) (xs.getD j default)=false):Ns xs=false:=by
 unfold Ns
 rw[List.any_eq_false]
 intro j hj
 rw[h j (by have:=List.mem_range.1 hj;omega)];simp
theorem afT(hl:xs.length=n)(hj:j<n)(h:fH (xs.take j) (xs.getD j default)=true):Ns xs=true:=by
 unfold Ns
 rw[List.any_eq_true]
 exact⟨j,List.mem_range.2 omgz,h⟩
theorem Rz(hl:xs.length=n)(h:fe xs n 0=e1)(h0:e1≠0):oG xs=e1:=by unfold oG;rw[hl,h,if_neg h0]
theorem IW(hl:xs.length=n)(h:fe xs n 0=0):oG xs=if Ns xs=true then 1 else 0:=by unfold oG;rw[hl,if_pos h]
theorem YE(hi:i<n):∃m,n-i=m+1/\n-(i+1)=m:=⟨n-i-1,omgz,omgz⟩
theorem lW(hl:xs.length=n)(hn:n<=400):ACall Tryz.prog 33 [.isl z (cX xs) n] [] 0 (.val (.int .i64 (oG xs))) []:=by
 obtain⟨e1,he1⟩:∃e1,fe xs n 0=e1:=⟨_,rfl⟩
 have h0:0<=n/\fe xs (n-0) 0=e1:=⟨Nat.zero_le _,he1⟩
 have hz:0<=n/\∀j,j<0->fH (xs.take j) (xs.getD j default)=false:=⟨Nat.zero_le _,λj hj=>absurd hj omgz⟩
 have zx2:=ae;have zx3:=ae;have zx4:=ae;have zx5:=ae;have zx6:=ae
 refine az Tryz.func33 Tryz.ntmps33 rfl ?_
 have zx1:= @afR;have zx7:= @bC;have zx8:= @YD;have zx9:=aA;repeat' (first|(refine ah ?_;refine ak [] ([].length) (fvA z xs n e1) (λi=>n-i.val) (⟨0,h0⟩) rfl (by unfold fvA;exact aO) ?_;(rintro⟨i,hi,he⟩;rcases Nat.lt_or_eq_of_le hi with hil|hil<;>first|(have ei:n=i:=hil.symm;subst ei;(simp-dsimp only[fvA];refine zqS ?_))|(obtain⟨m,hm1,hm2⟩:=YE hil;rw[hm1] at he;rcases Nat.lt_or_ge (xs.getD i default%65536) 4096 with zx2|zx2<;>first|(rw[fe_r omgz] at he;(simp-dsimp only[fvA];refine zqS ?_))|(rcases Nat.eq_zero_or_pos i with hi0|hi0<;>first|(subst hi0;rw[afS zx2 (λh=>absurd h omgz)] at he;(simp-dsimp only[fvA];refine zqS ?_))|(obtain⟨p,rfl⟩:∃p,i=p+1:=⟨i-1,omgz⟩;rcases Bool.eq_false_or_eq_true (bef (xs.getD p default) (xs.getD (p+1) default)) with zx4|zx4<;>first|(rw[afS zx2 (λ_=>zx4)] at he;have zx3:(0<=vU (xs.getD p default) (xs.getD (p+1) default))=False:=(by rw[KG,zx4];simp);(simp-dsimp only[fvA];refine zqS ?_))|(rw[fe_b zx2 omgz zx4] at he;have zx3:(0<=vU (xs.getD p default) (xs.getD (p+1) default))=True:=(by rw[KG,zx4];simp);(simp-dsimp only[fvA];refine zqS ?_)))))))|(refine aj ?_;refine Nxt.mk [] (⟨0+1,omgz,by rw[hm2];exact he⟩) rfl (by unfold fvA;exact aO) zqO)|(refine aj ?_;refine Nxt.mk [] (⟨p+1+1,omgz,by rw[hm2];exact he⟩) rfl (by unfold fvA;exact aO) zqO)|(refine ah ?_;refine ak [] ([].length) (fvB z xs n) (λi=>n-i.val) (⟨0,hz⟩) rfl (by unfold fvB;exact aO) ?_;(rintro⟨i,hi,hf⟩;rcases Nat.lt_or_eq_of_le hi with hil|hil<;>first|(have ei:n=i:=hil.symm;subst ei;(simp-dsimp only[fvB];refine zqS ?_))|(rcases Bool.eq_false_or_eq_true (fH (List.take i xs) (xs.getD i default)) with zx4|zx4<;>(simp-dsimp only[fvB];refine zqS ?_))))|(refine aj ?_;refine Nxt.mk [] (⟨i+1,omgz,λj hj=>by rcases Nat.lt_or_eq_of_le (Nat.le_of_lt_succ hj) with h|h;exact hf j h;rw[h];exact zx4⟩) rfl (by unfold fvB;exact aO) zqO)|refine zqN ?_|((first|refine ay rfl (λK hK=>?_)|refine au (λK hK=>?_));(first|refine ai (f:=77) [] 0 false ?_|refine ai (f:=14) [] 0 false ?_);refine Qw ?_;(first|refine⟨_,_,IU,?_⟩|refine⟨_,_,xL (qs:=List.take i xs) (by rw[List.length_take];omega) omgz,?_⟩);refine sJ ?_;apply hK;clear hK K)|refine mh ?_|refine kg ?_|refine ko ?_|refine kr ?_|refine mo ?_|(refine mq ?_ ?_<;>intro hc<;>try exact zqM))
 all_goals first
  |(have e:oG xs=7:=(by rw[Rz hl (he1.trans he.symm) (by decide)]);rw[e];exact aB [];done)
  |(have e:oG xs=1:=(by rw[Rz hl (he1.trans he.symm) (by decide)]);rw[e];exact aB [];done)
  |(have e:oG xs=1:=(by rw[Nat.sub_self] at he;rw[IW hl (he1.trans he.symm),afT hl hil zx4];rfl);rw[e];exact aB [];done)
  |(have e:oG xs=0:=(by rw[Nat.sub_self] at he;rw[IW hl (he1.trans he.symm),Ry hl hf];rfl);rw[e];exact aB [];done)
  |skip
end Go.Proofs.YtgmpdplpodemaaaGreatDoor
namespace Go.Proofs.YtgmpdplpodemaaaGreatDoor
open Go Go.Sy Go.Bp Go.Dg
attribute [local irreducible] AO AL AC OpT ACall Ends DGo aK Thn Blk Nxt
variable {n N M k i m r a b j w u v s q x y:Nat} {z:Bool} {xs:List Nat} {e1:Int}
theorem YF(h:jE x y%65536=0):x%65536<=y%65536:=by
 refine afI (x:=x%65536) (y:=y%65536) (xI.2 λi hi=>?_) (Nat.mod_lt _ (by decide)) (Nat.mod_lt _ (by decide))
 rw[Yg] at hi⊢
 exact xI.1 h i hi
theorem Nt(h:∀k,k<n->¬j=k->¬jE (xs.getD k default) (xs.getD j default)%65536=0)(hl:xs.length=n)(hj:j<n):fH (xs.take j) (xs.getD j default)=false:=by
 unfold fH
 rw[List.any_eq_false]
 intro m hm
 obtain⟨k,hk,rfl⟩:=List.getElem_of_mem hm
 have hk2:k<j:=by rw[List.length_take] at hk;omega
 have e:(xs.take j)[k]=xs.getD k default:=by
  rw[List.getElem_take,List.getD_eq_getElem?_getD,List.getElem?_eq_getElem omgz];rfl
 rw[e]
 simpa using h k omgz omgz
def gW(xs:List Nat):Nat->Nat
 |0=>0
 |j+1=>sor (gW xs j) (xs.getD j default)
theorem zO:gW xs (j+1)=sor (gW xs j) (xs.getD j default):=rfl
theorem RA:gW xs 0=0:=rfl
def spI(z:Bool)(xs:List Nat)(n:Nat)(i:{i:Nat // i<=n}):St:=
 ⟨17,0,[(3,.val (.int .u16 (U (gW xs i.val)))),(6,.isl z (cX xs) n),(7,.val (.int .i64 n)),(8,.val (.int .i64 i.val))],[]⟩
theorem mE(hl:xs.length=n)(hn:n<2^40):ACall Tryz.prog 35 [.isl z (cX xs) n] [] 0 (.val (.int .u16 (U (gW xs n)))) []:=by
 refine az Tryz.func35 Tryz.ntmps35 rfl ?_
 have zx1:= @bC;have zx2:= @zO;have zx3:= @RA;repeat' (first|(refine ah ?_;refine ak [] ([].length) (spI z xs n) (λi=>n-i.val) (⟨0,omgz⟩) rfl (by unfold spI;exact ed) ?_;(rintro⟨i,hi⟩;rcases Nat.lt_or_eq_of_le hi with hil|hil<;>first|(have ei:n=i:=hil.symm;subst ei;(simp-dsimp only[spI];refine zqS ?_))|(simp-dsimp only[spI];refine zqS ?_)))|(refine aj ?_;refine Nxt.mk [] (⟨i+1,omgz⟩) rfl (by unfold spI;exact ed) zqO)|refine zqN ?_|refine dm ?_|refine dn ?_|(refine dw ?_ ?_<;>intro hc<;>try exact zqM))
 all_goals exact aB []
theorem Fy:∀j,bit (gW xs j) i=true↔∃k,k<j/\bit (xs.getD k default) i=true:=by
 intro j
 induction j with
 |zero=>rw[RA,Fu];exact⟨λh=>(by cases h),λ⟨k,h,_⟩=>absurd h omgz⟩
 |succ j ih=>
  rw[zO,Yh,Bool.or_eq_true,ih]
  constructor
  ·rintro(⟨k,h1,h2⟩|h)
   ·exact⟨k,omgz,h2⟩
   ·exact⟨j,omgz,h⟩
  ·rintro⟨k,h1,h2⟩
   by_cases e:k=j
   ·subst e;exact .inr h2
   ·exact .inl ⟨k,omgz,h2⟩
end Go.Proofs.YtgmpdplpodemaaaGreatDoor
set_option maxHeartbeats 1000000
namespace Go.Proofs.YtgmpdplpodemaaaGreatDoor
open Go Go.Sy Go.Bp
def kY(x:Ex):Prop:=x.nodes.length<2^42/\∀j,j<x.nodes.length->(x.nodes.getD j default).w.length<2^47/\(x.nodes.getD j default).k.length<2^47
end Go.Proofs.YtgmpdplpodemaaaGreatDoor
set_option maxHeartbeats 4000000
namespace Go.Proofs.YtgmpdplpodemaaaGreatDoor
open Go Go.Sy Go.Bp Go.Dg
variable {n N M T L k i m r a b j w u v s q x y d:Nat} {F D:List Fo} {p f g:Nat->Bool} {ms xs:List Nat}
structure ac0(n:Nat)(p:Nat->Bool)(ms:List Nat):Prop where
 bef:ms.Pairwise λa b=>bef a b=true
 ord:ms.Pairwise λa b=>¬jE b a%65536=0
 lt:∀m∈ms,m<2^n
 mem:∀m,m<2^n->(m∈ms↔isM p m=true)
theorem YG:∀(m i:Nat),(∀j,i<=j->j<i+m->xs.getD j default%65536<4096/\(0<j->bef (xs.getD (j-1) default) (xs.getD j default)=true))->fe xs m i=0:=by
 intro m
 induction m with
 |zero=>intro i _;rfl
 |succ m ih=>
  intro i h
  have h0:=h i (Nat.le_refl _) omgz
  rw[afS h0.1 h0.2]
  exact ih (i+1) λj h1 h2=>h j omgz omgz
theorem gD{l:List Nat} {i:Nat}(h:i<l.length):l.getD i default=l[i]:=by rw[List.getD_eq_getElem?_getD,List.getElem?_eq_getElem h];rfl
theorem RB(hn:n<=6)(h:ac0 n p ms):oG ms=0:=by
 have hp:2^n<=2^6:=Nat.pow_le_pow_right omgz hn
 have h1:fe ms ms.length 0=0:=YG _ _ λj _ hj=>by
  have hj:j<ms.length:=by omega
  have hm:=h.lt _ (List.getElem_mem hj)
  refine⟨by rw[gD hj];omega,λh0=>?_⟩
  rw[gD hj,gD (show j-1<ms.length by omega)]
  exact List.pairwise_iff_getElem.1 h.bef (j-1) j omgz hj omgz
 rw[IW rfl h1,Ry rfl]
 ·rfl
 ·intro i hi
  refine Nt (n:=ms.length) (λk hk hik hs=>?_) rfl hi
  rw[gD hk,gD hi] at hs
  have mk:=h.lt _ (List.getElem_mem hk)
  have mi:=h.lt _ (List.getElem_mem hi)
  have hki:isM p ms[k]=true:=(h.mem _ mk).1 (List.getElem_mem hk)
  have hii:isM p ms[i]=true:=(h.mem _ mi).1 (List.getElem_mem hi)
  have hle:=YF hs
  rw[Nat.mod_eq_of_lt omgz,Nat.mod_eq_of_lt omgz] at hle
  have hne:¬ms[k]=ms[i]:=λe=>by
   rcases Nat.lt_trichotomy i k with h1|h1|h1
   ·have:=List.pairwise_iff_getElem.1 h.ord i k hi hk h1
    rw[e] at this;exact this zM
   ·exact hik h1
   ·have:=List.pairwise_iff_getElem.1 h.ord k i hk hi h1
    rw[e] at this;exact this zM
  exact(KA.1 hii).2 _ omgz (KA.1 hki).1 hs
theorem RD{l:List Nat} {t:Nat}:fH l t=true↔∃m∈l,jE m t%65536=0:=by
 unfold fH
 rw[List.any_eq_true]
 exact⟨λ⟨m,h1,h2⟩=>⟨m,h1,of_decide_eq_true h2⟩,λ⟨m,h1,h2⟩=>⟨m,h1,decide_eq_true h2⟩⟩
end Go.Proofs.YtgmpdplpodemaaaGreatDoor
set_option maxHeartbeats 1000000
namespace Go.Proofs.YtgmpdplpodemaaaGreatDoor
open Go Go.Sy Go.Bp
attribute [local irreducible] AO AL AC OpT ACall Ends DGo aK Thn Blk Nxt
variable {l:List Int} {z:Bool} {n:Nat}
theorem YS:ACall Tryz.prog 125 [.isl true [] 0] [] 0 (.isl true [] 0) []:=by
 refine az Tryz.func125 Tryz.ntmps125 rfl ?_
 repeat' (first|refine zqN ?_|refine aY ?_|refine mf ?_|refine mW ?_|refine mY ?_|refine aZ ?_|(refine bf ?_ ?_<;>intro hc<;>try exact zqM))
 all_goals exact aB []
theorem R8(hn:l.length=n)(hb:n<=100000):ACall Tryz.prog 125 [.isl false (cI .i64 l) n] [] 0 (.isl false (cI .i64 l) n) []:=by
 refine az Tryz.func125 Tryz.ntmps125 rfl ?_
 repeat' (first|refine zqN ?_|refine aY ?_|refine mf ?_|refine mW ?_|refine mY ?_|refine aZ ?_|(refine bf ?_ ?_<;>intro hc<;>try exact zqM))
 all_goals((refine Ends.frz 1 ?_;simp-dsimp(disch:=try exact vD) only[push_cast,simprocAttr,Tryz.f125];(repeat refine aI ?_);intro K hK;refine hK _ _ ?_;clear hK K);refine Ends.mk2 zqI [] ?_;simp-dsimp(disch:=try exact vD) only[push_cast,simprocAttr,Tryz.f125];try exact zqF)
theorem KM(hn:l.length=n)(hb:n<=100000)(hz:z=true->l=[]):ACall Tryz.prog 125 [.isl z (cI .i64 l) n] [] 0 (.isl z (cI .i64 l) n) []:=by
 cases z with
 |false=>exact R8 hn hb
 |true=>
  have e:=hz rfl
  subst e;subst hn;exact YS
end Go.Proofs.YtgmpdplpodemaaaGreatDoor
namespace Go.Bp
open Go.Sy
variable {n i j k:Nat} {D D':Nat->Nat->Bool} {qs:List Nat}
def jxG(p:Nat->Bool):Nat->Nat->Option Nat
 |_,0=>none
 |j,n+1=>if p j=true then some j else jxG p (j+1) n
def jx(p:Nat->Bool)(n:Nat):Option Nat:=jxG p 0 n
theorem U5{p:Nat->Bool}(h:jxG p k n=some j):k<=j/\j<k+n/\p j=true/\∀i,k<=i->i<j->p i=false:=by
 induction n generalizing k with
 |zero=>cases h
 |succ n ih=>
  unfold jxG at h
  split at h
  ·cases h;exact⟨Nat.le_refl _,omgz,‹_›,λi h1 h2=>by omega⟩
  ·rename_i hn
   obtain⟨h1,h2,h3,h4⟩:=ih h
   refine⟨omgz,omgz,h3,λi hi hi2=>?_⟩
   by_cases e:i=k
   ·subst e;simpa using hn
   ·exact h4 i omgz hi2
theorem abW{p:Nat->Bool}(h:jx p n=some j):j<n/\p j=true/\∀i,i<j->p i=false:=by
 have:=U5 h;exact⟨omgz,this.2.2.1,λi hi=>this.2.2.2 i (Nat.zero_le _) hi⟩
theorem akd{p:Nat->Bool}(h:jx p n=none):∀i,i<n->p i=false:=λi hi=>by
 cases e:p i with
 |false=>rfl
 |true=>
  exfalso
  have key:∀(m k:Nat),jxG p k m=none->∀i,k<=i->i<k+m->p i=false:=by
   intro m
   induction m with
   |zero=>intro k _ i h1 h2;omega
   |succ m ih=>
    intro k hk i h1 h2
    unfold jxG at hk
    split at hk
    ·cases hk
    ·rename_i hn
     by_cases e:i=k
     ·subst e;simpa using hn
     ·exact ih (k+1) hk i omgz omgz
  rw[key n 0 h i omgz omgz] at e;cases e
end Go.Bp
namespace Go.Bp
open Go.Sy
variable {n i j:Nat} {F:Nat->Bool}
def goF(F:Nat->Bool):Nat->Bool
 |0=>true
 |j+1=>goF F j&& !F j
theorem Mh(h:∀i,i<j->F i=false):goF F j=true:=by
 induction j with
 |zero=>rfl
 |succ j ih=>show(goF F j&& !F j)=true;rw[ih (λi hi=>h i omgz),h j omgz];rfl
theorem JW(h:goF F j=true):∀i,i<j->F i=false:=by
 induction j with
 |zero=>intro i hi;omega
 |succ j ih=>
  intro i hi
  have h:(goF F j&& !F j)=true:=h
  rw[Bool.and_eq_true] at h
  by_cases e:i=j
  ·subst e;simpa using h.2
  ·exact ih h.1 i omgz
theorem fdF{k:Nat}(hg:goF F k=true):fd (goF F) k n=match jxG F k n with|some j=>(j+1,false)|none=>(k+n,true):=by
 induction n generalizing k with
 |zero=>rfl
 |succ n ih=>
  unfold jxG
  cases hF:F k with
  |true=>
   rw[Nq (by show(goF F k&& !F k)=false;rw[hg,hF];rfl)];simp
  |false=>
   have hg2:goF F (k+1)=true:=by show(goF F k&& !F k)=true;rw[hg,hF];rfl
   rw[CY hg2,ih hg2]
   simp only[Bool.false_eq_true,if_false]
   cases jxG F (k+1) n with
   |none=>simp;omega
   |some j=>rfl
