/- FormsArgs. No condition. -/
import Derived.Test.YtgmpdplpodemaaaGreatDoorFDoor
import Derived.Test.YtgmpdplpodemaaaGreatDoorTmG9
set_option linter.all false
namespace Go.Proofs.YtgmpdplpodemaaaGreatDoor
open Go Go.Sy Go.Bp Go.Dg
theorem KM{m:Nat} {av:List AV}(h:gB Tryz.prog m 22 av):∃(z:Bool) (l:List Nat),av=[.isl z (cX l) l.length]∧(∀x∈l,x<65536)∧l.length<2^47:=by
 obtain⟨z,l,e,ho,hl,hz⟩:=FC (g:=fun(x:Nat)=>[AV.val (.int .u16 (U x))]) (Q:=fun x=>x<65536) (bn:=2) Tryz.underlying22 h (by kernel_rfl) (by decide) (fun n x hx=>by
  obtain⟨k,rfl,hk⟩:=CU Tryz.underlying29 hx
  have hk:=ZQ hk
  obtain⟨n0,rfl⟩:=Int.eq_ofNat_of_zero_le hk.1
  exact⟨n0,by rw[FD (by omega)],by omega⟩)
 rw[show l.flatMap (fun(x:Nat)=>[AV.val (.int .u16 (U x))])=cX l from CW _ l] at e
 exact⟨z,l,e,ho,hl⟩
theorem Di{m:Nat} {av:List AV}(h:gB Tryz.prog m 24 av):∃(N:Nat) (z:Bool) (B:List Nat),av=d8 N z B B.length∧WF N B B.length:=by
 obtain⟨_,xs,rfl,hl,hx⟩:=CV Tryz.underlying24 h
 match xs,hl with
 |[a0,a1],_=>
  obtain⟨b0,rfl,h0⟩:=CU Tryz.underlying5 (hx 0 _ a0 rfl rfl)
  obtain⟨z,l,rfl,ho,hl⟩:=KM (hx 1 _ a1 rfl rfl)
  have h0:=Ud h0
  obtain⟨n0,rfl⟩:=Int.eq_ofNat_of_zero_le h0.1
  exact⟨n0,z,l,rfl,⟨by omega,rfl,hl⟩⟩
