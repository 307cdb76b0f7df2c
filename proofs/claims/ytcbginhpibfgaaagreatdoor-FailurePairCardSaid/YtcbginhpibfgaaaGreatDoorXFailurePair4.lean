/- Failure, part. No condition. -/
import Derived.Test.YtcbginhpibfgaaaGreatDoorXFailurePair3
import Derived.Test.YtcbginhpibfgaaaGreatDoorFacAll
import Derived.Test.YtcbginhpibfgaaaGreatDoorLawD1
import Derived.Test.YtcbginhpibfgaaaGreatDoorCards
import Derived.SevenTiedAt
set_option linter.all false
set_option maxHeartbeats 4000000
set_option maxRecDepth 20000
namespace Go.Proofs.YtcbginhpibfgaaaGreatDoor
section
open Go Go.Sy Go.Dg
attribute [local irreducible] AO AL AC OpT ACall Ends DGo bK Thn Blk Nxt
variable {A B F F1 F2 G:List Fo} {K K1 K2 K3:List ((Nat×Nat)×Nat)} {n na nb N M k k1 k2 k' i m r a b j w u v x1 by1 ul uh vl vh su sv op t:Nat} {q q':Int} {z z':Bool} {ba bb:Bool}
def opB(op:Nat)(a b:Bool):Bool:=if op=1 then a&&b else if op=2 then a||b else if op=3 then a !=b else a&& !b
theorem IZ(h1:1≤op)(h4:op≤4):ACall Tryz.prog 114 [.val (.int .i64 op),.val (.bool ba),.val (.bool bb)] [] 0 (.val (.bool (opB op ba bb))) []:=by
 have ho:op=1∨op=2∨op=3∨op=4:=by omega
 rcases ho with rfl|rfl|rfl|rfl<;>cases ba<;>cases bb
 all_goals(refine ak Tryz.func114 Tryz.ntmps114 rfl ?_)
 all_goals repeat' (first|refine zqN ?_|refine aK ?_|refine aL ?_|(refine aM ?_ ?_<;>intro hc<;>try exact zqM))
 all_goals((refine Ends.mk2 zqI [] ?_;simp-dsimp(disch:=try exact vD) only[push_cast,simprocAttr,Tryz.f114,opB];try exact zqF))
abbrev apA(op n:Nat)(da db:List AV):List AV:=[.ipt [.val (.int .i64 op)] 0,.pt 2 0,.ipt [.val (.int .i64 n)] 0,.ipt da 0,.ipt db 0,.pt 0 0,.pt 1 0]
abbrev ap0(op n:Nat)(da db:List AV)(K:List ((Nat×Nat)×Nat)):List aD:=[.cells [.fn 112 (apA op n da db)] 140,.cells [.pt 3 0] 137,.cells [.mp 5] 139,.cells [.isl true [] 0,.mp 4] 168,.map true 3 [],.map true 2 (knM kP K)]
abbrev apS(op n:Nat)(da db:List AV)(F:List Fo)(k:Nat)(K:List ((Nat×Nat)×Nat)):List aD:=[.cells [.fn 112 (apA op n da db)] 140,.cells [.pt 3 0] 137,.cells [.mp 5] 139,.cells [.sl 6 0 k 3,.mp 4] 168,.map true 3 (atM F),.map true 2 (knM kP K),.cells (cR F) 114]
theorem Zq(h1:1≤op)(h4:op≤4)(hu:u<2)(hv:v<2):ACall Tryz.prog 112 (.val (.int .i64 u):: .val (.int .i64 v)::apA op n (dC z na A N q) (dC z' nb B M q')) (ap0 op n (dC z na A N q) (dC z' nb B M q') K) 6 (.val (.int .i64 (if opB op (decide ((u:Int)=1)) (decide ((v:Int)=1))=true then 1 else 0))) (ap0 op n (dC z na A N q) (dC z' nb B M q') K):=by
 have hd:=PLift.up (IZ (ba:=decide ((u:Int)=1)) (bb:=decide ((v:Int)=1)) h1 h4)
 unfold apA dC ap0
 refine ak Tryz.func112 Tryz.ntmps112 rfl ?_
 repeat' (first|refine zqN ?_|refine az hd.down ?_|refine az P8 ?_|refine aK ?_|refine aL ?_|(refine aM ?_ ?_<;>intro hc<;>try exact zqM)|refine zqR 14 [⟨0,[],[78,79,80,81,82,83],[2],[],0⟩,⟨1,[],[77,79,80,81,82,83],[2],[],0⟩,⟨2,[],[77,78,80,81,82,83],[2],[],0⟩,⟨3,[],[77,78,79,81,82],[],[],0⟩,⟨4,[],[77,78,79,80,82],[],[],0⟩,⟨5,[],[77,78,79,80,81],[],[],0⟩,⟨6,[3,4,5],[77,78,79],[],[2],0⟩,⟨7,[0,1,2,3,4,5,6],[],[],[],0⟩,⟨8,[0,1,2,3,4,5,6,7],[],[],[],0⟩] ?_|refine zqD ?_|fail)
 all_goals((refine Ends.mk2 zqI [0,1,2,3,4,5] ?_;simp-dsimp(disch:=try exact vD) only[push_cast,simprocAttr,Tryz.f112];try exact zqF))
theorem T9(h1:1≤op)(h4:op≤4)(hu:u<2)(hv:v<2):ACall Tryz.prog 112 (.val (.int .i64 u):: .val (.int .i64 v)::apA op n (dC z na A N q) (dC z' nb B M q')) (apS op n (dC z na A N q) (dC z' nb B M q') F k K) 6 (.val (.int .i64 (if opB op (decide ((u:Int)=1)) (decide ((v:Int)=1))=true then 1 else 0))) (apS op n (dC z na A N q) (dC z' nb B M q') F k K):=by
 have hd:=PLift.up (IZ (ba:=decide ((u:Int)=1)) (bb:=decide ((v:Int)=1)) h1 h4)
 unfold apA dC apS
 refine ak Tryz.func112 Tryz.ntmps112 rfl ?_
 repeat' (first|refine zqN ?_|refine az hd.down ?_|refine az P8 ?_|refine aK ?_|refine aL ?_|(refine aM ?_ ?_<;>intro hc<;>try exact zqM)|refine zqR 14 [⟨0,[],[78,79,80,81,82,83],[2],[],0⟩,⟨1,[],[77,79,80,81,82,83],[2],[],0⟩,⟨2,[],[77,78,80,81,82,83],[2],[],0⟩,⟨3,[],[77,78,79,81,82],[],[],0⟩,⟨4,[],[77,78,79,80,82],[],[],0⟩,⟨5,[],[77,78,79,80,81],[],[],0⟩,⟨6,[3,4,5],[77,78,79],[],[2],0⟩,⟨7,[0,1,2,3,4,5,6],[],[],[],0⟩,⟨8,[0,1,2,3,4,5,6,7],[],[],[],0⟩] ?_|refine zqD ?_|fail)
 all_goals((refine Ends.mk2 zqI [0,1,2,3,4,5,6] ?_;simp-dsimp(disch:=try exact vD) only[push_cast,simprocAttr,Tryz.f112];try exact zqF))
theorem Ua(hn:¬(u<2∧v<2))(ha:cK (knM kP K) [(u:Int),(v:Int)]=some (.val (.int .i64 (w:Int)))):ACall Tryz.prog 112 (.val (.int .i64 u):: .val (.int .i64 v)::apA op n (dC z na A N q) (dC z' nb B M q')) (ap0 op n (dC z na A N q) (dC z' nb B M q') K) 6 (.val (.int .i64 w)) (ap0 op n (dC z na A N q) (dC z' nb B M q') K):=by
 unfold apA dC ap0
 rcases Nat.lt_or_ge u 2 with hu|hu<;>rcases Nat.lt_or_ge v 2 with hv|hv
 ·exact absurd ⟨hu,hv⟩ hn
 all_goals clear hn
 all_goals(refine ak Tryz.func112 Tryz.ntmps112 rfl ?_)
 all_goals(have zx1:= @ha;have zx2:=aC;have zx3:=aC;repeat' (first|refine zqN ?_|refine bM ?_|refine bO ?_|(refine bP ?_ ?_<;>intro hc<;>try exact zqM)|refine zqR 14 [⟨0,[],[78,79,80,81,82,83],[2],[],0⟩,⟨1,[],[77,79,80,81,82,83],[2],[],0⟩,⟨2,[],[77,78,80,81,82,83],[2],[],0⟩,⟨3,[],[77,78,79,81,82],[],[],0⟩,⟨4,[],[77,78,79,80,82],[],[],0⟩,⟨5,[],[77,78,79,80,81],[],[],0⟩,⟨6,[3,4,5],[77,78,79],[],[2],0⟩,⟨7,[0,1,2,3,4,5,6],[],[],[],0⟩,⟨8,[0,1,2,3,4,5,6,7],[],[],[],0⟩] ?_|refine zqD ?_|fail))
 all_goals((refine Ends.mk2 zqI [0,1,2,3,4,5] ?_;simp-dsimp(disch:=try exact vD) only[push_cast,simprocAttr,Tryz.f112,ha];try exact zqF))
theorem Po(hn:¬(u<2∧v<2))(ha:cK (knM kP K) [(u:Int),(v:Int)]=some (.val (.int .i64 (w:Int)))):ACall Tryz.prog 112 (.val (.int .i64 u):: .val (.int .i64 v)::apA op n (dC z na A N q) (dC z' nb B M q')) (apS op n (dC z na A N q) (dC z' nb B M q') F k K) 6 (.val (.int .i64 w)) (apS op n (dC z na A N q) (dC z' nb B M q') F k K):=by
 unfold apA dC apS
 rcases Nat.lt_or_ge u 2 with hu|hu<;>rcases Nat.lt_or_ge v 2 with hv|hv
 ·exact absurd ⟨hu,hv⟩ hn
 all_goals clear hn
 all_goals(refine ak Tryz.func112 Tryz.ntmps112 rfl ?_)
 all_goals(have zx1:= @ha;have zx2:=aC;have zx3:=aC;repeat' (first|refine zqN ?_|refine bM ?_|refine bO ?_|(refine bP ?_ ?_<;>intro hc<;>try exact zqM)|refine zqR 14 [⟨0,[],[78,79,80,81,82,83],[2],[],0⟩,⟨1,[],[77,79,80,81,82,83],[2],[],0⟩,⟨2,[],[77,78,80,81,82,83],[2],[],0⟩,⟨3,[],[77,78,79,81,82],[],[],0⟩,⟨4,[],[77,78,79,80,82],[],[],0⟩,⟨5,[],[77,78,79,80,81],[],[],0⟩,⟨6,[3,4,5],[77,78,79],[],[2],0⟩,⟨7,[0,1,2,3,4,5,6],[],[],[],0⟩,⟨8,[0,1,2,3,4,5,6,7],[],[],[],0⟩] ?_|refine zqD ?_|fail))
 all_goals((refine Ends.mk2 zqI [0,1,2,3,4,5,6] ?_;simp-dsimp(disch:=try exact vD) only[push_cast,simprocAttr,Tryz.f112,ha];try exact zqF))
theorem Ub(hn:¬(u<2∧v<2))(ha:cK (knM kP K) [(u:Int),(v:Int)]=none)(hp:mM (knM kP K2) [(u:Int),(v:Int)] (.val (.int .i64 (a:Int)))=knM kP K3)
 (hm1:2≤u→min (n:Int) (su:Int)=(x1:Int)) (hm1':u<2→n=x1) (hm2:2≤v→min (x1:Int) (sv:Int)=(by1:Int)) (hm2':v<2→x1=by1)
 (hsu:ACall Tryz.prog 99 [apD z na A N q,.val (.int .i64 u)] [] 0 (.val (.int .i64 su)) []) (hsv:ACall Tryz.prog 99 [apD z' nb B M q',.val (.int .i64 v)] [] 0 (.val (.int .i64 sv)) [])
 (hku:ACall Tryz.prog 115 [apD z na A N q,.val (.int .i64 u),.val (.int .i64 by1)] [] 0 (.tup [.val (.int .i64 ul),.val (.int .i64 uh)]) []) (hkv:ACall Tryz.prog 115 [apD z' nb B M q',.val (.int .i64 v),.val (.int .i64 by1)] [] 0 (.tup [.val (.int .i64 vl),.val (.int .i64 vh)]) [])
 (h1:ACall Tryz.prog 112 (.val (.int .i64 ul):: .val (.int .i64 vl)::apA op n (dC z na A N q) (dC z' nb B M q')) (ap0 op n (dC z na A N q) (dC z' nb B M q') K) 6 (.val (.int .i64 a)) (ap0 op n (dC z na A N q) (dC z' nb B M q') K1))
 (h2:ACall Tryz.prog 112 (.val (.int .i64 uh):: .val (.int .i64 vh)::apA op n (dC z na A N q) (dC z' nb B M q')) (ap0 op n (dC z na A N q) (dC z' nb B M q') K1) 6 (.val (.int .i64 a)) (ap0 op n (dC z na A N q) (dC z' nb B M q') K2)):
 ACall Tryz.prog 112 (.val (.int .i64 u):: .val (.int .i64 v)::apA op n (dC z na A N q) (dC z' nb B M q')) (ap0 op n (dC z na A N q) (dC z' nb B M q') K) 6 (.val (.int .i64 a)) (ap0 op n (dC z na A N q) (dC z' nb B M q') K3):=by
 have h1:=PLift.up h1;have h2:=PLift.up h2;have hsu:=PLift.up hsu;have hsv:=PLift.up hsv;have hku:=PLift.up hku;have hkv:=PLift.up hkv
 have h3:=PLift.up (Bb (v:=by1) (lo:=a))
 unfold apA dC ap0 at*
 unfold apD at*
 unfold b0 at h3
 have zx2:=ae;have zx3:=ae
 rcases Nat.lt_or_ge u 2 with hu|hu<;>rcases Nat.lt_or_ge v 2 with hv|hv
 ·exact absurd ⟨hu,hv⟩ hn
 all_goals clear hn
 all_goals first
  |(have zx3:=hm2 hv;have hu1:=hm1' hu;clear hm1 hm2 hm1' hm2';subst hu1)
  |(have zx2:=hm1 hu;have hv1:=hm2' hv;clear hm1 hm2 hm1' hm2';subst hv1)
  |(have zx2:=hm1 hu;have zx3:=hm2 hv;clear hm1 hm2 hm1' hm2')
 all_goals(refine ak Tryz.func112 Tryz.ntmps112 rfl ?_)
 all_goals(have zx1:= @ha;repeat' (first|refine zqN ?_|((first|refine ay rfl (fun K hK=>?_)|refine aj (fun K hK=>?_)|refine gM [0,1,2] (fun K hK=>?_));refine bq (f:=112) (dst:=some 83) [0,1,2,3,4,5] 6 false ?_;refine l8 ?_;refine⟨_,_,h2.down,?_⟩;refine gQ ?_;apply hK;clear hK K)|((first|refine ay rfl (fun K hK=>?_)|refine aj (fun K hK=>?_)|refine aA (fun K hK=>?_));(first|refine ah (f:=99) (dst:=some 50) [] 0 false ?_|refine ah (f:=99) (dst:=some 57) [] 0 false ?_|refine ah (f:=115) (dst:=some 63) [] 0 false ?_|refine ah (f:=115) (dst:=some 70) [] 0 false ?_|refine bq (f:=112) (dst:=some 76) [0,1,2,3,4,5] 6 false ?_|refine ah (f:=116) [3,4] 2 false ?_);refine l8 ?_;(first|refine⟨_,_,hsu.down,?_⟩|refine⟨_,_,hsv.down,?_⟩|refine⟨_,_,hku.down,?_⟩|refine⟨_,_,hkv.down,?_⟩|refine⟨_,_,h1.down,?_⟩|refine⟨_,_,h3.down,?_⟩);refine gQ ?_;apply hK;clear hK K)|refine bM ?_|refine bO ?_|(refine bP ?_ ?_<;>intro hc<;>try exact zqM)|refine zqR 14 [⟨0,[],[78,79,80,81,82,83],[6,7,8],[],0⟩,⟨1,[],[77,79,80,81,82,83],[6,7,8],[],0⟩,⟨2,[],[77,78,80,81,82,83],[6,7,8],[],0⟩,⟨3,[],[77,78,79,81,82],[],[],0⟩,⟨4,[],[77,78,79,80,82],[],[],0⟩,⟨5,[],[77,78,79,80,81],[],[],0⟩,⟨6,[3,4,5],[77,78,79],[],[6,7,8],0⟩,⟨7,[0,1,2,3,4,5,6],[],[],[6,7],0⟩,⟨8,[0,1,2,3,4,5,6,7],[],[],[],0⟩] ?_|refine zqD ?_|fail))
 all_goals(refine Ends.mk2 zqI [0,1,2,3,4,5] ?_;simp-dsimp(disch:=try exact vD) only[push_cast,simprocAttr,Tryz.f112,ha,hp];try exact zqF)
theorem Uc(hn:¬(u<2∧v<2))(ha:cK (knM kP K) [(u:Int),(v:Int)]=none)(hp:mM (knM kP K2) [(u:Int),(v:Int)] (.val (.int .i64 (r:Int)))=knM kP K3)
 (hm1:2≤u→min (n:Int) (su:Int)=(x1:Int)) (hm1':u<2→n=x1) (hm2:2≤v→min (x1:Int) (sv:Int)=(by1:Int)) (hm2':v<2→x1=by1)
 (hsu:ACall Tryz.prog 99 [apD z na A N q,.val (.int .i64 u)] [] 0 (.val (.int .i64 su)) []) (hsv:ACall Tryz.prog 99 [apD z' nb B M q',.val (.int .i64 v)] [] 0 (.val (.int .i64 sv)) [])
 (hku:ACall Tryz.prog 115 [apD z na A N q,.val (.int .i64 u),.val (.int .i64 by1)] [] 0 (.tup [.val (.int .i64 ul),.val (.int .i64 uh)]) []) (hkv:ACall Tryz.prog 115 [apD z' nb B M q',.val (.int .i64 v),.val (.int .i64 by1)] [] 0 (.tup [.val (.int .i64 vl),.val (.int .i64 vh)]) [])
 (h1:ACall Tryz.prog 112 (.val (.int .i64 ul):: .val (.int .i64 vl)::apA op n (dC z na A N q) (dC z' nb B M q')) (ap0 op n (dC z na A N q) (dC z' nb B M q') K) 6 (.val (.int .i64 a)) (ap0 op n (dC z na A N q) (dC z' nb B M q') K1))
 (h2:ACall Tryz.prog 112 (.val (.int .i64 uh):: .val (.int .i64 vh)::apA op n (dC z na A N q) (dC z' nb B M q')) (ap0 op n (dC z na A N q) (dC z' nb B M q') K1) 6 (.val (.int .i64 b)) (ap0 op n (dC z na A N q) (dC z' nb B M q') K2))
 (h3:ACall Tryz.prog 116 [.pt 0 0,.val (.int .i64 by1),.val (.int .i64 a),.val (.int .i64 b)] b0 2 (.val (.int .i64 r)) (bS G k')):
 ACall Tryz.prog 112 (.val (.int .i64 u):: .val (.int .i64 v)::apA op n (dC z na A N q) (dC z' nb B M q')) (ap0 op n (dC z na A N q) (dC z' nb B M q') K) 6 (.val (.int .i64 r)) (apS op n (dC z na A N q) (dC z' nb B M q') G k' K3):=by
 have h1:=PLift.up h1;have h2:=PLift.up h2;have hsu:=PLift.up hsu;have hsv:=PLift.up hsv;have hku:=PLift.up hku;have hkv:=PLift.up hkv
 have h3:=PLift.up h3
 unfold apA dC ap0 apS at*
 unfold apD at*
 unfold b0 bS at h3
 have zx2:=ae;have zx3:=ae
 rcases Nat.lt_or_ge u 2 with hu|hu<;>rcases Nat.lt_or_ge v 2 with hv|hv
 ·exact absurd ⟨hu,hv⟩ hn
 all_goals clear hn
 all_goals first
  |(have zx3:=hm2 hv;have hu1:=hm1' hu;clear hm1 hm2 hm1' hm2';subst hu1)
  |(have zx2:=hm1 hu;have hv1:=hm2' hv;clear hm1 hm2 hm1' hm2';subst hv1)
  |(have zx2:=hm1 hu;have zx3:=hm2 hv;clear hm1 hm2 hm1' hm2')
 all_goals(refine ak Tryz.func112 Tryz.ntmps112 rfl ?_)
 all_goals(have zx1:= @ha;repeat' (first|refine zqN ?_|((first|refine ay rfl (fun K hK=>?_)|refine aj (fun K hK=>?_)|refine gM [0,1,2] (fun K hK=>?_));refine bq (f:=112) (dst:=some 83) [0,1,2,3,4,5] 6 false ?_;refine l8 ?_;refine⟨_,_,h2.down,?_⟩;refine gQ ?_;apply hK;clear hK K)|((first|refine ay rfl (fun K hK=>?_)|refine aj (fun K hK=>?_)|refine aA (fun K hK=>?_));(first|refine ah (f:=99) (dst:=some 50) [] 0 false ?_|refine ah (f:=99) (dst:=some 57) [] 0 false ?_|refine ah (f:=115) (dst:=some 63) [] 0 false ?_|refine ah (f:=115) (dst:=some 70) [] 0 false ?_|refine bq (f:=112) (dst:=some 76) [0,1,2,3,4,5] 6 false ?_|refine ah (f:=116) [3,4] 2 false ?_);refine l8 ?_;(first|refine⟨_,_,hsu.down,?_⟩|refine⟨_,_,hsv.down,?_⟩|refine⟨_,_,hku.down,?_⟩|refine⟨_,_,hkv.down,?_⟩|refine⟨_,_,h1.down,?_⟩|refine⟨_,_,h3.down,?_⟩);refine gQ ?_;apply hK;clear hK K)|refine bM ?_|refine bO ?_|(refine bP ?_ ?_<;>intro hc<;>try exact zqM)|refine zqR 14 [⟨0,[],[78,79,80,81,82,83],[6,7,8],[],0⟩,⟨1,[],[77,79,80,81,82,83],[6,7,8],[],0⟩,⟨2,[],[77,78,80,81,82,83],[6,7,8],[],0⟩,⟨3,[],[77,78,79,81,82],[],[],0⟩,⟨4,[],[77,78,79,80,82],[],[],0⟩,⟨5,[],[77,78,79,80,81],[],[],0⟩,⟨6,[3,4,5],[77,78,79],[],[6,7,8],0⟩,⟨7,[0,1,2,3,4,5,6],[],[],[6,7],1⟩,⟨8,[0,1,2,3,4,5,6,7],[],[],[],0⟩] ?_|refine zqD ?_|fail))
 all_goals(refine Ends.mk2 zqI [0,1,2,3,4,5,6] ?_;simp-dsimp(disch:=try exact vD) only[push_cast,simprocAttr,Tryz.f112,ha,hp];try exact zqF)
theorem Ud(hn:¬(u<2∧v<2))(ha:cK (knM kP K) [(u:Int),(v:Int)]=none)(hp:mM (knM kP K2) [(u:Int),(v:Int)] (.val (.int .i64 (r:Int)))=knM kP K3)
 (hm1:2≤u→min (n:Int) (su:Int)=(x1:Int)) (hm1':u<2→n=x1) (hm2:2≤v→min (x1:Int) (sv:Int)=(by1:Int)) (hm2':v<2→x1=by1)
 (hsu:ACall Tryz.prog 99 [apD z na A N q,.val (.int .i64 u)] [] 0 (.val (.int .i64 su)) []) (hsv:ACall Tryz.prog 99 [apD z' nb B M q',.val (.int .i64 v)] [] 0 (.val (.int .i64 sv)) [])
 (hku:ACall Tryz.prog 115 [apD z na A N q,.val (.int .i64 u),.val (.int .i64 by1)] [] 0 (.tup [.val (.int .i64 ul),.val (.int .i64 uh)]) []) (hkv:ACall Tryz.prog 115 [apD z' nb B M q',.val (.int .i64 v),.val (.int .i64 by1)] [] 0 (.tup [.val (.int .i64 vl),.val (.int .i64 vh)]) [])
 (h1:ACall Tryz.prog 112 (.val (.int .i64 ul):: .val (.int .i64 vl)::apA op n (dC z na A N q) (dC z' nb B M q')) (ap0 op n (dC z na A N q) (dC z' nb B M q') K) 6 (.val (.int .i64 a)) (ap0 op n (dC z na A N q) (dC z' nb B M q') K1))
 (h2:ACall Tryz.prog 112 (.val (.int .i64 uh):: .val (.int .i64 vh)::apA op n (dC z na A N q) (dC z' nb B M q')) (ap0 op n (dC z na A N q) (dC z' nb B M q') K1) 6 (.val (.int .i64 b)) (apS op n (dC z na A N q) (dC z' nb B M q') F2 k2 K2))
 (h3:ACall Tryz.prog 116 [.pt 0 0,.val (.int .i64 by1),.val (.int .i64 a),.val (.int .i64 b)] (bS F2 k2) 2 (.val (.int .i64 r)) (bS G k')):
 ACall Tryz.prog 112 (.val (.int .i64 u):: .val (.int .i64 v)::apA op n (dC z na A N q) (dC z' nb B M q')) (ap0 op n (dC z na A N q) (dC z' nb B M q') K) 6 (.val (.int .i64 r)) (apS op n (dC z na A N q) (dC z' nb B M q') G k' K3):=by
 have h1:=PLift.up h1;have h2:=PLift.up h2;have hsu:=PLift.up hsu;have hsv:=PLift.up hsv;have hku:=PLift.up hku;have hkv:=PLift.up hkv
 have h3:=PLift.up h3
 unfold apA dC ap0 apS at*
 unfold apD at*
 unfold bS at h3
 have zx2:=ae;have zx3:=ae
 rcases Nat.lt_or_ge u 2 with hu|hu<;>rcases Nat.lt_or_ge v 2 with hv|hv
 ·exact absurd ⟨hu,hv⟩ hn
 all_goals clear hn
 all_goals first
  |(have zx3:=hm2 hv;have hu1:=hm1' hu;clear hm1 hm2 hm1' hm2';subst hu1)
  |(have zx2:=hm1 hu;have hv1:=hm2' hv;clear hm1 hm2 hm1' hm2';subst hv1)
  |(have zx2:=hm1 hu;have zx3:=hm2 hv;clear hm1 hm2 hm1' hm2')
 all_goals(refine ak Tryz.func112 Tryz.ntmps112 rfl ?_)
 all_goals(have zx1:= @ha;repeat' (first|refine zqN ?_|((first|refine ay rfl (fun K hK=>?_)|refine aj (fun K hK=>?_)|refine gM [0,1,2] (fun K hK=>?_));refine bq (f:=112) (dst:=some 83) [0,1,2,3,4,5] 6 false ?_;refine l8 ?_;refine⟨_,_,h2.down,?_⟩;refine gQ ?_;apply hK;clear hK K)|((first|refine ay rfl (fun K hK=>?_)|refine aj (fun K hK=>?_)|refine aA (fun K hK=>?_));(first|refine ah (f:=99) (dst:=some 50) [] 0 false ?_|refine ah (f:=99) (dst:=some 57) [] 0 false ?_|refine ah (f:=115) (dst:=some 63) [] 0 false ?_|refine ah (f:=115) (dst:=some 70) [] 0 false ?_|refine bq (f:=112) (dst:=some 76) [0,1,2,3,4,5] 6 false ?_|refine ah (f:=116) [3,4,6] 2 false ?_);refine l8 ?_;(first|refine⟨_,_,hsu.down,?_⟩|refine⟨_,_,hsv.down,?_⟩|refine⟨_,_,hku.down,?_⟩|refine⟨_,_,hkv.down,?_⟩|refine⟨_,_,h1.down,?_⟩|refine⟨_,_,h3.down,?_⟩);refine gQ ?_;apply hK;clear hK K)|refine bM ?_|refine bO ?_|(refine bP ?_ ?_<;>intro hc<;>try exact zqM)|refine zqR 14 [⟨0,[],[78,79,80,81,82,83],[6,7,8],[],0⟩,⟨1,[],[77,79,80,81,82,83],[6,7,8],[],0⟩,⟨2,[],[77,78,80,81,82,83],[6,7,8],[],0⟩,⟨3,[],[77,78,79,81,82],[],[],0⟩,⟨4,[],[77,78,79,80,82],[],[],0⟩,⟨5,[],[77,78,79,80,81],[],[],0⟩,⟨6,[3,4,5],[77,78,79],[],[6,7,8],1⟩,⟨7,[0,1,2,3,4,5,6],[],[],[6,7,9],1⟩,⟨8,[0,1,2,3,4,5,6,7],[],[],[],0⟩] ?_|refine zqD ?_|fail))
 all_goals(refine Ends.mk2 zqI [0,1,2,3,4,5,7] ?_;simp-dsimp(disch:=try exact vD) only[push_cast,simprocAttr,Tryz.f112,ha,hp];try exact zqF)
theorem Ue(hn:¬(u<2∧v<2))(ha:cK (knM kP K) [(u:Int),(v:Int)]=none)(hp:mM (knM kP K2) [(u:Int),(v:Int)] (.val (.int .i64 (r:Int)))=knM kP K3)
 (hm1:2≤u→min (n:Int) (su:Int)=(x1:Int)) (hm1':u<2→n=x1) (hm2:2≤v→min (x1:Int) (sv:Int)=(by1:Int)) (hm2':v<2→x1=by1)
 (hsu:ACall Tryz.prog 99 [apD z na A N q,.val (.int .i64 u)] [] 0 (.val (.int .i64 su)) []) (hsv:ACall Tryz.prog 99 [apD z' nb B M q',.val (.int .i64 v)] [] 0 (.val (.int .i64 sv)) [])
 (hku:ACall Tryz.prog 115 [apD z na A N q,.val (.int .i64 u),.val (.int .i64 by1)] [] 0 (.tup [.val (.int .i64 ul),.val (.int .i64 uh)]) []) (hkv:ACall Tryz.prog 115 [apD z' nb B M q',.val (.int .i64 v),.val (.int .i64 by1)] [] 0 (.tup [.val (.int .i64 vl),.val (.int .i64 vh)]) [])
 (h1:ACall Tryz.prog 112 (.val (.int .i64 ul):: .val (.int .i64 vl)::apA op n (dC z na A N q) (dC z' nb B M q')) (ap0 op n (dC z na A N q) (dC z' nb B M q') K) 6 (.val (.int .i64 a)) (apS op n (dC z na A N q) (dC z' nb B M q') F1 k1 K1))
 (h2:ACall Tryz.prog 112 (.val (.int .i64 uh):: .val (.int .i64 vh)::apA op n (dC z na A N q) (dC z' nb B M q')) (apS op n (dC z na A N q) (dC z' nb B M q') F1 k1 K1) 6 (.val (.int .i64 b)) (apS op n (dC z na A N q) (dC z' nb B M q') F2 k2 K2))
 (h3:ACall Tryz.prog 116 [.pt 0 0,.val (.int .i64 by1),.val (.int .i64 a),.val (.int .i64 b)] (bS F2 k2) 2 (.val (.int .i64 r)) (bS G k')):
 ACall Tryz.prog 112 (.val (.int .i64 u):: .val (.int .i64 v)::apA op n (dC z na A N q) (dC z' nb B M q')) (ap0 op n (dC z na A N q) (dC z' nb B M q') K) 6 (.val (.int .i64 r)) (apS op n (dC z na A N q) (dC z' nb B M q') G k' K3):=by
 have h1:=PLift.up h1;have h2:=PLift.up h2;have hsu:=PLift.up hsu;have hsv:=PLift.up hsv;have hku:=PLift.up hku;have hkv:=PLift.up hkv
 have h3:=PLift.up h3
 unfold apA dC ap0 apS at*
 unfold apD at*
 unfold bS at h3
 have zx2:=ae;have zx3:=ae
 rcases Nat.lt_or_ge u 2 with hu|hu<;>rcases Nat.lt_or_ge v 2 with hv|hv
 ·exact absurd ⟨hu,hv⟩ hn
 all_goals clear hn
 all_goals first
  |(have zx3:=hm2 hv;have hu1:=hm1' hu;clear hm1 hm2 hm1' hm2';subst hu1)
  |(have zx2:=hm1 hu;have hv1:=hm2' hv;clear hm1 hm2 hm1' hm2';subst hv1)
  |(have zx2:=hm1 hu;have zx3:=hm2 hv;clear hm1 hm2 hm1' hm2')
 all_goals(refine ak Tryz.func112 Tryz.ntmps112 rfl ?_)
 all_goals(have zx1:= @ha;repeat' (first|refine zqN ?_|((first|refine ay rfl (fun K hK=>?_)|refine aj (fun K hK=>?_)|refine gM [0,1,2] (fun K hK=>?_));refine bq (f:=112) (dst:=some 83) [0,1,2,3,4,5,6] 6 false ?_;refine l8 ?_;refine⟨_,_,h2.down,?_⟩;refine gQ ?_;apply hK;clear hK K)|((first|refine ay rfl (fun K hK=>?_)|refine aj (fun K hK=>?_)|refine aA (fun K hK=>?_));(first|refine ah (f:=99) (dst:=some 50) [] 0 false ?_|refine ah (f:=99) (dst:=some 57) [] 0 false ?_|refine ah (f:=115) (dst:=some 63) [] 0 false ?_|refine ah (f:=115) (dst:=some 70) [] 0 false ?_|refine bq (f:=112) (dst:=some 76) [0,1,2,3,4,5] 6 false ?_|refine ah (f:=116) [3,4,7] 2 false ?_);refine l8 ?_;(first|refine⟨_,_,hsu.down,?_⟩|refine⟨_,_,hsv.down,?_⟩|refine⟨_,_,hku.down,?_⟩|refine⟨_,_,hkv.down,?_⟩|refine⟨_,_,h1.down,?_⟩|refine⟨_,_,h3.down,?_⟩);refine gQ ?_;apply hK;clear hK K)|refine bM ?_|refine bO ?_|(refine bP ?_ ?_<;>intro hc<;>try exact zqM)|refine zqR 14 [⟨0,[],[78,79,80,81,82,83],[6,7,8,9],[],0⟩,⟨1,[],[77,79,80,81,82,83],[6,7,8,9],[],0⟩,⟨2,[],[77,78,80,81,82,83],[6,7,8,9],[],0⟩,⟨3,[],[77,78,79,81,82],[],[],0⟩,⟨4,[],[77,78,79,80,82],[],[],0⟩,⟨5,[],[77,78,79,80,81],[],[],0⟩,⟨6,[3,4,5],[77,78,79],[],[6,7,8,9],1⟩,⟨7,[0,1,2,3,4,5,6],[],[],[6,7,10],1⟩,⟨8,[0,1,2,3,4,5,6,7],[],[],[],0⟩] ?_|refine zqD ?_|fail))
 all_goals(refine Ends.mk2 zqI [0,1,2,3,4,5,8] ?_;simp-dsimp(disch:=try exact vD) only[push_cast,simprocAttr,Tryz.f112,ha,hp];try exact zqF)
theorem Uf(hn:¬(u<2∧v<2))(ha:cK (knM kP K) [(u:Int),(v:Int)]=none)(hp:mM (knM kP K2) [(u:Int),(v:Int)] (.val (.int .i64 (r:Int)))=knM kP K3)
 (hm1:2≤u→min (n:Int) (su:Int)=(x1:Int)) (hm1':u<2→n=x1) (hm2:2≤v→min (x1:Int) (sv:Int)=(by1:Int)) (hm2':v<2→x1=by1)
 (hsu:ACall Tryz.prog 99 [apD z na A N q,.val (.int .i64 u)] [] 0 (.val (.int .i64 su)) []) (hsv:ACall Tryz.prog 99 [apD z' nb B M q',.val (.int .i64 v)] [] 0 (.val (.int .i64 sv)) [])
 (hku:ACall Tryz.prog 115 [apD z na A N q,.val (.int .i64 u),.val (.int .i64 by1)] [] 0 (.tup [.val (.int .i64 ul),.val (.int .i64 uh)]) []) (hkv:ACall Tryz.prog 115 [apD z' nb B M q',.val (.int .i64 v),.val (.int .i64 by1)] [] 0 (.tup [.val (.int .i64 vl),.val (.int .i64 vh)]) [])
 (h1:ACall Tryz.prog 112 (.val (.int .i64 ul):: .val (.int .i64 vl)::apA op n (dC z na A N q) (dC z' nb B M q')) (apS op n (dC z na A N q) (dC z' nb B M q') F k K) 6 (.val (.int .i64 a)) (apS op n (dC z na A N q) (dC z' nb B M q') F1 k1 K1))
 (h2:ACall Tryz.prog 112 (.val (.int .i64 uh):: .val (.int .i64 vh)::apA op n (dC z na A N q) (dC z' nb B M q')) (apS op n (dC z na A N q) (dC z' nb B M q') F1 k1 K1) 6 (.val (.int .i64 b)) (apS op n (dC z na A N q) (dC z' nb B M q') F2 k2 K2))
 (h3:ACall Tryz.prog 116 [.pt 0 0,.val (.int .i64 by1),.val (.int .i64 a),.val (.int .i64 b)] (bS F2 k2) 2 (.val (.int .i64 r)) (bS G k')):
 ACall Tryz.prog 112 (.val (.int .i64 u):: .val (.int .i64 v)::apA op n (dC z na A N q) (dC z' nb B M q')) (apS op n (dC z na A N q) (dC z' nb B M q') F k K) 6 (.val (.int .i64 r)) (apS op n (dC z na A N q) (dC z' nb B M q') G k' K3):=by
 have h1:=PLift.up h1;have h2:=PLift.up h2;have hsu:=PLift.up hsu;have hsv:=PLift.up hsv;have hku:=PLift.up hku;have hkv:=PLift.up hkv
 have h3:=PLift.up h3
 unfold apA dC apS at*
 unfold apD at*
 unfold bS at h3
 have zx2:=ae;have zx3:=ae
 rcases Nat.lt_or_ge u 2 with hu|hu<;>rcases Nat.lt_or_ge v 2 with hv|hv
 ·exact absurd ⟨hu,hv⟩ hn
 all_goals clear hn
 all_goals first
  |(have zx3:=hm2 hv;have hu1:=hm1' hu;clear hm1 hm2 hm1' hm2';subst hu1)
  |(have zx2:=hm1 hu;have hv1:=hm2' hv;clear hm1 hm2 hm1' hm2';subst hv1)
  |(have zx2:=hm1 hu;have zx3:=hm2 hv;clear hm1 hm2 hm1' hm2')
 all_goals(refine ak Tryz.func112 Tryz.ntmps112 rfl ?_)
 all_goals(have zx1:= @ha;repeat' (first|refine zqN ?_|((first|refine ay rfl (fun K hK=>?_)|refine aj (fun K hK=>?_)|refine gM [0,1,2] (fun K hK=>?_));refine bq (f:=112) (dst:=some 83) [0,1,2,3,4,5,7] 6 false ?_;refine l8 ?_;refine⟨_,_,h2.down,?_⟩;refine gQ ?_;apply hK;clear hK K)|((first|refine ay rfl (fun K hK=>?_)|refine aj (fun K hK=>?_)|refine aA (fun K hK=>?_));(first|refine ah (f:=99) (dst:=some 50) [] 0 false ?_|refine ah (f:=99) (dst:=some 57) [] 0 false ?_|refine ah (f:=115) (dst:=some 63) [] 0 false ?_|refine ah (f:=115) (dst:=some 70) [] 0 false ?_|refine bq (f:=112) (dst:=some 76) [0,1,2,3,4,5,6] 6 false ?_|refine ah (f:=116) [3,4,8] 2 false ?_);refine l8 ?_;(first|refine⟨_,_,hsu.down,?_⟩|refine⟨_,_,hsv.down,?_⟩|refine⟨_,_,hku.down,?_⟩|refine⟨_,_,hkv.down,?_⟩|refine⟨_,_,h1.down,?_⟩|refine⟨_,_,h3.down,?_⟩);refine gQ ?_;apply hK;clear hK K)|refine bM ?_|refine bO ?_|(refine bP ?_ ?_<;>intro hc<;>try exact zqM)|refine zqR 14 [⟨0,[],[78,79,80,81,82,83],[6,7,8,10],[],0⟩,⟨1,[],[77,79,80,81,82,83],[6,7,8,10],[],0⟩,⟨2,[],[77,78,80,81,82,83],[6,7,8,10],[],0⟩,⟨3,[],[77,78,79,81,82],[],[],0⟩,⟨4,[],[77,78,79,80,82],[],[],0⟩,⟨5,[],[77,78,79,80,81],[],[],0⟩,⟨6,[3,4,5],[77,78,79],[],[6,7,8,10],1⟩,⟨7,[0,1,2,3,4,5,6],[],[],[6,7,11],1⟩,⟨8,[0,1,2,3,4,5,6,7],[],[],[],0⟩] ?_|refine zqD ?_|fail))
 all_goals(refine Ends.mk2 zqI [0,1,2,3,4,5,9] ?_;simp-dsimp(disch:=try exact vD) only[push_cast,simprocAttr,Tryz.f112,ha,hp];try exact zqF)
def oA(op n:Nat)(da db:List AV)(S:List Fo×List ((Nat×Nat)×Nat)):List aD:=if S.1=[] then ap0 op n da db S.2 else apS op n da db S.1 S.1.length S.2
theorem oA_0{da db:List AV}:oA op n da db ([],K)=ap0 op n da db K:=rfl
theorem MG{da db:List AV}(h:¬F=[]):oA op n da db (F,K)=apS op n da db F F.length K:=if_neg h
theorem Q9(h:¬r<2):aP na A r=aP n A r:=by unfold aP;rw[if_neg h,if_neg h]
theorem ajm:kX A na r b=kX A n r b:=by
 unfold kX
 by_cases h:r<2
 ·rw[if_pos (.inr h),if_pos (.inr h)]
 ·rw[Q9 (n:=n) h]
theorem ajn:kY A na r b=kY A n r b:=by
 unfold kY
 by_cases h:r<2
 ·rw[if_pos (.inr h),if_pos (.inr h)]
 ·rw[Q9 (n:=n) h]
theorem Zr(hA:Go.Dg.Good n A)(hB:Go.Dg.Good n B)(hN:A.length=N)(hM:B.length=M)(hN2:N<2^40)(hM2:M<2^40)(hn:n≤16)(h1:1≤op)(h4:op≤4)(hu:u<N+2)(hv:v<M+2):
 ACall Tryz.prog 112 (.val (.int .i64 u):: .val (.int .i64 v)::apA op n (dC z na A N q) (dC z' nb B M q')) (oA op n (dC z na A N q) (dC z' nb B M q') ([],[])) 6 (.val (.int .i64 ((mgr (fV (opB op) A B n) (u+v+1) (u,v) ([],[])).2:Nat))) (oA op n (dC z na A N q) (dC z' nb B M q') (mgr (fV (opB op) A B n) (u+v+1) (u,v) ([],[])).1):=by
 have hp:2^n≤2^16:=Nat.pow_le_pow_right (by omega) hn
 have hpl:2^(n-(fV (opB op) A B n).lev (u,v))≤2^16:=Nat.pow_le_pow_right (by omega) (by omega)
 have hge:∀x,(fV (opB op) A B n).term x=none→¬(x.1<2∧x.2<2):=fun x h hc=>by simp[fV,hc] at h
 refine SH (Ip (op:=opB op) hA hB) (fun x S S' c=>ACall Tryz.prog 112 (.val (.int .i64 x.1):: .val (.int .i64 x.2)::apA op n (dC z na A N q) (dC z' nb B M q')) (oA op n (dC z na A N q) (dC z' nb B M q') S) 6 (.val (.int .i64 (c:Nat))) (oA op n (dC z na A N q) (dC z' nb B M q') S')) ?_ ?_ ?_ (u+v+1) (u,v) [] [] ⟨by show u<A.length+2;omega,by show v<B.length+2;omega⟩ (Nat.lt_succ_self _) Good.nil (fun p hp=>by cases hp) (by rw[List.length_nil];omega)
 ·rintro⟨u,v⟩ c ⟨F,K⟩ hx ht
  have h2:u<2∧v<2:=by
   by_cases h2:u<2∧v<2
   ·exact h2
   ·simp[fV,h2] at ht
  have hc:(if opB op (decide (u=1)) (decide (v=1))=true then 1 else 0)=c:=by simpa[fV,h2] using ht
  have eu:decide (u=1)=decide ((u:Int)=1):=decide_eq_decide.2 ⟨fun h=>by omega,fun h=>by omega⟩
  have ev:decide (v=1)=decide ((v:Int)=1):=decide_eq_decide.2 ⟨fun h=>by omega,fun h=>by omega⟩
  rw[eu,ev] at hc
  have e:((c:Nat):Int)=if opB op (decide ((u:Int)=1)) (decide ((v:Int)=1))=true then 1 else 0:=by rw[←hc];split<;>rfl
  rw[e]
  by_cases hF:F=[]
  ·subst hF;exact Zq h1 h4 h2.1 h2.2
  ·rw[MG hF];exact T9 h1 h4 h2.1 h2.2
 ·rintro⟨u,v⟩ w ⟨F,K⟩ hx ht hl
  have h2:=hge _ ht
  have ha:=W9 Ob hl
  unfold kP at ha
  by_cases hF:F=[]
  ·subst hF;exact Ua h2 ha
  ·rw[MG hF];exact Po h2 ha
 ·rintro⟨u,v⟩ ⟨F,K⟩ ⟨F1,K1⟩ ⟨F2,K2⟩ a b ⟨hu,hv⟩ ht hl hl2 hlen n0 n1 i1 i2
  have h2:=hge _ ht
  dsimp only at hu hv h2 hl2 hlen n0 n1 i1 i2⊢
  have ha:=LF Ob hl
  have hp:=acM (w:=(mkF F2 ((fV (opB op) A B n).lev (u,v)) a b).2) Ob hl2
  have ek0:(fV (opB op) A B n).k0 (u,v)=(kX A n u (by2 A B n (u,v)),kX B n v (by2 A B n (u,v))):=rfl
  have ek1:(fV (opB op) A B n).k1 (u,v)=(kY A n u (by2 A B n (u,v)),kY B n v (by2 A B n (u,v))):=rfl
  have elv:(fV (opB op) A B n).lev (u,v)=by2 A B n (u,v):=rfl
  rw[ek0] at i1;rw[ek1] at i2
  rw[elv] at hp⊢
  unfold kP at ha hp
  dsimp only at ha hp i1 i2
  have su1:=srv_le hA hu
  have sv1:=srv_le hB hv
  have hb:by2 A B n (u,v)=min (aP n A u) (aP n B v):=rfl
  have hm1:2≤u→min (n:Int) (aP na A u:Int)=(aP n A u:Int):=fun h=>by rw[Q9 (na:=na) (A:=A) (r:=u) (n:=n) (by omega)];omega
  have hm1':u<2→n=aP n A u:=fun h=>by unfold aP;rw[if_pos h]
  have hm2:2≤v→min (aP n A u:Int) (aP nb B v:Int)=(by2 A B n (u,v):Int):=fun h=>by rw[hb,Q9 (na:=nb) (A:=B) (r:=v) (n:=n) (by omega)];omega
  have hm2':v<2→aP n A u=by2 A B n (u,v):=fun h=>by
   have:n=aP n B v:=by unfold aP;rw[if_pos h]
   rw[hb];omega
  have hsu:=nC (z:=z) (n:=na) (q:=q) hN hN2 (show u<N+2 by omega)
  have hsv:=nC (z:=z') (n:=nb) (q:=q') hM hM2 (show v<M+2 by omega)
  have hku:=Qe (z:=z) (n:=na) (q:=q) (by1:=by2 A B n (u,v)) hN hN2 (show u<N+2 by omega)
  have hkv:=Qe (z:=z') (n:=nb) (q:=q') (by1:=by2 A B n (u,v)) hM hM2 (show v<M+2 by omega)
  rw[ajm (n:=n),ajn (n:=n)] at hku hkv
  clear su1 sv1 hb ek0 ek1 elv
  generalize by2 A B n (u,v)=by1 at*
  have h3:=ach (F:=F2) (v:=by1) (lo:=a) (hi:=b) (by omega)
  have p3:F2≠[]→(mkF F2 by1 a b).1≠[]:=fun h=>WB h
  have p0:F2=[]→(mkF F2 by1 a b).1=[]→a=b:=fun h h4=>by
   subst h
   unfold mkF at h4
   split at h4
   ·assumption
   ·simp at h4
  generalize hK3:K2++[((u,v),(mkF F2 by1 a b).2)]=K3 at hp⊢
  clear hK3
  by_cases hF2:F2=[]
  ·have hF1:F1=[]:=Decidable.not_not.1 fun h=>n1 h hF2
   have hF:F=[]:=Decidable.not_not.1 fun h=>n0 h hF1
   subst hF2;subst hF1;subst hF
   by_cases hG:(mkF [] by1 a b).1=[]
   ·have:=p0 rfl hG
    subst this
    rw[qX] at hp⊢
    exact Ub h2 ha hp hm1 hm1' hm2 hm2' hsu hsv hku hkv i1 i2
   ·rw[N7 hG] at h3
    rw[MG hG]
    exact Uc h2 ha hp hm1 hm1' hm2 hm2' hsu hsv hku hkv i1 i2 h3
  ·have hG:=p3 hF2
   rw[N7 hF2,N7 hG] at h3
   rw[MG hG]
   rw[MG hF2] at i2
   by_cases hF1:F1=[]
   ·have hF:F=[]:=Decidable.not_not.1 fun h=>n0 h hF1
    subst hF1;subst hF
    exact Ud h2 ha hp hm1 hm1' hm2 hm2' hsu hsv hku hkv i1 i2 h3
   ·rw[MG hF1] at i1 i2
    by_cases hF:F=[]
    ·subst hF;exact Ue h2 ha hp hm1 hm1' hm2 hm2' hsu hsv hku hkv i1 i2 h3
    ·rw[MG hF] at i1⊢
     exact Uf h2 ha hp hm1 hm1' hm2 hm2' hsu hsv hku hkv i1 i2 h3
theorem Zt{r':Nat}(hA:DOk na A r)(hB:DOk nb B r')(hN:A.length=N)(hM:B.length=M)(hmx:max na nb=n)(h1:1≤op)(h4:op≤4)
 (hg:ACall Tryz.prog 112 (.val (.int .i64 r):: .val (.int .i64 r')::apA op n (dC z na A N r) (dC z' nb B M r')) (ap0 op n (dC z na A N r) (dC z' nb B M r') []) 6 (.val (.int .i64 b)) (ap0 op n (dC z na A N r) (dC z' nb B M r') K)):ACall Tryz.prog 79 [.val (.int .i64 op),apD z na A N r,apD z' nb B M r'] [] 0 (.tup [dgV true n [] b,.val (.int .i64 0)]) []:=by
 have hv1:=PLift.up (tF (z:=z) hA hN)
 have hv2:=PLift.up (tF (z:=z') hB hM)
 have hg:=PLift.up hg
 have hnb:=PLift.up P7
 have hd:=PLift.up (ahN (n:=n) (r:=b))
 have zx1:max (na:Int) (nb:Int)=(n:Int):=by omega
 clear hA hB
 unfold apA ap0 dC at hg
 rw[Qg] at hg
 unfold b0 at hd
 unfold dgV apD
 refine ak Tryz.func79 Tryz.ntmps79 rfl ?_
 have zx2:=aC;have zx3:=aC;repeat' (first|((first|refine bI (r:=13) 0 ?_|refine bH (r:=13) 0 ?_);refine gQ ?_;intro K hK;refine hK _ _ ?_;clear hK K)|((first|refine bI (r:=13) 1 ?_|refine bH (r:=13) 1 ?_);refine gQ ?_;intro K hK;refine hK _ _ ?_;clear hK K)|((first|refine bI (r:=13) 2 ?_|refine bH (r:=13) 2 ?_);refine gQ ?_;intro K hK;refine hK _ _ ?_;clear hK K)|((first|refine bI (r:=13) 4 ?_|refine bH (r:=13) 4 ?_);refine gQ ?_;intro K hK;refine hK _ _ ?_;clear hK K)|refine zqN ?_|((first|refine ay rfl (fun K hK=>?_)|refine aj (fun K hK=>?_)|refine gM [10,8,9] (fun K hK=>?_));refine bq (f:=112) (dst:=some 48) [10,8,9,5,6,7] 6 false ?_;refine l8 ?_;refine⟨_,_,hg.down,?_⟩;refine gQ ?_;apply hK;clear hK K)|((first|refine ay rfl (fun K hK=>?_)|refine aj (fun K hK=>?_)|refine aA (fun K hK=>?_));(first|refine ah (f:=72) (dst:=some 15) [] 0 false ?_|refine ah (f:=72) (dst:=some 21) [] 0 false ?_|refine ah (f:=111) [] 0 false ?_|refine ah (f:=117) [5,6] 2 false ?_);refine l8 ?_;(first|refine⟨_,_,hv1.down,?_⟩|refine⟨_,_,hv2.down,?_⟩|refine⟨_,_,hnb.down,?_⟩|refine⟨_,_,hd.down,?_⟩);refine gQ ?_;apply hK;clear hK K)|refine bM ?_|refine bO ?_|(refine bP ?_ ?_<;>intro hc<;>try exact zqM)|refine zqR 13 [⟨0,[],[42,43,44,45,46,47,48],[8,9,10],[],0⟩,⟨1,[],[41,43,44,45,46,47,48],[8,9,10],[],0⟩,⟨2,[],[41,42,44,45,46,47],[],[],0⟩,⟨3,[],[41,42,43,46,47],[],[],0⟩,⟨4,[3],[41,42,43,46,47],[],[],0⟩,⟨5,[],[41,42,43,44,45],[],[],0⟩,⟨6,[5],[41,42,43,44,45],[],[],0⟩,⟨7,[2,3,4,5,6],[41,42],[],[8,9,10],0⟩,⟨8,[0,1,2,3,4,5,6,7],[],[],[8,9],0⟩,⟨9,[0,1,2,3,4,5,6,7,8],[],[],[2],0⟩,⟨10,[0,1,2,3,4,5,6,7,8,9],[],[],[],0⟩] ?_|refine zqD ?_|fail)
 all_goals(refine Ends.mk2 zqI [] ?_;simp-dsimp(disch:=try exact vD) only[push_cast,simprocAttr,Tryz.f79,nX,List.length_nil];try exact zqF)
theorem Zu{r':Nat}(hA:DOk na A r)(hB:DOk nb B r')(hN:A.length=N)(hM:B.length=M)(hmx:max na nb=n)(h1:1≤op)(h4:op≤4)(hF:F.length=k)
 (hg:ACall Tryz.prog 112 (.val (.int .i64 r):: .val (.int .i64 r')::apA op n (dC z na A N r) (dC z' nb B M r')) (ap0 op n (dC z na A N r) (dC z' nb B M r') []) 6 (.val (.int .i64 b)) (apS op n (dC z na A N r) (dC z' nb B M r') F k K)):ACall Tryz.prog 79 [.val (.int .i64 op),apD z na A N r,apD z' nb B M r'] [] 0 (.tup [dgV false n F b,.val (.int .i64 0)]) []:=by
 have hv1:=PLift.up (tF (z:=z) hA hN)
 have hv2:=PLift.up (tF (z:=z') hB hM)
 have hg:=PLift.up hg
 have hnb:=PLift.up P7
 have hd:=PLift.up (ahO (F:=F) (k:=k) (n:=n) (r:=b))
 have htk:(cR F).take (k*3)=cR F:=by rw[←hF,←lM];exact List.take_length
 have zx1:max (na:Int) (nb:Int)=(n:Int):=by omega
 clear hA hB
 unfold apA ap0 apS dC at hg
 rw[Qg] at hg
 unfold bS at hd
 unfold dgV apD
 refine ak Tryz.func79 Tryz.ntmps79 rfl ?_
 have zx2:=aC;have zx3:=aC;repeat' (first|((first|refine bI (r:=13) 0 ?_|refine bH (r:=13) 0 ?_);refine gQ ?_;intro K hK;refine hK _ _ ?_;clear hK K)|((first|refine bI (r:=13) 1 ?_|refine bH (r:=13) 1 ?_);refine gQ ?_;intro K hK;refine hK _ _ ?_;clear hK K)|((first|refine bI (r:=13) 2 ?_|refine bH (r:=13) 2 ?_);refine gQ ?_;intro K hK;refine hK _ _ ?_;clear hK K)|((first|refine bI (r:=13) 4 ?_|refine bH (r:=13) 4 ?_);refine gQ ?_;intro K hK;refine hK _ _ ?_;clear hK K)|refine zqN ?_|((first|refine ay rfl (fun K hK=>?_)|refine aj (fun K hK=>?_)|refine gM [10,8,9] (fun K hK=>?_));refine bq (f:=112) (dst:=some 48) [10,8,9,5,6,7] 6 false ?_;refine l8 ?_;refine⟨_,_,hg.down,?_⟩;refine gQ ?_;apply hK;clear hK K)|((first|refine ay rfl (fun K hK=>?_)|refine aj (fun K hK=>?_)|refine aA (fun K hK=>?_));(first|refine ah (f:=72) (dst:=some 15) [] 0 false ?_|refine ah (f:=72) (dst:=some 21) [] 0 false ?_|refine ah (f:=111) [] 0 false ?_|refine ah (f:=117) [5,6,11] 3 false ?_);refine l8 ?_;(first|refine⟨_,_,hv1.down,?_⟩|refine⟨_,_,hv2.down,?_⟩|refine⟨_,_,hnb.down,?_⟩|refine⟨_,_,hd.down,?_⟩);refine gQ ?_;apply hK;clear hK K)|refine bM ?_|refine bO ?_|(refine bP ?_ ?_<;>intro hc<;>try exact zqM)|refine zqR 13 [⟨0,[],[42,43,44,45,46,47,48],[8,9,10],[],0⟩,⟨1,[],[41,43,44,45,46,47,48],[8,9,10],[],0⟩,⟨2,[],[41,42,44,45,46,47],[],[],0⟩,⟨3,[],[41,42,43,46,47],[],[],0⟩,⟨4,[3],[41,42,43,46,47],[],[],0⟩,⟨5,[],[41,42,43,44,45],[],[],0⟩,⟨6,[5],[41,42,43,44,45],[],[],0⟩,⟨7,[2,3,4,5,6],[41,42],[],[8,9,10],1⟩,⟨8,[0,1,2,3,4,5,6,7],[],[],[8,9,14],0⟩,⟨9,[0,1,2,3,4,5,6,7,8],[],[],[2],0⟩,⟨10,[0,1,2,3,4,5,6,7,8,9],[],[],[],0⟩] ?_|refine zqD ?_|fail)
 all_goals first
  |(((refine Ends.frz 11 ?_;simp-dsimp(disch:=try exact vD) only[push_cast,simprocAttr,Tryz.f79,hF,htk];(repeat refine aI ?_);intro K hK;refine hK _ _ ?_;clear hK K);refine Ends.mk2 zqI [] ?_;simp-dsimp(disch:=try exact vD) only[push_cast,simprocAttr,Tryz.f79,hF,htk];try exact zqF);done)
  |skip
theorem Zv{r':Nat}(hA:DOk na A r)(hB:DOk nb B r')(hmx:max na nb=n)(h1:1≤op)(h4:op≤4):ACall Tryz.prog 79 [.val (.int .i64 op),rgV z na (A.map fk) r,rgV z' nb (B.map fk) r'] [] 0 (.tup [dgV ((fC n fun t=>opB op (aG A t r) (aG B t r')).1.length==0) n (fC n fun t=>opB op (aG A t r) (aG B t r')).1 (fC n fun t=>opB op (aG A t r) (aG B t r')).2,.val (.int .i64 0)]) []:=by
 have gA:=hA.good.mono (m:=n) (by omega)
 have gB:=hB.good.mono (m:=n) (by omega)
 have hn:n≤16:=by have:=hA.n12;have:=hB.n12;omega
 have hg:=Zr (z:=z) (z':=z') (na:=na) (nb:=nb) (q:=r) (q':=r') gA gB rfl rfl (by have:=hA.few;omega) (by have:=hB.few;omega) hn h1 h4 hA.lt hB.lt
 have hm:=aci (Ip (op:=opB op) gA gB) (x:=(r,r')) (k:=r+r'+1) ⟨hA.lt,hB.lt⟩ (Nat.lt_succ_self _)
 have e:(fun t=>opB op (aG A t r) (aG B t r'))=(fV (opB op) A B n).φ (r,r'):=rfl
 rw[e,hm]
 rw[←mP,←mP]
 generalize mgr (fV (opB op) A B n) (r+r'+1) (r,r') ([],[])=R at hg
 obtain⟨⟨F,K⟩,b⟩:=R
 dsimp only at hg⊢
 rw[oA_0] at hg
 by_cases hF:F=[]
 ·subst hF;exact Zt hA hB rfl rfl hmx h1 h4 hg
 ·rw[MG hF] at hg
  have hb:(F.length==0)=false:=by
   have:=List.length_pos_iff.2 hF
   simp;omega
  rw[hb]
  exact Zu hA hB rfl rfl hmx h1 h4 rfl hg
end
section
open Go Go.Sy Go.Lm Go.Rt Go.Dg
attribute [local irreducible] AO AL AC OpT ACall Ends DGo bK Thn Blk Nxt
section
variable {n N K k i m j r s up N1 N2 r1 r2:Nat} {z zs zt zp z1 z2:Bool} {ss:List Nat} {ps ts:List RV} {F F1 F2:List Fo} {X:RV} {p site:Nat→Rat} {d dt:Nat→Nat} {c x:Rat} {e:Int} {tab:Nat→Bool}
theorem Pp:1-Pr p n (fun t=> !tab t)=Pr p n tab:=by rw[Yx];grind
theorem ael(hD1:DOk n F1 r1)(hN1:F1.length=N1)(hD2:DOk n F2 r2)(hN2:F2.length=N2)(h9:n≤9)(g:Gd ps p d n):
 ACall Tryz.prog 38 [dI z1 n (F1.map fk) N1 r1,dI z2 n (F2.map fk) N2 r2,.isl zp (cR ps) n] [] 0 (.tup [.agg (aa.cells (rC (Pr p n fun t=>aG F1 t r1))),.agg (aa.cells (rC (Pr p n fun t=>aG F2 t r2))),.agg (aa.cells (rC (Pr p n fun t=>aG F1 t r1&&aG F2 t r2))),.val (.int .i64 0)]) []:=by
 have hop:∀a b,opB 1 a b=(a&&b):=fun a b=>by cases a<;>cases b<;>rfl
 obtain⟨⟨D,w⟩,he⟩:∃R,(fC n fun t=>opB 1 (aG F1 t r1) (aG F2 t r2))=R:=⟨_,rfl⟩
 have hfn:∀t,t<2^n→aG D t w=(aG F1 t r1&&aG F2 t r2):=fun t ht=>by
  have:=(JF (n:=n) (tab:=fun t=>opB 1 (aG F1 t r1) (aG F2 t r2))).val t ht
  rw[he] at this;rw[this,hop]
 have hD3:DOk n D w:=by
  have:=nD (n:=n) (tab:=fun t=>opB 1 (aG F1 t r1) (aG F2 t r2)) h9
  rw[he] at this;exact this
 have ha:=Zv (z:=z1) (z':=z2) hD1 hD2 (Nat.max_self n) (op:=1) (by omega) (by omega)
 rw[he,←mP,←mP] at ha
 unfold dgV at ha
 rw[hN1,hN2] at ha
 have h12:=hD1.n12
 have n1:=uj (cu (jo (tab:=fun t=> !aG F1 t r1) g.cs h12))
 have n2:=uj (cu (jo (tab:=fun t=> !aG F2 t r2) g.cs h12))
 have n3:=uj (cu (jo (tab:=fun t=> !aG D t w) g.cs h12))
 rw[←eF,Pp] at n1 n2 n3
 rw[Mo (tab:=fun t=>aG D t w) (fun j _=>rfl) hfn] at n3
 rw[←gV (F:=D)] at ha
 have f3:=nH (z:=(D.length==0)) (zp:=zp) (N:=D.length) hD3 rfl g.len g.cs g.pq
 refine aji (z3:=(D.length==0)) (iN hD1 hN1) (iN hD2 hN2) (g.probs1 (by omega)) ?_ (nH hD1 hN1 g.len g.cs g.pq) n1 (nH hD2 hN2 g.len g.cs g.pq) n2 f3 n3
 unfold dI
 rw[gV,gV];exact ha
theorem MH(hD:DOk n F r)(hN:F.length=N):ACall Tryz.prog 78 [dI z n (F.map fk) N r] [] 0 (.isl false (cB (fD (fun t=>aG F t r) (2^n))) (2^n)) []:=by
 have h12:=hD.n12;have hf:=hD.few;have hlt:=hD.lt
 have h:=yB (z:=z) (r:=r) (by omega) hD.bnd hD.v16 hN (by omega) (by omega) (rfl:2^n=2^n)
 rw[show lT F r (2^n)=fD (fun t=>aG F t r) (2^n) from rfl,←gV] at h
 exact h
theorem Zx(hv1:ACall Tryz.prog 50 [dI z1 n (F1.map fk) N1 r1] [] 0 (.val (.int .i64 0)) [])(hv2:ACall Tryz.prog 50 [dI z2 n (F2.map fk) N2 r2] [] 0 (.val (.int .i64 0)) [])(hD1:DOk n F1 r1)(hN1:F1.length=N1)(hD2:DOk n F2 r2)(hN2:F2.length=N2)(g:Gd ps p d n):
 ACall Tryz.prog 39 [dI z1 n (F1.map fk) N1 r1,dI z2 n (F2.map fk) N2 r2,.isl zp (cR ps) n] [] 0 (.tup [.agg (aa.cells (rC (Pr p n fun t=>aG F1 t r1))),.agg (aa.cells (rC (Pr p n fun t=>aG F2 t r2))),.agg (aa.cells (rC (Pr p n fun t=>aG F1 t r1&&aG F2 t r2))),.val (.int .i64 0)]) []:=by
 have h12:=hD1.n12
 have e:2^n≤2^12:=Nat.pow_le_pow_right (by omega) h12
 exact aej (f:=fun t=>aG F1 t r1) (g:=fun t=>aG F2 t r2) (Nat.two_pow_pos n) (by omega) hv1 hv2 (Kn hv1 (by omega) g) (MH hD1 hN1) (MH hD2 hN2)
  (vF g.len h12 g.cs g.pq) (vF g.len h12 g.cs g.pq) (vF (tab:=fun t=>aG F1 t r1&&aG F2 t r2) g.len h12 g.cs g.pq)
end
section
variable {N m R:Nat} {F:List Fo} {L:List Fk} {n r e:Int} {z:Bool}
theorem MI(h0:0≤n)(h12:n≤12)(hN:765<N)(hN2:N<2^47):ACall Tryz.prog 72 [dI z n L N r] [] 0 (.val (.int .i64 1)) []:=by
 unfold dI
 refine ak Tryz.func72 Tryz.ntmps72 rfl ?_
 repeat' (first|refine zqN ?_|refine aK ?_|refine aL ?_|(refine aM ?_ ?_<;>intro hc<;>try exact zqM))
 all_goals(refine Ends.mk2 zqI [] ?_;simp-dsimp(disch:=try exact vD) only[push_cast,simprocAttr,Tryz.f72];try exact zqF)
def rvM(z:Bool)(n q:Int)(L:List Fk)(N:Nat)(_:Unit):St:=
 ⟨78,0,[(1,.pt 0 0),(3,.val (.int .i64 0))],[(0,some (.cells [.val (.int .i64 n),.isl z (cR L) N,.val (.int .i64 q)] 29))]⟩
theorem xg(h0:0≤n)(h12:n≤12)(hN:L.length=N)(hN2:1000<N)(hN3:N<2^47):ACall Tryz.prog 50 [dI z n L N r] [] 0 (.val (.int .i64 1)) []:=by
 obtain⟨x,zx1⟩:∃x,L.getD 0 default=x:=⟨_,rfl⟩
 obtain⟨v,lo,hi⟩:=x
 unfold dI
 refine ak Tryz.func50 Tryz.ntmps50 rfl ?_
 have zx2:= @lU;have zx3:=aC;repeat' (first|(refine ai ?_;refine au [0] ([0].length) (rvM z n r L N) (fun _=>0) (()) rfl (by unfold rvM;exact eQ) ?_;(rintro⟨⟩;(simp-dsimp only[rvM];refine zqS ?_)))|refine zqN ?_|refine bM ?_|refine bO ?_|(refine bP ?_ ?_<;>intro hc<;>try exact zqM)|refine zqR 9 [⟨0,[],[],[],[],0⟩,⟨1,[0],[],[],[],0⟩,⟨2,[0,1],[],[],[],0⟩,⟨3,[0,1,2],[],[],[],0⟩,⟨4,[0,1,2,3],[70,71,72,73,74],[],[],0⟩,⟨5,[0,1,2,3],[69,72,73],[],[],0⟩,⟨6,[0,1,2,3,5],[69,72,73],[],[],0⟩,⟨7,[0,1,2,3],[69,70,71],[],[],0⟩,⟨8,[0,1,2,3,7],[69,70,71],[],[],0⟩,⟨9,[0,1,2,3,5,6,7,8],[69],[],[],0⟩,⟨10,[0,1,2,3,4,5,6,7,8,9],[],[],[],0⟩,⟨11,[0,1,2,3,4,5,6,7,8,9,10],[],[],[],0⟩,⟨12,[0,1,2,3,4,5,6,7,8,9,10,11],[],[],[],0⟩] ?_|refine zqD ?_|fail)
 all_goals(refine Ends.mk2 zqI [] ?_;simp-dsimp(disch:=try exact vD) only[push_cast,simprocAttr,Tryz.f50];try exact zqF)
theorem MJ(h:¬VOk m L r)(hN:L.length=N)(hm:m≤12)(hN2:N<2^47):ACall Tryz.prog 72 [dI z m L N r] [] 0 (.val (.int .i64 1)) []:=by
 by_cases hk:N≤765
 ·exact YO h hN hm hk
 ·exact MI (by omega) (by omega) (by omega) hN2
theorem Pq(h:¬VOk m L r)(hN:L.length=N)(hm:m≤9)(hN2:N<2^47)(hr63:r<2^63):ACall Tryz.prog 50 [dI z m L N r] [] 0 (.val (.int .i64 1)) []:=by
 by_cases hk:1000<N
 ·exact xg (by omega) (by omega) hN hk hN2
 ·exact TR h hN hm (by omega) hr63
theorem Pt(hN:L.length=N)(hm:m≤12)(hN2:N<2^47)(hr63:r<2^63):∃e:Int,(e=0∨e=1)∧ACall Tryz.prog 50 [dI z m L N r] [] 0 (.val (.int .i64 e)) []:=by
 by_cases hk:1000<N
 ·exact⟨1,.inr rfl,xg (by omega) (by omega) hN hk hN2⟩
 by_cases hb:∀j,j<N→RfI m L j
 ·by_cases hr:r<0
  ·exact⟨1,.inr rfl,wZ (by omega) (by omega) hN (by omega) hb hr⟩
  ·obtain⟨R,rfl⟩:=Int.eq_ofNat_of_zero_le (show 0≤r by omega)
   have hL:(L.map tof).map fk=L:=YK fun i hi=>⟨(hb i (by omega)).v0,(hb i (by omega)).l0,(hb i (by omega)).h0⟩
   obtain⟨F,hF⟩:∃F,L.map tof=F:=⟨_,rfl⟩
   rw[hF] at hL
   have hFN:F.length=N:=by rw[←hF,List.length_map,hN]
   have hbd:Bnd F:=fun k hk=>by
    have o:=hb k (by omega)
    have o1:=o.l1;have o2:=o.h1
    rw[←hL,fkL hk] at o1 o2
    have b1:((F.getD k default).lo:Int)<k+2:=o1
    have b2:((F.getD k default).hi:Int)<k+2:=o2
    omega
   have h16:∀k,k<F.length→(F.getD k default).v<16:=fun k hk=>by
    have o:=(hb k (by omega)).v1
    rw[←hL,fkL hk] at o
    have b1:((F.getD k default).v:Int)<m:=o
    omega
   have ht:=vz (z:=z) (R:=R) (by omega) hbd h16 hFN (by omega) (by omega) (rfl:2^m=2^m)
   have hf:=lV (n:=m) (tb:=lT F R (2^m)) (M:=2^m) (by omega) gU rfl
   rw[yA rfl] at hf
   obtain⟨⟨D,w⟩,hD⟩:∃X,(fC m fun t=>aG F t R)=X:=⟨_,rfl⟩
   rw[hD] at hf
   have heq:=EF (z:=z) (z':=(D.length==0)) (p:=(m:Int)) (p':=(m:Int)) (q:=(R:Int)) (q':=(w:Int)) (L:=F.map fk) (L':=D.map fk) (by rw[List.length_map];omega)
   obtain⟨b,hbe⟩:∃b,decide ((m:Int)=m∧(R:Int)=w∧F.map fk=D.map fk)=b:=⟨_,rfl⟩
   rw[hbe,←mP,←mP] at heq
   unfold dgV at heq hf
   have hx:=vC (z:=z) (L:=L) (b:=b) (show(0:Int)≤m by omega) (by omega) hN (by omega) hb (show(0:Int)≤(R:Int) by omega) (by unfold dI;rw[←hL,gV];exact ht) hf (by unfold dI;rw[←hL,gV,←hFN];exact heq)
   refine⟨_,?_,hx⟩
   cases b
   ·right;rfl
   ·left;rfl
 ·exact⟨1,.inr rfl,Bn (by omega) (by omega) hN (by omega) hb⟩
inductive Sml (z:Bool) (n:Int) (L:List Fk) (N:Nat) (r:Int):Prop
 |no (h:ACall Tryz.prog 18 [dI z n L N r] [] 0 (.val (.bool false)) [])
 |bad (e:Int) (hne:¬e=0) (h:ACall Tryz.prog 18 [dI z n L N r] [] 0 (.val (.bool true)) []) (hv:ACall Tryz.prog 72 [dI z n L N r] [] 0 (.val (.int .i64 e)) []) (hw:ACall Tryz.prog 50 [dI z n L N r] [] 0 (.val (.int .i64 e)) [])
 |good (m:Nat) (hm:m≤6) (F:List Fo) (R:Nat) (hn:n=m) (hL:L=F.map fk) (hr:r=R) (hD:DOk m F R) (hN:F.length=N) (h:ACall Tryz.prog 18 [dI z m (F.map fk) N R] [] 0 (.val (.bool true)) []) (hw:ACall Tryz.prog 50 [dI z m (F.map fk) N R] [] 0 (.val (.int .i64 0)) [])
theorem DR(hN:L.length=N)(hN2:N<2^47)(hr63:r<2^63):Sml z n L N r:=by
 by_cases hb:1010<N
 ·exact .no (TY hb hN2)
 ·by_cases hr:n<0∨12<n
  ·refine .bad 7 (by decide) ?_ (Kh hr) (uL hr)
   rcases hr with hr|hr
   ·exact Q4 (by omega) (by omega)
   ·have:=Kk (z:=z) (L:=L) (N:=N) (rt:=r) (by omega) (show 6<n by omega) (uL (.inr hr))
    exact this
  ·obtain⟨m,rfl⟩:=Int.eq_ofNat_of_zero_le (show 0≤n by omega)
   by_cases h6:m≤6
   ·have hs:=Q4 (z:=z) (L:=L) (rt:=r) (show N≤1010 by omega) (show(m:Int)≤6 by omega)
    by_cases hv:VOk m L r
    ·have hw:=yQ (z:=z) hv hN (by omega)
     obtain⟨F,R,rfl,rfl,hD⟩:=hv
     exact .good m h6 F R rfl rfl rfl hD (by rw[←hN,List.length_map]) hs hw
    ·exact .bad 1 (by decide) hs (MJ hv hN (by omega) hN2) (Pq hv hN (by omega) hN2 hr63)
   ·obtain⟨e,he,hw⟩:=Pt (z:=z) hN (show m≤12 by omega) (by omega) hr63
    have hs:=Kk (z:=z) (L:=L) (N:=N) (rt:=r) (by omega) (show(6:Int)<m by omega) hw
    by_cases hv:VOk m L r
    ·have hs:=Kk (z:=z) (L:=L) (N:=N) (rt:=r) (by omega) (show(6:Int)<m by omega) (yQ (z:=z) hv hN (by omega))
     exact .no hs
    ·rcases he with he|he
     ·subst he;exact .no hs
     ·subst he;exact .bad 1 (by decide) hs (MJ hv hN (by omega) hN2) hw
end
section
variable {N M L k i m np:Nat} {z zp:Bool} {ps:List RV} {L:List Fk} {X Y:RV} {n r e g s:Int} {F:List Fo}
structure ZP(zp:Bool)(ps:List RV)(np:Nat):Prop where
 len:ps.length=np
 lt:np<2^43
 z:zp=true→ps=[]
 x:∀i,i<np→RIn (ps.getD i default)
theorem ZP.rlen(h:ZP zp ps np):∀i,i<np→MP (ps.getD i default):=fun i hi=>⟨(h.x i hi).ln,(h.x i hi).ld⟩
theorem fT:ACall Tryz.prog 17 [.agg (aa.cells rZ),.agg (aa.cells rZ)] [] 0 (.val (.bool true)) []:=by
 have:=QI Yg Yg
 rw[yL] at this;exact this
end
end
section
open Go Go.Sy Go.Bp Go.Dg Go.Lm
theorem ajy{m:Int}(h:(Lit.int .u32 m).wf=true):0≤m∧m≤4294967295:=by
 simp only[Lit.wf,Bool.and_eq_true,decide_eq_true_eq,IntKind.min,IntKind.max] at h
 simpa[IntKind.bits,IntKind.signed] using h
theorem Uj{m:Nat} {av:List AV}(h:dO Tryz.prog m 33 av):∃(z:Bool) (l:List Int),av=[.isl z (cI .u32 l) l.length]∧R32 l∧l.length<2^47∧(z=true→l=[]):=by
 obtain⟨z,l,e,ho,hl,hz⟩:=lN (g:=fun(x:Int)=>[AV.val (.int .u32 x)]) (Q:=fun x=>0≤x∧x≤4294967295) (bn:=4) Tryz.underlying33 h (by kernel_rfl) (by decide) (fun n x hx=>by
  obtain⟨k,rfl,hk⟩:=gT Tryz.underlying115 hx
  exact⟨k,rfl,ajy hk⟩)
 rw[show l.flatMap (fun(x:Int)=>[AV.val (.int .u32 x)])=cI .u32 l from mo _ l] at e
 exact⟨z,l,e,ho,hl,hz⟩
theorem I4{m:Nat} {av:List AV}(h:dO Tryz.prog m 35 av):∃X:IV,av=aa.cells X∧R32 X.l∧(X.z=true→X.l=[])∧X.l.length<2^47:=by
 obtain⟨_,xs,rfl,hl,hx⟩:=jm Tryz.underlying35 h
 match xs,hl with
 |[a0,a1],_=>
  obtain⟨b0,rfl⟩:=Ii Tryz.underlying4 (hx 0 _ a0 rfl rfl)
  obtain⟨z,l,rfl,h1,h2,h3⟩:=Uj (hx 1 _ a1 rfl rfl)
  exact⟨⟨z,b0,l⟩,rfl,h1,h3,h2⟩
theorem Fw{m:Nat} {av:List AV}(h:dO Tryz.prog m 37 av):∃X:RV,av=aa.cells X∧RIn X:=by
 obtain⟨_,xs,rfl,hl,hx⟩:=jm Tryz.underlying37 h
 match xs,hl with
 |[a0,a1],_=>
  obtain⟨X,rfl,p1,p2,p3⟩:=I4 (hx 0 _ a0 rfl rfl)
  obtain⟨Y,rfl,q1,q2,q3⟩:=I4 (hx 1 _ a1 rfl rfl)
  exact⟨⟨X,Y⟩,rfl,p1,q1,p2,q2,p3,q3⟩
theorem Br{m:Nat} {av:List AV}(h:dO Tryz.prog m 31 av):∃(z:Bool) (l:List RV),av=[.isl z (cR l) l.length]∧ZP z l l.length:=by
 obtain⟨n,rfl|⟨xs,rfl,h1,h2⟩⟩:=u6 Tryz.underlying31 h
 ·exact⟨true,[],rfl,rfl,by decide,fun _=>rfl,fun i hi=>absurd hi (Nat.not_lt_zero i)⟩
 ·obtain⟨l,k1,k2⟩:=JD (R:=fun x a=>x=aa.cells a∧RIn a) xs (fun x hx'=>Fw (h1 x hx').2)
  refine⟨false,l,?_,rfl,?_,fun h=>(by cases h),fun i hi=>?_⟩
  ·rw[Dm (g:=aa.cells) xs l k1 (fun i x a hx ha=>(k2 i x a hx ha).1),k1];rfl
  ·have e:Tryz.prog.bytesOf 37=64:=by kernel_rfl
   rw[e] at h2
   rw[k1];unfold reachBytes at h2;omega
  ·rw[List.getD_eq_getElem?_getD,List.getElem?_eq_getElem hi]
   exact(k2 i _ _ (List.getElem?_eq_getElem (by omega)) (List.getElem?_eq_getElem hi)).2
end
set_option maxRecDepth 100000
section
open Go
theorem FH:Rows.failurePairRow.wf (OpenSpec.ofChange Rows.failurePairSpec)=true:=by kernel_rfl
theorem FI:Tryz.f11.params.all (Tryz.prog.readableRec ·)=true:=by kernel_rfl
theorem FJ:namedTie Tryz.prog Rows.failurePairRow.named Rows.failurePairSpec.vars=true:=by kernel_rfl
theorem FK:(Rows.failurePairRow.stops==[])=true:=by kernel_rfl
theorem FL:(Rows.failurePairRow.knobs==[])=true:=by kernel_rfl
theorem FM:(Rows.failurePairRow.inPlace==Tryz.prog.inPlace 11)=true:=by kernel_rfl
theorem Cw:(Rows.failurePairRow.unfollowed==Tryz.prog.unfollowed 11)=true:=by kernel_rfl
theorem Cx:(Rows.failurePairRow.recurses==Tryz.prog.recurses 11)=true:=by kernel_rfl
theorem Cy:(Rows.failurePairRow.named==Tryz.prog.varsNamed 11)=true:=by kernel_rfl
theorem Cz:(Rows.failurePairRow.maps==(Tryz.f11.params.toList++Rows.failurePairSpec.plain.varTypes Tryz.prog).any (Tryz.prog.mapsRec ·))=true:=by kernel_rfl
theorem CB:(Rows.failurePairRow.ifaces==(Tryz.f11.params.toList++Rows.failurePairSpec.plain.varTypes Tryz.prog).any (Tryz.prog.ifacesRec ·))=true:=by kernel_rfl
theorem CE:(Rows.failurePairRow.mapsOut==Tryz.prog.mapsAmong Tryz.f11.resultTypes.toList)=true:=by kernel_rfl
theorem CF:(Rows.failurePairRow.loops==(Tryz.f11.params.toList++Rows.failurePairSpec.plain.varTypes Tryz.prog).any (Tryz.prog.loopsFrom ·))=true:=by kernel_rfl
theorem CG:(Rows.failurePairRow.wideKeys==(Tryz.f11.params.toList++Rows.failurePairSpec.plain.varTypes Tryz.prog++Tryz.f11.resultTypes.toList).any (Tryz.prog.wideKeysFrom ·))=true:=by kernel_rfl
theorem CJ:Rows.failurePairSpec.vars.all (Tryz.prog.varReadable ·)=true:=by kernel_rfl
theorem CK:Tryz.f11.resultTypes.all (fun t=>Tryz.prog.readableRec t&&decide (t<Tryz.prog.types.size))=true:=by kernel_rfl
theorem CO:(Rows.failurePairRow.ifacesOut==Tryz.f11.resultTypes.toList.any (Tryz.prog.ifacesRec ·))=true:=by kernel_rfl
theorem CP:(Rows.failurePairRow.loopsOut==Tryz.f11.resultTypes.toList.any (Tryz.prog.loopsFrom ·))=true:=by kernel_rfl
theorem CQ:(Rows.failurePairRow.plainKeys==Tryz.prog.plainKeys)=true:=by kernel_rfl
theorem CS:Rows.failurePairRow.shortTexts.isNone=true:=by kernel_rfl
theorem CU:(Rows.failurePairRow.lifted==Tryz.prog.liftsFinal)=true:=by kernel_rfl
theorem CV:(Tryz.prog.make==some Rows.failurePairRow.make)=true:=by kernel_rfl
theorem CW:(Rows.failurePairRow.kinds==(if Rows.failurePairRow.domain.isEmpty then [] else Tryz.f11.params.toList.map fun t=>match Tryz.prog.underlying t with|some (.int k)=>some k|_=>none))=true:=by kernel_rfl
theorem CX:(Rows.failurePairRow.pinned==Rows.failurePairRow.pinnedBy)=true:=by kernel_rfl
theorem CY:(Rows.failurePairRow.veiled==(Tryz.f11.params.toList++Rows.failurePairSpec.plain.varTypes Tryz.prog++Tryz.f11.resultTypes.toList).any (Tryz.prog.veiledRec ·))=true:=by kernel_rfl
theorem CZ:Rows.failurePairRow.veiledFits Tryz.prog Tryz.f11.params.toList (Tryz.f11.params.toList++Rows.failurePairSpec.plain.varTypes Tryz.prog++Tryz.f11.resultTypes.toList)=true:=by kernel_rfl
theorem C8:joinedFacts Tryz.prog 11 Tryz.f11 Rows.failurePairSpec Rows.failurePairRow=true:=by
 simp only[joinedFacts,Bool.and_eq_true]
 exact⟨⟨⟨⟨⟨⟨⟨⟨⟨⟨⟨⟨⟨⟨⟨⟨⟨⟨⟨⟨⟨⟨⟨⟨⟨⟨⟨⟨⟨⟨⟨FH,nI⟩,nJ⟩,FI⟩,FJ⟩,FK⟩,nK⟩,FL⟩,nL⟩,FM⟩,Cw⟩,Cx⟩,Cy⟩,Cz⟩,CB⟩,CE⟩,CF⟩,CG⟩,CJ⟩,CK⟩,CO⟩,CP⟩,CQ⟩,CS⟩,kN⟩,kQ⟩,CU⟩,CV⟩,CW⟩,CX⟩,CY⟩,CZ⟩
theorem failurePair_nam:Tryz.pinned.checked.prog.funcNamed Rows.failurePairRow.func=some 11:=by kernel_rfl
theorem C9:Tryz.f11.isInstance Tryz.pinned.checked.prog Rows.failurePairRow.origin Rows.failurePairRow.targs:=of_decide_eq_true (by kernel_rfl)
theorem Da:Tryz.f11.isWrapper Tryz.pinned.checked.prog Rows.failurePairRow.wrapper Rows.failurePairRow.mainSum:=by unfold Func.isWrapper;first|(rw[if_pos (by decide+kernel)];kernel_rfl)|(rw[if_neg (by decide+kernel)];exact⟨rfl,rfl⟩)
theorem Db:Rows.failurePairRow.wfByText (OpenSpec.ofChange Rows.failurePairSpec)=true:=by kernel_rfl
theorem Dc:Tryz.pinned.checked.prog.mainIs=some (true, "6c6ed28039965d1e05ce70114d4f84b00907715979fcf266077e3121104a4804".toList):=by kernel_rfl
theorem De:false=Tryz.pinned.checked.prog.looks []:=by kernel_rfl
theorem Df:([29,29,31].all fun u=> !Tryz.prog.wantsStandIn u)=true:=by kernel_rfl
theorem Dh:false=Rows.failurePairRow.goesBy Tryz.pinned.checked.prog:=by kernel_rfl
end
