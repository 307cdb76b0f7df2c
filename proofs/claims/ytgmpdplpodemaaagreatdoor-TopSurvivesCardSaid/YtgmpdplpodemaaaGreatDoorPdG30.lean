/- Pd3_0 Pd3_1 Pd3_2. No condition. -/
import Derived.Test.YtgmpdplpodemaaaGreatDoorLaG3
set_option linter.all false
set_option maxHeartbeats 20000000
set_option maxRecDepth 20000
namespace Go.Proofs.YtgmpdplpodemaaaGreatDoor
section
open Go Go.Sy Go.Bp Go.Lm Go.Rt
attribute [local irreducible] AO AL AC OpT ACall Ends DGo aN Thn Blk Nxt
def yx(n W k:Nat)(b:List Int)(p:RV)(d:Nat→RV)(Rw:Nat→List RV)(j:{j:Nat // j≤W}):St:=
 ⟨148,7,[(0,.pt 0 0),(1,.val (.int .i64 0)),(2,.val (.int .i64 k)),(6,.pt 7 0),(29,.val (.int .i64 W)),(30,.val (.int .i64 j.val))],
   [(0,some (.cells [.val (.int .i64 3),.val (.int .i64 n),.sl 1 0 4 1,.sl 2 0 3 1,.val (.int .i64 0)] 197)),(1,some (.cells [.sl 3 0 W 4,.sl 4 0 W 4,.sl 5 0 W 4,.sl 6 0 W 4] 103)),(2,some (.cells (cI .i64 b) 3)),(3,some (.cells (cR (dvL (Rw 0) d j.val)) 60)),(4,some (.cells (cR (Rw 1)) 60)),(5,some (.cells (cR (Rw 2)) 60)),(6,some (.cells (cR (Rw 3)) 60)),(7,some (.cells [.val (.bool p.num.neg),.isl p.num.z (cI .u32 p.num.l) p.num.l.length,.val (.bool p.den.neg),.isl p.den.z (cI .u32 p.den.l) p.den.l.length] 60))]⟩
def fV(n W k:Nat)(b:List Int)(New Rw:Nat→List RV)(r:{r:Nat // r≤4}):St:=
 ⟨148,7,[(0,.pt 0 0),(1,.val (.int .i64 0)),(2,.val (.int .i64 k)),(63,.val (.int .i64 4)),(64,.val (.int .i64 r.val))],
   [(0,some (.cells [.val (.int .i64 3),.val (.int .i64 n),.sl 1 0 4 1,.sl 2 0 3 1,.val (.int .i64 0)] 197)),(1,some (.cells [.sl 3 0 W 4,.sl 4 0 W 4,.sl 5 0 W 4,.sl 6 0 W 4] 103)),(2,some (.cells (cI .i64 b) 3)),(3,some (.cells (cR (New 0)) 60)),(4,some (.cells (cR (if 1<r.val then New 1 else(Rw 1))) 60)),(5,some (.cells (cR (if 2<r.val then New 2 else(Rw 2))) 60)),(6,some (.cells (cR (if 3<r.val then New 3 else(Rw 3))) 60))]⟩
end
section
open Go Go.Sy Go.Bp Go.Lm Go.Rt
attribute [local irreducible] AO AL AC OpT ACall Ends DGo aN Thn Blk Nxt
def yz(n W k:Nat)(b:List Int)(p:RV)(d:Nat→RV)(Rw:Nat→List RV)(j:{j:Nat // j≤W}):St:=
 ⟨148,7,[(0,.pt 0 0),(1,.val (.int .i64 1)),(2,.val (.int .i64 k)),(6,.pt 7 0),(29,.val (.int .i64 W)),(30,.val (.int .i64 j.val))],
   [(0,some (.cells [.val (.int .i64 3),.val (.int .i64 n),.sl 1 0 4 1,.sl 2 0 3 1,.val (.int .i64 0)] 197)),(1,some (.cells [.sl 3 0 W 4,.sl 4 0 W 4,.sl 5 0 W 4,.sl 6 0 W 4] 103)),(2,some (.cells (cI .i64 b) 3)),(3,some (.cells (cR (Rw 0)) 60)),(4,some (.cells (cR (dvL (Rw 1) d j.val)) 60)),(5,some (.cells (cR (Rw 2)) 60)),(6,some (.cells (cR (Rw 3)) 60)),(7,some (.cells [.val (.bool p.num.neg),.isl p.num.z (cI .u32 p.num.l) p.num.l.length,.val (.bool p.den.neg),.isl p.den.z (cI .u32 p.den.l) p.den.l.length] 60))]⟩
def fZ(n W k:Nat)(b:List Int)(New Rw:Nat→List RV)(r:{r:Nat // r≤4}):St:=
 ⟨148,7,[(0,.pt 0 0),(1,.val (.int .i64 1)),(2,.val (.int .i64 k)),(63,.val (.int .i64 4)),(64,.val (.int .i64 r.val))],
   [(0,some (.cells [.val (.int .i64 3),.val (.int .i64 n),.sl 1 0 4 1,.sl 2 0 3 1,.val (.int .i64 0)] 197)),(1,some (.cells [.sl 3 0 W 4,.sl 4 0 W 4,.sl 5 0 W 4,.sl 6 0 W 4] 103)),(2,some (.cells (cI .i64 b) 3)),(3,some (.cells (cR (if 0<r.val then New 0 else(Rw 0))) 60)),(4,some (.cells (cR (New 1)) 60)),(5,some (.cells (cR (if 2<r.val then New 2 else(Rw 2))) 60)),(6,some (.cells (cR (if 3<r.val then New 3 else(Rw 3))) 60))]⟩
end
section
open Go Go.Sy Go.Bp Go.Lm Go.Rt
attribute [local irreducible] AO AL AC OpT ACall Ends DGo aN Thn Blk Nxt
def yA(n W k:Nat)(b:List Int)(p:RV)(d:Nat→RV)(Rw:Nat→List RV)(j:{j:Nat // j≤W}):St:=
 ⟨148,7,[(0,.pt 0 0),(1,.val (.int .i64 2)),(2,.val (.int .i64 k)),(6,.pt 7 0),(29,.val (.int .i64 W)),(30,.val (.int .i64 j.val))],
   [(0,some (.cells [.val (.int .i64 3),.val (.int .i64 n),.sl 1 0 4 1,.sl 2 0 3 1,.val (.int .i64 0)] 197)),(1,some (.cells [.sl 3 0 W 4,.sl 4 0 W 4,.sl 5 0 W 4,.sl 6 0 W 4] 103)),(2,some (.cells (cI .i64 b) 3)),(3,some (.cells (cR (Rw 0)) 60)),(4,some (.cells (cR (Rw 1)) 60)),(5,some (.cells (cR (dvL (Rw 2) d j.val)) 60)),(6,some (.cells (cR (Rw 3)) 60)),(7,some (.cells [.val (.bool p.num.neg),.isl p.num.z (cI .u32 p.num.l) p.num.l.length,.val (.bool p.den.neg),.isl p.den.z (cI .u32 p.den.l) p.den.l.length] 60))]⟩
def gp(n W k:Nat)(b:List Int)(New Rw:Nat→List RV)(r:{r:Nat // r≤4}):St:=
 ⟨148,7,[(0,.pt 0 0),(1,.val (.int .i64 2)),(2,.val (.int .i64 k)),(63,.val (.int .i64 4)),(64,.val (.int .i64 r.val))],
   [(0,some (.cells [.val (.int .i64 3),.val (.int .i64 n),.sl 1 0 4 1,.sl 2 0 3 1,.val (.int .i64 0)] 197)),(1,some (.cells [.sl 3 0 W 4,.sl 4 0 W 4,.sl 5 0 W 4,.sl 6 0 W 4] 103)),(2,some (.cells (cI .i64 b) 3)),(3,some (.cells (cR (if 0<r.val then New 0 else(Rw 0))) 60)),(4,some (.cells (cR (if 1<r.val then New 1 else(Rw 1))) 60)),(5,some (.cells (cR (New 2)) 60)),(6,some (.cells (cR (if 3<r.val then New 3 else(Rw 3))) 60))]⟩
end
