/-
  A contract of a function that the claim's statement reaches (part 59).
  Conditions: as the theorem says.
-/
import Derived.Test.YtgbdljlapmjmnaaGreatDoorRlB9
import Derived.Test.YtgbdljlapmjmnaaGreatDoorRlB10
set_option maxRecDepth 100000
set_option maxHeartbeats 16000000
namespace Go.Proofs.YtgbdljlapmjmnaaGreatDoor
section
open Go.RowKit
attribute [local go_sem ↓] Go.wp_at_zero Go.wp_at_succ
namespace Oq
attribute [local go_sem] Bool.not_false Bool.not_true
attribute [local go_sem ↓] Fp Rr
def OpL.q1 (x:OpL):Bool:=!((x.dev !=0)&& !(x.kind==2)&& !(x.kind==3)&& !(x.kind==11)&& !(x.kind==13))
def OpL.q2 (x:OpL):Bool:=!(((x.old !=0)&& !(x.kind==13))||((x.mem !=0)&& !(x.kind==3)&& !(x.kind==5))||((x.role !=0)&& !(x.kind==2)&& !(x.kind==5)))
def OpL.q3 (x:OpL):Bool:=!(decide (0<x.path.length)&& !Fk x.kind)
def OpL.q4 (x:OpL):Bool:=!(!(x.kind==6)&&((!Id.eq x.epoch Id.zero)||(x.n !=0)||decide (0<x.refs.length)))
def OpL.q5 (x:OpL):Bool:=!((decide (0<x.body.length)&& !(x.kind==6)&& !(x.kind==7))||((!Id.eq x.of Id.zero)&& !Fq x.kind))
def OpL.q6 (x:OpL):Bool:=!(!(x.kind==9)&&(decide (0<x.guards.length)||(x.wait !=0)||((x.pub:Int) !=0)))
def OpL.q7 (x:OpL):Bool:=!(((x.need !=0)&& !(x.kind==9)&& !(x.kind==1))||(decide (0<x.boxes.length)&& !(x.kind==9)&& !(x.kind==10)&& !(x.kind==11)))
def OpL.q8 (x:OpL):Bool:=(((x.hist.length:Int)==0)||(x.kind==2)||(x.kind==13))
end Oq
end
end Go.Proofs.YtgbdljlapmjmnaaGreatDoor
