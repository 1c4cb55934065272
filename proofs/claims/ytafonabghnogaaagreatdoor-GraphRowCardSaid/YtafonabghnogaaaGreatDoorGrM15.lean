/-
  Contracts of the functions that the claim's statement reaches, walked one by one (part 15).
  Conditions: as each theorem says.
-/
import Derived.Test.YtafonabghnogaaaGreatDoorGrM10
import Derived.Test.YtafonabghnogaaaGreatDoorGrM11
import Derived.Test.YtafonabghnogaaaGreatDoorGrM12
import Derived.Test.YtafonabghnogaaaGreatDoorGrM13
import Derived.Test.YtafonabghnogaaaGreatDoorGrM14
import Derived.Test.YtafonabghnogaaaGreatDoorGrM19
set_option maxRecDepth 100000
set_option maxHeartbeats 16000000
open Bool renaming and_eq_true→Al6,not_false→Al8,not_true→Al9
open Int renaming lt_or_le→Am2
open List renaming getElem?_eq_getElem→Al1,map_append→Al2,take_of_length_le→Al3,mem_of_getElem?→Al5,mem_singleton→Al7,take_succ_cons→Am0,getElem?_map→Am1,flatMap_append→Am5,flatMap_cons→Am6,flatMap_nil→Am7
open Nat renaming lt_or_ge→Al4,not_lt_zero→Am3
open Go.World renaming size_alloc→Am4
namespace Go.Proofs.YtafonabghnogaaaGreatDoor
namespace Oq
theorem Ae7 (x:OpL):x.bareR=x.op.bareB:=by
 rw [Qn]
 unfold OpL.bareR OpL.q1 OpL.q2 OpL.q3 OpL.q4 OpL.q5 OpL.q6 OpL.q7 OpL.q8
 simp only [OpL.presB,Bh]
 generalize (x.dev !=0)=a0
 generalize (x.old !=0)=a1
 generalize (x.mem !=0)=a2
 generalize (x.role !=0)=a3
 generalize decide (0<x.path.length)=a4
 generalize (!Id.eq x.epoch Id.zero)=a5
 generalize (x.n !=0)=a6
 generalize decide (0<x.body.length)=a7
 generalize decide (0<x.refs.length)=a8
 generalize (!Id.eq x.of Id.zero)=a9
 generalize decide (0<x.guards.length)=a10
 generalize (x.need !=0)=a11
 generalize (x.wait !=0)=a12
 generalize decide (0<x.boxes.length)=a13
 generalize ((x.pub:Int) !=0)=a14
 have e15:((x.hist.length:Int)==0)=!decide (0<x.hist.length):=by rw [Bool.eq_iff_iff];simp
 rw [e15]
 generalize decide (0<x.hist.length)=a15
 generalize Dy x.kind=kc
 generalize Co x.kind=ko
 generalize (x.kind==1)=k1'
 generalize (x.kind==2)=k2
 generalize (x.kind==3)=k3
 generalize (x.kind==5)=k5
 generalize (x.kind==6)=k6
 generalize (x.kind==7)=k7
 generalize (x.kind==9)=k9
 generalize (x.kind==10)=k10
 generalize (x.kind==11)=k11
 generalize (x.kind==13)=k13
 have r1:∀a b c d e:Bool,(!(a&& !b&& !c&& !d&& !e))=(!a||(b||c||d||e)):=by decide
 have r2:∀a b c d e f g:Bool,(!((a&& !b)||(c&& !d&& !e)||(f&& !g&& !e)))=((!a||b)&&((!c||(d||e))&&(!f||(g||e)))):=by decide
 have r3:∀a b:Bool,(!(a&& !b))=(!a||b):=by decide
 have r4:∀a b c d:Bool,(!(!a&&(b||c||d)))=((!b||a)&&((!c||a)&&(!d||a))):=by decide
 have r5:∀a b c d e:Bool,(!((a&& !b&& !c)||(d&& !e)))=((!a||(b||c))&&(!d||e)):=by decide
 have r7:∀a b c d e f:Bool,(!((a&& !b&& !c)||(d&& !b&& !e&& !f)))=((!a||(b||c))&&(!d||(b||e||f))):=by decide
 have r8:∀a b c:Bool,(!a||b||c)=(!a||(b||c)):=by decide
 rw [r1,r2,r3,r4,r5,r4,r7,r8]
 ac_rfl
end Oq
section
open Go.RowKit
attribute [local go_sem ↓] Go.wp_at_zero Go.wp_at_succ
namespace Oq
attribute [local go_sem] Al8 Al9
theorem Ae8 (x:OpL) (w:World) (hat:x.at w w.heap.size) (hok:x.op.ok):Calls Tryz.prog 112 #[.agg x.cells] w (Af x.op.longB w):=by
 have hb0:=Blk.new w 44 x.cells
 have f0:Fr Non w (w.alloc (.cells x.cells 44)):=(Fr.refl Non w).alloc _
 have c2:(w.alloc (.cells x.cells 44)).cell? ⟨w.heap.size,2,none⟩=some (.int .i64 x.kind):=hb0.cell 2
 have c4:(w.alloc (.cells x.cells 44)).cell? ⟨w.heap.size,4,none⟩=some (.slice x.pastA x.past.length x.pastC):=hb0.cell 4
 have c9:(w.alloc (.cells x.cells 44)).cell? ⟨w.heap.size,9,none⟩=some (.slice x.pathA x.path.length x.pathC):=hb0.cell 9
 have c14:(w.alloc (.cells x.cells 44)).cell? ⟨w.heap.size,14,none⟩=some (.slice x.bodyA x.body.length x.bodyC):=hb0.cell 14
 have c15:(w.alloc (.cells x.cells 44)).cell? ⟨w.heap.size,15,none⟩=some (.slice x.refsA x.refs.length x.refsC):=hb0.cell 15
 have c19:(w.alloc (.cells x.cells 44)).cell? ⟨w.heap.size,19,none⟩=some (.slice x.guardsA x.guards.length x.guardsC):=hb0.cell 19
 have c22:(w.alloc (.cells x.cells 44)).cell? ⟨w.heap.size,22,none⟩=some (.slice x.boxesA x.boxes.length x.boxesC):=hb0.cell 22
 have c24:(w.alloc (.cells x.cells 44)).cell? ⟨w.heap.size,24,none⟩=some (.slice x.histA x.hist.length x.histC):=hb0.cell 24
 have lpath:x.path.length≤1000000:=by have h:=hok.path.1;rw [show x.op.path=x.path.map NdL.nd from rfl,List.length_map] at h;omega
 have lhist:x.hist.length≤1000000:=by have h:=hok.hist.1;rw [show x.op.hist=x.hist.map SlL.sl from rfl,List.length_map] at h;omega
 have rp:=hat.path.1.fr f0 zr
 have rh:=hat.hist.1.fr f0 zr
 have ki1:=Lib.hid (fun w'=>Ga x.body.length 1 20 w')
 have ki2:=Lib.hid (fun w'=>Ga x.boxes.length 1 6 w')
 have hfin:=Lib.hid (Qq x)
 generalize x.op.longB=LB at*
 generalize inR (x.body.length:Int) 1 20=i7 at*
 generalize inR (x.boxes.length:Int) 1 6=i10 at*
 obtain ⟨n2,hn2⟩:=Aa x.path.length
 obtain ⟨n5,hn5⟩:=Aa x.hist.length
 rw [hn2.out] at rp lpath c9 hfin
 rw [hn5.out] at rh lhist c24 hfin
 generalize x.past.length=n1 at*
 generalize x.body.length=n3 at*
 generalize x.refs.length=n4 at*
 generalize x.guards.length=n6 at*
 generalize x.boxes.length=n7 at*
 generalize x.kind=kd at*
 generalize x.cells=CS at*
 clear hb0 hat hok
 go_enter Tryz.func112,Tryz.ntmps112
 go_upto_region 1 with (fail)
 generalize w.alloc (.cells CS 44)=w0 at*
 go_wp2
 go_loopw [3] (fun v wr=>∃k:Nat,v=.int .i64 (k:Int)∧k≤n2∧Hid (((x.path.take k).all fun y=>decide (y.xs.length≤12))=true)∧w0=wr) (fun v _=>n2-(intOf v).toNat)
 case atStart=>exact ⟨0,rfl,by omega,rfl,rfl⟩
 case round=>
  obtain ⟨k,rfl,hk,hh,rfl⟩:=hrel
  by_cases hlt:k<n2
  ·
   have i1:(0:Int)≤k:=by omega
   have i2:(k:Int)<n2:=by omega
   have i3:(k:Int).toNat=k:=by omega
   obtain ⟨y,hy⟩:∃y,x.path[k]? =some y:=⟨_,Al1 (by rw [hn2.out];exact hlt)⟩
   obtain ⟨b,off,hA,hbB,k0,k1⟩:=NdL.el rp hy
   rw [hA] at c9
   have hmem:=Al5 hy
   have hsn:Hid (((x.path.take (k+1)).all fun y=>decide (y.xs.length≤12))=(((x.path.take k).all fun y=>decide (y.xs.length≤12))&&decide (y.xs.length≤12))):=E1 x.path (fun y=>decide (y.xs.length≤12)) hy
   have hno:Hid (decide (y.xs.length≤12)=false→(x.path.all fun y=>decide (y.xs.length≤12))=false):=fun h=>List.all_eq_false.2 ⟨y,hmem,by rw [h];simp⟩
   clear hy hmem
   rcases Al4 12 y.xs.length with h|h
   ·
    have t:decide ((12:Int)<(y.xs.length:Int))=true:=decide_eq_true (by omega)
    have hv:Hid (true=LB):=by show _=_;rw [hfin.out,hno.out (decide_eq_false (by omega))];simp
    clear hfin hno hsn h
    go_wp2
    go_ret
    exact ⟨congrArg (fun z=>Ending.returned (.bool z)) hv.out,f0⟩
   ·
    have t:decide ((12:Int)<(y.xs.length:Int))=false:=decide_eq_false (by omega)
    have hsn':Hid (((x.path.take (k+1)).all fun y=>decide (y.xs.length≤12))=true):=by show _=_;rw [hsn.out,hh.out,decide_eq_true h];rfl
    clear hno hsn h
    go_wp2
    go_roundw
    case rel=>exact ⟨k+1,by go_num,by omega,hsn',by first|rfl|trivial⟩
    case measure=>simp [intOf];omega
  ·
   obtain rfl:n2=k:=by omega
   have hpa:(x.path.all fun y=>decide (y.xs.length≤12))=true:=by have h:=hh.out;rw [Al3 (by rw [hn2.out];omega)] at h;exact h
   have hfin2:=hfin.out
   rw [hpa] at hfin2
   have hfin3:=Lib.hid hfin2
   clear hfin hfin2 hpa hh rp lpath hlt hn2
   go_wp2
   go_loopw [4] (fun v wr=>∃k:Nat,v=.int .i64 (k:Int)∧k≤n5∧Hid (((x.hist.take k).all fun y=>decide (y.y.length≤208))=true)∧w0=wr) (fun v _=>n5-(intOf v).toNat)
   case atStart=>exact ⟨0,rfl,by omega,rfl,rfl⟩
   case round=>
    obtain ⟨k,rfl,hk,hh,rfl⟩:=hrel
    by_cases hlt:k<n5
    ·
     have i1:(0:Int)≤k:=by omega
     have i2:(k:Int)<n5:=by omega
     have i3:(k:Int).toNat=k:=by omega
     obtain ⟨y,hy⟩:∃y,x.hist[k]? =some y:=⟨_,Al1 (by rw [hn5.out];exact hlt)⟩
     obtain ⟨b,off,hA,hbB,k0,k1,k2,k3⟩:=SlL.el rh hy
     rw [hA] at c24
     have hmem:=Al5 hy
     have hsn:Hid (((x.hist.take (k+1)).all fun y=>decide (y.y.length≤208))=(((x.hist.take k).all fun y=>decide (y.y.length≤208))&&decide (y.y.length≤208))):=E1 x.hist (fun y=>decide (y.y.length≤208)) hy
     have hno:Hid (decide (y.y.length≤208)=false→(x.hist.all fun y=>decide (y.y.length≤208))=false):=fun h=>List.all_eq_false.2 ⟨y,hmem,by rw [h];simp⟩
     clear hy hmem
     rcases Al4 208 y.y.length with h|h
     ·
      have t:decide ((208:Int)<(y.y.length:Int))=true:=decide_eq_true (by omega)
      have hv:Hid (true=LB):=by show _=_;rw [hfin3.out,hno.out (decide_eq_false (by omega))];simp
      clear hfin3 hno hsn h
      go_wp2
      go_ret
      exact ⟨congrArg (fun z=>Ending.returned (.bool z)) hv.out,f0⟩
     ·
      have t:decide ((208:Int)<(y.y.length:Int))=false:=decide_eq_false (by omega)
      have hsn':Hid (((x.hist.take (k+1)).all fun y=>decide (y.y.length≤208))=true):=by show _=_;rw [hsn.out,hh.out,decide_eq_true h];rfl
      clear hno hsn h
      go_wp2
      go_roundw
      case rel=>exact ⟨k+1,by go_num,by omega,hsn',by first|rfl|trivial⟩
      case measure=>simp [intOf];omega
    ·
     obtain rfl:n5=k:=by omega
     have hha:(x.hist.all fun y=>decide (y.y.length≤208))=true:=by have h:=hh.out;rw [Al3 (by rw [hn5.out];omega)] at h;exact h
     have hfin4:=hfin3.out
     rw [hha] at hfin4
     have hfin:=Lib.hid hfin4
     clear hfin3 hfin4 hha hh rh lhist hlt hn5
     rcases zb (decide ((12:Int)<n1)) with h1|h1
     ·
      have hv:Hid (true=LB):=by show _=_;rw [hfin.out];simp [h1]
      clear hfin
      go_wp2
      go_ret
      exact ⟨congrArg (fun z=>Ending.returned (.bool z)) hv.out,f0⟩
     rcases zb (decide ((5:Int)<n2)) with h2|h2
     ·
      have hv:Hid (true=LB):=by show _=_;rw [hfin.out];simp [h1,h2]
      clear hfin
      go_wp2
      go_ret
      exact ⟨congrArg (fun z=>Ending.returned (.bool z)) hv.out,f0⟩
     rcases zb (decide ((208:Int)<n3)) with h3|h3
     ·
      have hv:Hid (true=LB):=by show _=_;rw [hfin.out];simp [h1,h2,h3]
      clear hfin
      go_wp2
      go_ret
      exact ⟨congrArg (fun z=>Ending.returned (.bool z)) hv.out,f0⟩
     rcases zb (decide ((8:Int)<n4)) with h4|h4
     ·
      have hv:Hid (true=LB):=by show _=_;rw [hfin.out];simp [h1,h2,h3,h4]
      clear hfin
      go_wp2
      go_ret
      exact ⟨congrArg (fun z=>Ending.returned (.bool z)) hv.out,f0⟩
     rcases zb (decide ((20:Int)<n5)) with h5|h5
     ·
      have hv:Hid (true=LB):=by show _=_;rw [hfin.out];simp [h1,h2,h3,h4,h5]
      clear hfin
      go_wp2
      go_ret
      exact ⟨congrArg (fun z=>Ending.returned (.bool z)) hv.out,f0⟩
     rcases zb (decide ((6:Int)<n6)) with h6|h6
     ·
      have hv:Hid (true=LB):=by show _=_;rw [hfin.out];simp [h1,h2,h3,h4,h5,h6]
      clear hfin
      go_wp2
      go_ret
      exact ⟨congrArg (fun z=>Ending.returned (.bool z)) hv.out,f0⟩
     rcases zb (kd==7) with k7|k7
     ·
      have hv:Hid ((!i7)=LB):=by show _=_;have p:kd=7:=(by simpa using k7);rw [hfin.out];simp [h1,h2,h3,h4,h5,h6,p]
      clear hfin
      cases i7
      all_goals
       go_wp2_with (first
        |(go_at_call 151;(with_reducible refine (ki1.out _).mono ?_);rintro _ v3 ⟨rfl,f3⟩;have fz3:=f0.trans f3 zr)
        |(go_at_call 151;(with_reducible refine (ki2.out _).mono ?_);rintro _ v3 ⟨rfl,f3⟩;have fz3:=f0.trans f3 zr))
       go_ret
       exact ⟨congrArg (fun z=>Ending.returned (.bool z)) hv.out,fz3⟩
     rcases zb (kd==9) with k9|k9
     ·
      have hv:Hid ((((n7:Int) !=n6))=LB):=by show _=_;have p:kd=9:=(by simpa using k9);rw [hfin.out];simp [h1,h2,h3,h4,h5,h6,p]
      clear hfin
      go_wp2
      go_ret
      exact ⟨congrArg (fun z=>Ending.returned (.bool z)) hv.out,f0⟩
     rcases zb (kd==10) with k10|k10
     ·
      have hv:Hid ((!i10)=LB):=by show _=_;have p:kd=10:=(by simpa using k10);rw [hfin.out];simp [h1,h2,h3,h4,h5,h6,p]
      clear hfin
      cases i10
      all_goals
       go_wp2_with (first
        |(go_at_call 151;(with_reducible refine (ki1.out _).mono ?_);rintro _ v3 ⟨rfl,f3⟩;have fz3:=f0.trans f3 zr)
        |(go_at_call 151;(with_reducible refine (ki2.out _).mono ?_);rintro _ v3 ⟨rfl,f3⟩;have fz3:=f0.trans f3 zr))
       go_ret
       exact ⟨congrArg (fun z=>Ending.returned (.bool z)) hv.out,fz3⟩
     rcases zb (kd==11) with k11|k11
     ·
      have hv:Hid ((((n7:Int) !=1))=LB):=by show _=_;have p:kd=11:=(by simpa using k11);rw [hfin.out];simp [h1,h2,h3,h4,h5,h6,p]
      clear hfin
      go_wp2
      go_ret
      exact ⟨congrArg (fun z=>Ending.returned (.bool z)) hv.out,f0⟩
     ·
      have hv:Hid ((false)=LB):=by show _=_;have q7:¬kd=7:=(by simpa using k7);have q9:¬kd=9:=(by simpa using k9);have q10:¬kd=10:=(by simpa using k10);have q11:¬kd=11:=(by simpa using k11);rw [hfin.out];simp [h1,h2,h3,h4,h5,h6,q7,q9,q10,q11]
      clear hfin
      go_wp2
      go_ret
      exact ⟨congrArg (fun z=>Ending.returned (.bool z)) hv.out,f0⟩
end Oq
namespace Oq
attribute [local go_sem] Al8 Al9
attribute [local go_sem ↓] Ci
theorem Ae9 {α:Type} (r:α→α→Bool) (l:List α) (n:Nat) (h:An r l=true):An r (l.take n)=true:=by
 induction l generalizing n with
 |nil=>simp [An]
 |cons a t ih=>
  cases n with
  |zero=>rfl
  |succ n=>
   cases t with
   |nil=>cases n<;>rfl
   |cons b t=>
    have h2:(r a b&&An r (b::t))=true:=h
    rw [Al6] at h2
    cases n with
    |zero=>rfl
    |succ n=>
     have h3:=ih (n+1) h2.2
     rw [Am0] at h3
     rw [Am0,Am0]
     show (r a b&&An r (b::t.take n))=true
     rw [h2.1,h3]
     rfl
theorem Rt {α:Type} (r:α→α→Bool) (l:List α) {k:Nat} {x y:α} (hx:l[k]? =some x) (hy:l[k+1]? =some y) (h:r x y=false):An r l=false:=by
 cases hc:An r l with
 |false=>rfl
 |true=>
  have h1:=Ae9 r l (k+2) hc
  rw [G8 r l hx hy,h,Bool.and_false] at h1
  cases h1
theorem Af0 (x:OpL) (w:World) (hat:x.at w w.heap.size) (hok:x.op.ok):Calls Tryz.prog 63 #[.agg x.cells] w (Iu x.op.chk w):=by
 have hsz:x.cells.size=27:=rfl
 have hix:(Tryz.prog.info? 44).map (·.size)=some x.cells.size:=by rw [hsz];kernel_rfl
 have hlx:=Bd (P:=Tryz.prog) w.heap.size 44 Tryz.underlying44 rfl hix
 have hb:=Blk.new w 44 x.cells
 have fz:Fr Non w (w.alloc (.cells x.cells 44)):=(Fr.refl Non w).alloc _
 have c2:(w.alloc (.cells x.cells 44)).cell? ⟨w.heap.size,2,none⟩=some (.int .i64 x.kind):=hb.cell 2
 have c4:(w.alloc (.cells x.cells 44)).cell? ⟨w.heap.size,4,none⟩=some (.slice x.pastA x.past.length x.pastC):=hb.cell 4
 have c19:(w.alloc (.cells x.cells 44)).cell? ⟨w.heap.size,19,none⟩=some (.slice x.guardsA x.guards.length x.guardsC):=hb.cell 19
 have lguards:x.guards.length≤1000000:=by have h:=hok.guards.1;rw [show x.op.guards=x.guards from rfl] at h;omega
 have lpast:x.past.length≤1000000:=by have h:=hok.past.1;rw [show x.op.past=x.past from rfl] at h;omega
 have rpast:=hat.past.1.fr fz zr
 have rguards:=hat.guards.1.fr fz zr
 have kb:=Lib.hid (fun (w':World)=>Zi x w')
 have kn:=Lib.hid (fun (w':World)=>Y9 x w')
 have ki:=Lib.hid (fun (w':World) (h:Fr Non w w')=>Y8 x w' ((hat.fr h zr).mono h.size) hok)
 have kl:=Lib.hid (fun (w':World) (h:Fr Non w w')=>Ae8 x w' ((hat.fr h zr).mono h.size) hok)
 rw [Ae7] at kb
 rw [Zf] at kn
 rw [Zc] at ki
 have hchk:Hid (x.op.chk=if x.kind<1∨13<x.kind then 1 else if x.op.bareB=false then 1 else if x.op.numsB=false then 8 else if x.op.itemsB=false then 8 else if x.op.longB=true then 2 else if (An Id.less x.past&&An (fun a b=>decide (a<b)) x.guards)=false then 6 else if decide (x.past=[])≠decide (x.kind=1) then 10 else 0):=rfl
 generalize x.op.chk=EC at*
 clear hat hok hsz hix
 have kb':Hid (∀w',Calls Tryz.prog 109 #[.agg x.cells] w' (Af x.op.bareB w')):=kb.out
 have kn':Hid (∀w',Calls Tryz.prog 110 #[.agg x.cells] w' (Af x.op.numsB w')):=kn.out
 clear kb kn
 generalize x.cells=CS at*
 generalize x.op.bareB=bb at*
 generalize x.op.numsB=nb at*
 generalize x.op.itemsB=ib at*
 generalize x.op.longB=lb at*
 obtain ⟨kk,hkk⟩:=Aa x.kind
 rw [hkk.out] at c2 hchk
 clear hkk
 obtain ⟨np,hnp⟩:=Aa x.past.length
 rw [hnp.out] at rpast lpast c4
 obtain ⟨ng,hng⟩:=Aa x.guards.length
 rw [hng.out] at rguards lguards c19
 rcases zb (decide (kk<1)) with k1|k1
 ·
  have hv:Hid (1=EC):=by show _=_;rw [hchk.out,if_pos (Or.inl (of_decide_eq_true k1))]
  clear hchk
  go_enter Tryz.func63,Tryz.ntmps63
  go_wp2_with (first|(go_at_call 109;(with_reducible refine (kb'.out _).mono ?_);rintro _ v ⟨rfl,f⟩;have fz:=fz.trans f zr;have hb:=hb.fr f zq;have c2:=f.cell c2 zq;have c4:=f.cell c4 zq;have c19:=f.cell c19 zq;have rpast:=rpast.fr f zr;have rguards:=rguards.fr f zr)|(go_at_call 110;(with_reducible refine (kn'.out _).mono ?_);rintro _ v ⟨rfl,f⟩;have fz:=fz.trans f zr;have hb:=hb.fr f zq;have c2:=f.cell c2 zq;have c4:=f.cell c4 zq;have c19:=f.cell c19 zq;have rpast:=rpast.fr f zr;have rguards:=rguards.fr f zr)|(go_at_call 111;(with_reducible refine (ki.out _ fz).mono ?_);rintro _ v ⟨rfl,f⟩;have fz:=fz.trans f zr;have hb:=hb.fr f zq;have c2:=f.cell c2 zq;have c4:=f.cell c4 zq;have c19:=f.cell c19 zq;have rpast:=rpast.fr f zr;have rguards:=rguards.fr f zr)|(go_at_call 112;(with_reducible refine (kl.out _ fz).mono ?_);rintro _ v ⟨rfl,f⟩;have fz:=fz.trans f zr;have hb:=hb.fr f zq;have c2:=f.cell c2 zq;have c4:=f.cell c4 zq;have c19:=f.cell c19 zq;have rpast:=rpast.fr f zr;have rguards:=rguards.fr f zr))
  go_ret
  exact ⟨congrArg (fun z=>Ending.returned (.int .i64 z)) hv.out,fz⟩
 rcases zb (decide ((13:Int)<kk)) with k13|k13
 ·
  have hv:Hid (1=EC):=by show _=_;rw [hchk.out,if_pos (Or.inr (of_decide_eq_true k13))]
  clear hchk
  go_enter Tryz.func63,Tryz.ntmps63
  go_wp2_with (first|(go_at_call 109;(with_reducible refine (kb'.out _).mono ?_);rintro _ v ⟨rfl,f⟩;have fz:=fz.trans f zr;have hb:=hb.fr f zq;have c2:=f.cell c2 zq;have c4:=f.cell c4 zq;have c19:=f.cell c19 zq;have rpast:=rpast.fr f zr;have rguards:=rguards.fr f zr)|(go_at_call 110;(with_reducible refine (kn'.out _).mono ?_);rintro _ v ⟨rfl,f⟩;have fz:=fz.trans f zr;have hb:=hb.fr f zq;have c2:=f.cell c2 zq;have c4:=f.cell c4 zq;have c19:=f.cell c19 zq;have rpast:=rpast.fr f zr;have rguards:=rguards.fr f zr)|(go_at_call 111;(with_reducible refine (ki.out _ fz).mono ?_);rintro _ v ⟨rfl,f⟩;have fz:=fz.trans f zr;have hb:=hb.fr f zq;have c2:=f.cell c2 zq;have c4:=f.cell c4 zq;have c19:=f.cell c19 zq;have rpast:=rpast.fr f zr;have rguards:=rguards.fr f zr)|(go_at_call 112;(with_reducible refine (kl.out _ fz).mono ?_);rintro _ v ⟨rfl,f⟩;have fz:=fz.trans f zr;have hb:=hb.fr f zq;have c2:=f.cell c2 zq;have c4:=f.cell c4 zq;have c19:=f.cell c19 zq;have rpast:=rpast.fr f zr;have rguards:=rguards.fr f zr))
  go_ret
  exact ⟨congrArg (fun z=>Ending.returned (.int .i64 z)) hv.out,fz⟩
 replace hchk:Hid (EC=if bb=false then 1 else if nb=false then 8 else if ib=false then 8 else if lb=true then 2 else if (An Id.less x.past&&An (fun a b=>decide (a<b)) x.guards)=false then 6 else if decide (x.past=[])≠decide (kk=1) then 10 else 0):=by show _=_;rw [hchk.out,if_neg (by have a:=of_decide_eq_false k1;have b:=of_decide_eq_false k13;omega)]
 cases bb
 ·
  have hv:Hid (1=EC):=hchk.out.symm
  clear hchk
  go_enter Tryz.func63,Tryz.ntmps63
  go_wp2_with (first|(go_at_call 109;(with_reducible refine (kb'.out _).mono ?_);rintro _ v ⟨rfl,f⟩;have fz:=fz.trans f zr;have hb:=hb.fr f zq;have c2:=f.cell c2 zq;have c4:=f.cell c4 zq;have c19:=f.cell c19 zq;have rpast:=rpast.fr f zr;have rguards:=rguards.fr f zr)|(go_at_call 110;(with_reducible refine (kn'.out _).mono ?_);rintro _ v ⟨rfl,f⟩;have fz:=fz.trans f zr;have hb:=hb.fr f zq;have c2:=f.cell c2 zq;have c4:=f.cell c4 zq;have c19:=f.cell c19 zq;have rpast:=rpast.fr f zr;have rguards:=rguards.fr f zr)|(go_at_call 111;(with_reducible refine (ki.out _ fz).mono ?_);rintro _ v ⟨rfl,f⟩;have fz:=fz.trans f zr;have hb:=hb.fr f zq;have c2:=f.cell c2 zq;have c4:=f.cell c4 zq;have c19:=f.cell c19 zq;have rpast:=rpast.fr f zr;have rguards:=rguards.fr f zr)|(go_at_call 112;(with_reducible refine (kl.out _ fz).mono ?_);rintro _ v ⟨rfl,f⟩;have fz:=fz.trans f zr;have hb:=hb.fr f zq;have c2:=f.cell c2 zq;have c4:=f.cell c4 zq;have c19:=f.cell c19 zq;have rpast:=rpast.fr f zr;have rguards:=rguards.fr f zr))
  go_ret
  exact ⟨congrArg (fun z=>Ending.returned (.int .i64 z)) hv.out,fz⟩
 cases nb
 ·
  have hv:Hid (8=EC):=hchk.out.symm
  clear hchk
  go_enter Tryz.func63,Tryz.ntmps63
  go_wp2_with (first|(go_at_call 109;(with_reducible refine (kb'.out _).mono ?_);rintro _ v ⟨rfl,f⟩;have fz:=fz.trans f zr;have hb:=hb.fr f zq;have c2:=f.cell c2 zq;have c4:=f.cell c4 zq;have c19:=f.cell c19 zq;have rpast:=rpast.fr f zr;have rguards:=rguards.fr f zr)|(go_at_call 110;(with_reducible refine (kn'.out _).mono ?_);rintro _ v ⟨rfl,f⟩;have fz:=fz.trans f zr;have hb:=hb.fr f zq;have c2:=f.cell c2 zq;have c4:=f.cell c4 zq;have c19:=f.cell c19 zq;have rpast:=rpast.fr f zr;have rguards:=rguards.fr f zr)|(go_at_call 111;(with_reducible refine (ki.out _ fz).mono ?_);rintro _ v ⟨rfl,f⟩;have fz:=fz.trans f zr;have hb:=hb.fr f zq;have c2:=f.cell c2 zq;have c4:=f.cell c4 zq;have c19:=f.cell c19 zq;have rpast:=rpast.fr f zr;have rguards:=rguards.fr f zr)|(go_at_call 112;(with_reducible refine (kl.out _ fz).mono ?_);rintro _ v ⟨rfl,f⟩;have fz:=fz.trans f zr;have hb:=hb.fr f zq;have c2:=f.cell c2 zq;have c4:=f.cell c4 zq;have c19:=f.cell c19 zq;have rpast:=rpast.fr f zr;have rguards:=rguards.fr f zr))
  go_ret
  exact ⟨congrArg (fun z=>Ending.returned (.int .i64 z)) hv.out,fz⟩
 cases ib
 ·
  have hv:Hid (8=EC):=hchk.out.symm
  clear hchk
  go_enter Tryz.func63,Tryz.ntmps63
  go_wp2_with (first|(go_at_call 109;(with_reducible refine (kb'.out _).mono ?_);rintro _ v ⟨rfl,f⟩;have fz:=fz.trans f zr;have hb:=hb.fr f zq;have c2:=f.cell c2 zq;have c4:=f.cell c4 zq;have c19:=f.cell c19 zq;have rpast:=rpast.fr f zr;have rguards:=rguards.fr f zr)|(go_at_call 110;(with_reducible refine (kn'.out _).mono ?_);rintro _ v ⟨rfl,f⟩;have fz:=fz.trans f zr;have hb:=hb.fr f zq;have c2:=f.cell c2 zq;have c4:=f.cell c4 zq;have c19:=f.cell c19 zq;have rpast:=rpast.fr f zr;have rguards:=rguards.fr f zr)|(go_at_call 111;(with_reducible refine (ki.out _ fz).mono ?_);rintro _ v ⟨rfl,f⟩;have fz:=fz.trans f zr;have hb:=hb.fr f zq;have c2:=f.cell c2 zq;have c4:=f.cell c4 zq;have c19:=f.cell c19 zq;have rpast:=rpast.fr f zr;have rguards:=rguards.fr f zr)|(go_at_call 112;(with_reducible refine (kl.out _ fz).mono ?_);rintro _ v ⟨rfl,f⟩;have fz:=fz.trans f zr;have hb:=hb.fr f zq;have c2:=f.cell c2 zq;have c4:=f.cell c4 zq;have c19:=f.cell c19 zq;have rpast:=rpast.fr f zr;have rguards:=rguards.fr f zr))
  go_ret
  exact ⟨congrArg (fun z=>Ending.returned (.int .i64 z)) hv.out,fz⟩
 cases lb
 rotate_left
 ·
  have hv:Hid (2=EC):=hchk.out.symm
  clear hchk
  go_enter Tryz.func63,Tryz.ntmps63
  go_wp2_with (first|(go_at_call 109;(with_reducible refine (kb'.out _).mono ?_);rintro _ v ⟨rfl,f⟩;have fz:=fz.trans f zr;have hb:=hb.fr f zq;have c2:=f.cell c2 zq;have c4:=f.cell c4 zq;have c19:=f.cell c19 zq;have rpast:=rpast.fr f zr;have rguards:=rguards.fr f zr)|(go_at_call 110;(with_reducible refine (kn'.out _).mono ?_);rintro _ v ⟨rfl,f⟩;have fz:=fz.trans f zr;have hb:=hb.fr f zq;have c2:=f.cell c2 zq;have c4:=f.cell c4 zq;have c19:=f.cell c19 zq;have rpast:=rpast.fr f zr;have rguards:=rguards.fr f zr)|(go_at_call 111;(with_reducible refine (ki.out _ fz).mono ?_);rintro _ v ⟨rfl,f⟩;have fz:=fz.trans f zr;have hb:=hb.fr f zq;have c2:=f.cell c2 zq;have c4:=f.cell c4 zq;have c19:=f.cell c19 zq;have rpast:=rpast.fr f zr;have rguards:=rguards.fr f zr)|(go_at_call 112;(with_reducible refine (kl.out _ fz).mono ?_);rintro _ v ⟨rfl,f⟩;have fz:=fz.trans f zr;have hb:=hb.fr f zq;have c2:=f.cell c2 zq;have c4:=f.cell c4 zq;have c19:=f.cell c19 zq;have rpast:=rpast.fr f zr;have rguards:=rguards.fr f zr))
  go_ret
  exact ⟨congrArg (fun z=>Ending.returned (.int .i64 z)) hv.out,fz⟩
 replace hchk:Hid (EC=if (An Id.less x.past&&An (fun a b=>decide (a<b)) x.guards)=false then 6 else if decide (x.past=[])≠decide (kk=1) then 10 else 0):=hchk
 go_enter Tryz.func63,Tryz.ntmps63
 go_wp2_with (first|(go_at_call 109;(with_reducible refine (kb'.out _).mono ?_);rintro _ v ⟨rfl,f⟩;have fz:=fz.trans f zr;have hb:=hb.fr f zq;have c2:=f.cell c2 zq;have c4:=f.cell c4 zq;have c19:=f.cell c19 zq;have rpast:=rpast.fr f zr;have rguards:=rguards.fr f zr)|(go_at_call 110;(with_reducible refine (kn'.out _).mono ?_);rintro _ v ⟨rfl,f⟩;have fz:=fz.trans f zr;have hb:=hb.fr f zq;have c2:=f.cell c2 zq;have c4:=f.cell c4 zq;have c19:=f.cell c19 zq;have rpast:=rpast.fr f zr;have rguards:=rguards.fr f zr)|(go_at_call 111;(with_reducible refine (ki.out _ fz).mono ?_);rintro _ v ⟨rfl,f⟩;have fz:=fz.trans f zr;have hb:=hb.fr f zq;have c2:=f.cell c2 zq;have c4:=f.cell c4 zq;have c19:=f.cell c19 zq;have rpast:=rpast.fr f zr;have rguards:=rguards.fr f zr)|(go_at_call 112;(with_reducible refine (kl.out _ fz).mono ?_);rintro _ v ⟨rfl,f⟩;have fz:=fz.trans f zr;have hb:=hb.fr f zq;have c2:=f.cell c2 zq;have c4:=f.cell c4 zq;have c19:=f.cell c19 zq;have rpast:=rpast.fr f zr;have rguards:=rguards.fr f zr))
 generalize hgv:v=v1 at*
 go_loopw [3] (fun v wr=>∃(i:Nat),v=.int .i64 ((i:Int)+1)∧Hid (An Id.less (x.past.take (i+1))=true)∧(i=0∨i+1≤np)∧Fr Non v1 wr) (fun v _=>np+1-(intOf v).toNat)
 case atStart=>exact ⟨0,rfl,Iw _ _,Or.inl rfl,Fr.refl _ _⟩
 case round=>
  obtain ⟨i,rfl,hrb,hi,hf⟩:=hrel
  by_cases hlt:i+1<np
  ·
   have n1:(i:Int)+1<np:=by omega
   have n2:(0:Int)≤i:=by omega
   have n3:(i:Int)<np:=by omega
   have n4:(i:Int).toNat=i:=by omega
   have n5:IntKind.i64.wrap ((i:Int)+1)=(i:Int)+1:=IntWalk.i64_in _ (by omega)
   have n6:(0:Int)≤(i:Int)+1:=by omega
   have n8:((i:Int)+1).toNat=i+1:=by omega
   have n9:(i:Int)+1-1=i:=by omega
   have n10:IntKind.i64.wrap (i:Int)=(i:Int):=IntWalk.i64_in _ (by omega)
   obtain ⟨y,hy⟩:∃y,x.past[i]? =some y:=⟨_,Al1 (by rw [hnp.out];omega)⟩
   obtain ⟨z,hz⟩:∃z,x.past[i+1]? =some z:=⟨_,Al1 (by rw [hnp.out];omega)⟩
   obtain ⟨b,off,hA,hbB,e0,e1,e2⟩:=Id.at (rpast.fr hf zr) hy
   obtain ⟨b',off',hA',hbB',g0,g1,g2⟩:=Id.at (rpast.fr hf zr) hz
   rw [hA] at hA'
   obtain ⟨rfl,rfl⟩:b=b'∧off=off':=by cases hA';exact ⟨rfl,rfl⟩
   clear hA' hbB'
   have cc:=hf.cell c4 zq
   rw [hA] at cc
   have hsn:Hid (An Id.less (x.past.take (i+2))=(An Id.less (x.past.take (i+1))&&Id.less y z)):=G8 Id.less x.past hy hz
   have hno:Hid (Id.less y z=false→An Id.less x.past=false):=Rt Id.less x.past hy hz
   have hlim:i+2≤np:=by omega
   have kL:=Lib.hid (fun w'=>Jv y z w')
   generalize Id.less y z=lyz at*
   clear hy hz hi hlt hA
   go_upto_region 12 with (fail)
   refine wp_region_held_drew (S:=(fun w'=>w'.cell? ⟨w.heap.size,4,none⟩=some (.slice (some ⟨b,off,none⟩) np x.pastC)∧w'.cell? ⟨b,off+i*3,none⟩=some (.int .i64 y.b)∧w'.cell? ⟨b,off+i*3+1,none⟩=some (.int .i64 y.s)∧w'.cell? ⟨b,off+i*3+2,none⟩=some (.int .u64 (y.u:Int))∧w'.cell? ⟨b,off+(i+1)*3,none⟩=some (.int .i64 z.b)∧w'.cell? ⟨b,off+(i+1)*3+1,none⟩=some (.int .i64 z.s)∧w'.cell? ⟨b,off+(i+1)*3+2,none⟩=some (.int .u64 (z.u:Int)))) (by kernel_rfl) ⟨cc,e0,e1,e2,g0,g1,g2⟩ (fun hHeld=> ?_)
   clear hHeld
   have hSr:(fun w'=>w'.cell? ⟨w.heap.size,4,none⟩=some (.slice (some ⟨b,off,none⟩) np x.pastC)∧w'.cell? ⟨b,off+i*3,none⟩=some (.int .i64 y.b)∧w'.cell? ⟨b,off+i*3+1,none⟩=some (.int .i64 y.s)∧w'.cell? ⟨b,off+i*3+2,none⟩=some (.int .u64 (y.u:Int))∧w'.cell? ⟨b,off+(i+1)*3,none⟩=some (.int .i64 z.b)∧w'.cell? ⟨b,off+(i+1)*3+1,none⟩=some (.int .i64 z.s)∧w'.cell? ⟨b,off+(i+1)*3+2,none⟩=some (.int .u64 (z.u:Int))) wr.drew:=⟨cc,e0,e1,e2,g0,g1,g2⟩
   replace hf:=hf.drew
   clear cc e0 e1 e2 g0 g1 g2
   generalize wr.drew=wq at*
   refine tkH 0 hSr (h:=tkH 1 hSr (h:=tkH 2 hSr (h:=tkH 3 hSr (h:=tkH 4 hSr (h:=tkH 5 hSr (h:=tkH 6 hSr (h:=tkH 7 hSr (h:=tkH 8 hSr (h:=tkH 9 hSr (h:=tkH 10 hSr (h:=?_)))))))))))
   simp only [List.set]
   refine oG 11 (fun K hK=> ?_)
   go_simp
   go_wp2_with (go_at_call 92;(with_reducible refine (kL.out _).mono ?_);rintro _ w3 ⟨rfl,f3⟩)
   have hS3:(fun w'=>w'.cell? ⟨w.heap.size,4,none⟩=some (.slice (some ⟨b,off,none⟩) np x.pastC)∧w'.cell? ⟨b,off+i*3,none⟩=some (.int .i64 y.b)∧w'.cell? ⟨b,off+i*3+1,none⟩=some (.int .i64 y.s)∧w'.cell? ⟨b,off+i*3+2,none⟩=some (.int .u64 (y.u:Int))∧w'.cell? ⟨b,off+(i+1)*3,none⟩=some (.int .i64 z.b)∧w'.cell? ⟨b,off+(i+1)*3+1,none⟩=some (.int .i64 z.s)∧w'.cell? ⟨b,off+(i+1)*3+2,none⟩=some (.int .u64 (z.u:Int))) w3:=⟨f3.cell hSr.1 zq,f3.cell hSr.2.1 zq,f3.cell hSr.2.2.1 zq,f3.cell hSr.2.2.2.1 zq,f3.cell hSr.2.2.2.2.1 zq,f3.cell hSr.2.2.2.2.2.1 zq,f3.cell hSr.2.2.2.2.2.2 zq⟩
   refine hK.out _ _ hS3 (fun _=> ?_)
   clear hK K
   try simp only [Ac,List.set]
   replace hf:=hf.trans f3 zr
   cases lyz
   ·
    have hv:Hid (6=EC):=by show _=_;rw [hchk.out,if_pos (by rw [hno.out rfl];rfl)]
    clear hchk hno hsn
    refine tkH 12 hS3 (h:=?_)
    simp only [List.set]
    refine oD ?_
    go_simp
    go_wp2_with (fail)
    go_ret
    exact ⟨congrArg (fun z=>Ending.returned (.int .i64 z)) hv.out,fz.trans hf zr⟩
   ·
    have hrb':Hid (An Id.less (x.past.take (i+2))=true):=by show _=_;rw [hsn.out,hrb.out];rfl
    clear hrb hsn hno
    refine tkH 12 hS3 (h:=?_)
    simp only [List.set]
    refine oD ?_
    go_simp
    go_wp2_with (fail)
    go_roundw
    case rel=>exact ⟨i+1,by first|rfl|go_num,hrb',Or.inr hlim,hf⟩
    case measure=>simp [intOf];omega
  ·
   have n1:¬((i:Int)+1<np):=by omega
   have hpa:An Id.less x.past=true:=by have h:=hrb.out;rw [Al3 (by rw [hnp.out];omega)] at h;exact h
   replace hchk:Hid (EC=if An (fun a b=>decide (a<b)) x.guards=false then 6 else if decide (x.past=[])≠decide (kk=1) then 10 else 0):=by show _=_;rw [hchk.out,hpa,Bool.true_and]
   have e19:=hf.cell c19 zq
   have e4:=hf.cell c4 zq
   have e2:=hf.cell c2 zq
   replace rguards:=rguards.fr hf zr
   replace fz:=fz.trans hf zr
   clear hrb hpa rpast hlt hi c19 c4 c2 hf hb
   generalize hgw:wr=v2 at*
   go_wp2_with (fail)
   go_loopw [4] (fun v wr=>∃(i:Nat),v=.int .i64 ((i:Int)+1)∧Hid (An (fun a b=>decide (a<b)) (x.guards.take (i+1))=true)∧(i=0∨i+1≤ng)∧Fr Non v2 wr) (fun v _=>ng+1-(intOf v).toNat)
   case atStart=>exact ⟨0,rfl,Iw _ _,Or.inl rfl,Fr.refl _ _⟩
   case round=>
    obtain ⟨i,rfl,hrc,hi,hf⟩:=hrel
    by_cases hlt:i+1<ng
    ·
     have n1:(i:Int)+1<ng:=by omega
     have n2:(0:Int)≤i:=by omega
     have n3:(i:Int)<ng:=by omega
     have n4:(i:Int).toNat=i:=by omega
     have n5:IntKind.i64.wrap ((i:Int)+1)=(i:Int)+1:=IntWalk.i64_in _ (by omega)
     have n6:(0:Int)≤(i:Int)+1:=by omega
     have n8:((i:Int)+1).toNat=i+1:=by omega
     have n9:(i:Int)+1-1=i:=by omega
     have n10:IntKind.i64.wrap (i:Int)=(i:Int):=IntWalk.i64_in _ (by omega)
     obtain ⟨y,hy⟩:∃y,x.guards[i]? =some y:=⟨_,Al1 (by rw [hng.out];omega)⟩
     obtain ⟨z,hz⟩:∃z,x.guards[i+1]? =some z:=⟨_,Al1 (by rw [hng.out];omega)⟩
     obtain ⟨b,off,u,hA,hbB,hu,e0⟩:=(rguards.fr hf zr).at (show i<ng by omega)
     obtain ⟨b',off',u',hA',hbB',hu',g0⟩:=(rguards.fr hf zr).at (show i+1<ng by omega)
     rw [Am1,hy] at hu
     rw [Am1,hz] at hu'
     obtain rfl:=(Option.some.inj hu).symm
     obtain rfl:=(Option.some.inj hu').symm
     rw [hA] at hA'
     obtain ⟨rfl,rfl⟩:b=b'∧off=off':=by cases hA';exact ⟨rfl,rfl⟩
     replace e0:wr.cell? ⟨b,off+i,none⟩=some (.int .i64 y):=e0
     replace g0:wr.cell? ⟨b,off+(i+1),none⟩=some (.int .i64 z):=g0
     clear hA' hbB' hu hu'
     have cc:=hf.cell e19 zq
     rw [hA] at cc
     have hsn:Hid (An (fun a b=>decide (a<b)) (x.guards.take (i+2))=(An (fun a b=>decide (a<b)) (x.guards.take (i+1))&&decide (y<z))):=G8 (fun (a b:Int)=>decide (a<b)) x.guards hy hz
     have hno:Hid (decide (y<z)=false→An (fun (a b:Int)=>decide (a<b)) x.guards=false):=Rt (fun (a b:Int)=>decide (a<b)) x.guards hy hz
     have hlim:i+2≤ng:=by omega
     clear hy hz hi hlt hA
     go_upto_region 17 with (fail)
     refine wp_region_held_drew (S:=(fun w'=>w'.cell? ⟨w.heap.size,19,none⟩=some (.slice (some ⟨b,off,none⟩) ng x.guardsC)∧w'.cell? ⟨b,off+i,none⟩=some (.int .i64 y)∧w'.cell? ⟨b,off+(i+1),none⟩=some (.int .i64 z))) (by kernel_rfl) ⟨cc,e0,g0⟩ (fun hHeld=> ?_)
     clear hHeld
     have hSr:(fun w'=>w'.cell? ⟨w.heap.size,19,none⟩=some (.slice (some ⟨b,off,none⟩) ng x.guardsC)∧w'.cell? ⟨b,off+i,none⟩=some (.int .i64 y)∧w'.cell? ⟨b,off+(i+1),none⟩=some (.int .i64 z)) wr.drew:=⟨cc,e0,g0⟩
     replace hf:=hf.drew
     clear cc e0 g0
     generalize wr.drew=wq at*
     by_cases t:y<z
     ·
      have hrc':Hid (An (fun a b=>decide (a<b)) (x.guards.take (i+2))=true):=by show _=_;rw [hsn.out,hrc.out,decide_eq_true t];rfl
      have t1:decide (z≤y)=false:=decide_eq_false (by omega)
      have t2:decide (y≥z)=false:=t1
      clear hrc hsn hno t
      refine tkH 0 hSr (h:=tkH 1 hSr (h:=tkH 2 hSr (h:=tkH 3 hSr (h:=tkH 4 hSr (h:=tkH 5 hSr (h:=tkH 6 hSr (h:=tkH 7 hSr (h:=tkH 8 hSr (h:=tkH 9 hSr (h:=tkH 10 hSr (h:=tkH 11 hSr (h:=?_))))))))))))
      simp only [List.set]
      refine oD ?_
      go_simp
      go_wp2_with (fail)
      go_roundw
      case rel=>exact ⟨i+1,by first|rfl|go_num,hrc',Or.inr hlim,hf⟩
      case measure=>simp [intOf];omega
     ·
      have hv:Hid (6=EC):=by show _=_;rw [hchk.out,if_pos (by rw [hno.out (decide_eq_false (by omega))])]
      have t1:decide (z≤y)=true:=decide_eq_true (by omega)
      have t2:decide (y≥z)=true:=t1
      clear hchk hsn hno t
      refine tkH 0 hSr (h:=tkH 1 hSr (h:=tkH 2 hSr (h:=tkH 3 hSr (h:=tkH 4 hSr (h:=tkH 5 hSr (h:=tkH 6 hSr (h:=tkH 7 hSr (h:=tkH 8 hSr (h:=tkH 9 hSr (h:=tkH 10 hSr (h:=tkH 11 hSr (h:=?_))))))))))))
      simp only [List.set]
      refine oD ?_
      go_simp
      go_wp2_with (fail)
      go_ret
      exact ⟨congrArg (fun z=>Ending.returned (.int .i64 z)) hv.out,fz.trans hf zr⟩
    ·
     have n1:¬((i:Int)+1<ng):=by omega
     have hpa:An (fun (a b:Int)=>decide (a<b)) x.guards=true:=by have h:=hrc.out;rw [Al3 (by rw [hng.out];omega)] at h;exact h
     replace hchk:Hid (EC=if decide (x.past=[])≠decide (kk=1) then 10 else 0):=by show _=_;rw [hchk.out,hpa];rfl
     have c4:=hf.cell e4 zq
     have c2:=hf.cell e2 zq
     have d19:=hf.cell e19 zq
     replace fz:=fz.trans hf zr
     clear hrc hpa rguards hlt hi e19 e4 e2 hf
     have hpe:Hid (decide (x.past=[])=decide (np=0)):=by show _=_;rw [Bool.eq_iff_iff];simp only [decide_eq_true_eq];rw [← hnp.out];exact List.length_eq_zero_iff.symm
     by_cases p0:np=0<;>by_cases q0:kk=1
     ·
      have b1:((np:Int)==0)=true:=Cw (by omega)
      have b2:(kk==1)=true:=Cw q0
      have hv:Hid (0=EC):=by show _=_;rw [hchk.out,hpe.out,if_neg (by rw [decide_eq_true p0,decide_eq_true q0];decide)]
      clear hchk hpe p0 q0 hnp
      go_wp2_with (fail)
      go_ret
      exact ⟨congrArg (fun z=>Ending.returned (.int .i64 z)) hv.out,fz⟩
     ·
      have b1:((np:Int)==0)=true:=Cw (by omega)
      have b2:(kk==1)=false:=Cu q0
      have hv:Hid (10=EC):=by show _=_;rw [hchk.out,hpe.out,if_pos (by rw [decide_eq_true p0,decide_eq_false q0];decide)]
      clear hchk hpe p0 q0 hnp
      go_wp2_with (fail)
      go_ret
      exact ⟨congrArg (fun z=>Ending.returned (.int .i64 z)) hv.out,fz⟩
     ·
      have b1:((np:Int)==0)=false:=Cu (by omega)
      have b2:(kk==1)=true:=Cw q0
      have hv:Hid (10=EC):=by show _=_;rw [hchk.out,hpe.out,if_pos (by rw [decide_eq_false p0,decide_eq_true q0];decide)]
      clear hchk hpe p0 q0 hnp
      go_wp2_with (fail)
      go_ret
      exact ⟨congrArg (fun z=>Ending.returned (.int .i64 z)) hv.out,fz⟩
     ·
      have b1:((np:Int)==0)=false:=Cu (by omega)
      have b2:(kk==1)=false:=Cu q0
      have hv:Hid (0=EC):=by show _=_;rw [hchk.out,hpe.out,if_neg (by rw [decide_eq_false p0,decide_eq_false q0];decide)]
      clear hchk hpe p0 q0 hnp
      go_wp2_with (fail)
      go_ret
      exact ⟨congrArg (fun z=>Ending.returned (.int .i64 z)) hv.out,fz⟩
end Oq
namespace Oq
attribute [local go_sem] Al8 Al9
attribute [local go_sem ↓] Ew Ci
theorem Ru (y:OpL) (nm:Id) (hn:y.op.name=nm) (w:World) (hat:y.at w w.heap.size) (hok:y.op.ok):Calls Tryz.prog 35 #[.agg y.cells] w fun e w'=>e=.returned (.agg nm.V)∧Fr Non w w':=by
 have k:=Ov y w hat hok
 obtain ⟨b,s,u⟩:=nm
 unfold Op.name at hn
 injection hn with h1 h2 h3
 rw [h3,show y.by_=b from h1,show y.sq=s from h2] at k
 exact k
theorem Rv {o:Op} (h:o.chk=0):1≤o.sq∧o.sq≤2147483647∧0≤o.at_:=by
 have h1:=(chk_ok.1 h).2.2.1
 unfold Op.numsB at h1
 simp only [Al6] at h1
 have h2:=h1.1.1.2
 have h3:=h1.1.2
 unfold inR at h2 h3
 simp only [Al6,decide_eq_true_eq] at h2 h3
 exact ⟨h2.1,h2.2,h3.1⟩
theorem Af1 {l:List Pn} {ids:List Id} {k p:Nat} {y:Id} (hy:ids[k]? =some y) (hp:plc l y=some p):Ak l (ids.take (k+1))=Ak l (ids.take k)++[p]:=by
 unfold Ak
 rw [Ea hy,Al2,List.map_cons,List.map_nil,hp]
 rfl
def He (cards:List Cd) (l:List Pn) (o:Op) (w:World) (e:Ending) (w':World):Prop:=
 ∃A n c,e=.returned (.tuple #[.int .i64 (Aj cards l o),.slice A n c])∧(Aj cards l o=0→n=o.past.length∧Own w' w.heap.size 3 1 A n c ((Ak l o.past).map Qv))∧Fr Non w w'
theorem Af2 (base:Nat) (r:RG) (x:OpL) (w:World) (h:r.own w base) (hat:x.at w w.heap.size) (hok:x.op.ok):
  Calls Tryz.prog 16 #[.agg r.cells,.agg x.cells] w (He r.cards r.l x.op w):=by
 have hfew:=h.few
 have hpl:x.past.length≤1000:=hok.past.1
 have bg:=(Blk.new w 32 r.cells).alloc (.cells x.cells 44)
 have bx:=Blk.new (w.alloc (.cells r.cells 32)) 44 x.cells
 rw [Am4] at bx
 have f0:Fr Non w ((w.alloc (.cells r.cells 32)).alloc (.cells x.cells 44)):=((Fr.refl Non w).alloc _).alloc _
 have g1:Hid (r.cells[1]? =some (.slice r.lA r.l.length r.lC)):=rfl
 have g4:Hid (r.cells[4]? =some (.slice r.nA r.l.length r.nC)):=rfl
 have x0:Hid (x.cells[0]? =some (.int .i64 x.by_)):=rfl
 have x2:Hid (x.cells[2]? =some (.int .i64 x.kind)):=rfl
 have x3:Hid (x.cells[3]? =some (.int .i64 x.at_)):=rfl
 have x4:Hid (x.cells[4]? =some (.slice x.pastA x.past.length x.pastC)):=rfl
 have x25:Hid (x.cells[25]? =some (.int .u64 (x.r:Int))):=rfl
 have x26:Hid (x.cells[26]? =some (.int .u64 (x.s:Int))):=rfl
 have hszx:(Tryz.prog.info? 44).map (·.size)=some x.cells.size:=by rw [show x.cells.size=27 from rfl];kernel_rfl
 have hl:=Bd (P:=Tryz.prog) w.heap.size 32 Tryz.underlying32 rfl (cs:=r.cells) Dg
 have hlx:=Bd (P:=Tryz.prog) (w.heap.size+1) 44 Tryz.underlying44 rfl hszx
 have kck:=Lib.hid (fun (w':World) (hf:Fr Non w w')=>Af0 x w' (OpL.frame hat hf) hok)
 obtain ⟨nm,hnm⟩:∃nm,x.op.name=nm:=⟨_,rfl⟩
 have kid:=Lib.hid (fun (w':World) (hf:Fr Non w w')=>Ru x nm hnm w' (OpL.frame hat hf) hok)
 have kpl:=Lib.hid (fun (id:Id) (w':World) (hf:Fr Non w w')=>Hd base r id w' (h.non hf))
 have kcd:=Lib.hid (fun (w':World) (hf:Fr Non w w')=>Ae3 base r x.by_ w' (h.non hf))
 have kby:=Lib.hid (fun (w':World) (hf:Fr Non w w')=>J7 x w' (OpL.frame hat hf) hok)
 have lb:=Op.bare_len x.op hok
 have kc8:=Lib.hid (fun (c:Cd) (hc:c.s<18446744073709551616) (A:Option Addr) (cc:Nat) (w':World) (B:Nat) (ho:Own w' B 5 1 A x.op.bare.length cc (x.op.bare.map Bv))=>Ae6 c.s x.r x.s w'.heap.size x.op.bare.length cc A x.op.bare w' hc hok.r hok.s rfl ho.cap.1 (by omega) (Nat.le_refl _) ho.rd)
 have kpa:Hid (∀(A:Option Addr) (n c:Nat) (w':World) (B:Nat),Fr Non w w'→(∀y∈x.past,∃p,plc r.l y=some p)→n=x.past.length→Own w' B 3 1 A n c ((Ak r.l x.past).map Qv)→
   Calls Tryz.prog 67 #[.agg r.cells,.slice A n c] w' (I7 r.l.length (Ah r.l x.past) w')):=by
  intro A n c w' B hf hp hn ho
  have k:=Rs base r w'.heap.size n c A (Ak r.l x.past) w' (h.non hf) (by show _=_;rw [Gw,hn]) ho.rd (by omega)
  rw [Rf h.rows hp] at k
  exact k
 have kri:=Lib.hid (fun (w':World) (hf:Fr Non w w') (A:Option Addr) (c:Nat) (h1:1≤x.sq) (h2:x.sq≤9223372036854775807) (hr:Rd w' w'.heap.size 1 A r.l.length (Cs r.l.length (Ah r.l x.past)))=>Ae2 base r x w'.heap.size c A (Ah r.l x.past) w' (h.non hf) h1 h2 hr)
 have hin:=Lib.hid (fun (p:Nat) (hp:p<r.l.length)=>h.inAt hp)
 have hat27:Hid (∀i,i<r.l.length→∃(m:Pn) (b off:Nat),r.l[i]? =some m∧r.lA=some ⟨b,off,none⟩∧w.cell? ⟨b,off+i*27+3,none⟩=some (.int .i64 m.o.at_)):=by
  intro i hi
  obtain ⟨y,b,off,_,h1,_,h3,_,h4⟩:=h.xAt (Al1 hi)
  exact ⟨_,b,off,Al1 hi,h3,by rw [← h1];exact h4 3 (by omega) _ rfl⟩
 have hplt:Hid (∀id,-1≤Aw r.l id∧Aw r.l id<r.l.length):=fun id=>Rm r.l id
 have hcok:=Lib.hid h.cok
 have hpast:=hat.past.1
 have hret:Hid (∀(E:Int) (w':World),Aj r.cards r.l x.op=E→E≠0→Fr Non w w'→He r.cards r.l x.op w (.returned (.tuple #[.int .i64 E,.slice none 0 0])) w'):=by
  intro E w' h1 h2 h3
  subst h1
  exact ⟨none,0,0,rfl,fun e=>absurd e h2,h3⟩
 have hfin:Hid (∀(A:Option Addr) (n c:Nat) (w':World),Aj r.cards r.l x.op=0→n=x.past.length→Own w' w.heap.size 3 1 A n c ((Ak r.l x.past).map Qv)→Fr Non w w'→He r.cards r.l x.op w (.returned (.tuple #[.int .i64 0,.slice A n c])) w'):=by
  intro A n c w' h1 h2 h3 h4
  exact ⟨A,n,c,by rw [h1],fun _=>⟨h2,h3⟩,h4⟩
 have hE0:Hid (x.op.chk≠0→Aj r.cards r.l x.op=x.op.chk):=Qt
 have hE1:Hid (x.op.chk=0→(plc r.l x.op.name).isSome=true→Aj r.cards r.l x.op=5):=Qu
 have hE2:Hid (x.op.chk=0→plc r.l x.op.name=none→200≤r.l.length→Aj r.cards r.l x.op=3):=Qw
 have hE3:Hid (x.op.chk=0→plc r.l x.op.name=none→r.l.length<200→Bk r.cards x.by_=none→Aj r.cards r.l x.op=17):=Ab2
 have hE4:Hid (∀c,x.op.chk=0→plc r.l x.op.name=none→r.l.length<200→Bk r.cards x.by_=some c→Sg.check c.s x.op.bare x.r x.s=false→Aj r.cards r.l x.op=12):=fun c=>Ab3
 have hE5:Hid (∀c,x.op.chk=0→plc r.l x.op.name=none→r.l.length<200→Bk r.cards x.by_=some c→Sg.check c.s x.op.bare x.r x.s=true→Aj r.cards r.l x.op=if x.kind=1∧r.l≠[] then 1 else Ev r.l x.op):=fun c=>Ab4
 have hE6:Hid (∀y∈x.past,(plc r.l y).isNone=true→Ev r.l x.op=10):=fun y hy h=>Ab5 hy h
 have hE7:Hid ((∀y∈x.past,∃p,plc r.l y=some p)→Ev r.l x.op=Dn r.l x.op):=Ab6 (o:=x.op)
 have hE8:Hid ((∀y∈x.past,∃p,plc r.l y=some p)→∀(a b p q:Nat) (m:Pn),(Ak r.l x.past)[a]? =some p→(Ak r.l x.past)[b]? =some q→r.l[p]? =some m→m.ps q=true→Dn r.l x.op=6):=fun hp a b p q m h1 h2 h3 h4=>Ab7 (o:=x.op) hfew hp h1 h2 h3 h4
 have hE9:Hid ((∀y∈x.past,∃p,plc r.l y=some p)→∀(a p:Nat) (m:Pn),(Ak r.l x.past)[a]? =some p→r.l[p]? =some m→x.at_<m.o.at_→Dn r.l x.op=6):=fun hp a p m h1 h2 h3=>Ab8 (o:=x.op) hp h1 h2 h3
 have hE10:Hid (0≤x.at_→(∀y∈x.past,∃p,plc r.l y=some p)→(∀(a b p q:Nat) (m:Pn),(Ak r.l x.past)[a]? =some p→(Ak r.l x.past)[b]? =some q→r.l[p]? =some m→m.ps q=false)→(∀(a p:Nat) (m:Pn),(Ak r.l x.past)[a]? =some p→r.l[p]? =some m→m.o.at_≤x.at_)→Dn r.l x.op=if Az r.l (Ah r.l x.past) x.op=true then 11 else 0):=fun h0 hp h1 h2=>Ab9 (o:=x.op) h0 hp h1 h2
 have hsq:Hid (x.op.chk=0→1≤x.sq∧x.sq≤2147483647∧0≤x.at_):=Rv
 have hupl:Hid ((Ak r.l x.past).length=x.past.length):=Gw _ _
 rw [hnm] at hE1 hE2 hE3 hE4 hE5
 clear hnm h hok hat hszx
 generalize He r.cards r.l x.op w=POST at*
 generalize Aj r.cards r.l x.op=EE at*
 generalize Ev r.l x.op=EK at*
 generalize Dn r.l x.op=EP at*
 generalize x.op.chk=CK at*
 obtain ⟨SB,hSB⟩:=Aa (Az r.l (Ah r.l x.past) x.op)
 rw [hSB.out] at hE10
 have kri':Hid (∀(w':World),Fr Non w w'→∀(A:Option Addr) (c:Nat),1≤x.sq→x.sq≤9223372036854775807→Rd w' w'.heap.size 1 A r.l.length (Cs r.l.length (Ah r.l x.past))→Calls Tryz.prog 66 #[.agg r.cells,.agg x.cells,.slice A r.l.length c] w' (Af (!SB) w')):=by
  rw [← hSB.out]
  exact kri.out
 clear kri hSB
 generalize x.op.bare=BR at*
 generalize x.cells=XS at*
 generalize r.cells=CS at*
 generalize r.cards=CD at*
 generalize r.lA=LA at*
 generalize r.lC=LC at*
 generalize r.nA=NA at*
 generalize r.nC=NC at*
 generalize r.l=l at*
 obtain ⟨N,hN⟩:=Aa l.length
 have hnil:Hid (l≠[]↔0<N):=by
  show _↔_
  rw [← hN.out]
  exact List.length_pos_iff.symm
 rw [hN.out] at g1 g4 hfew hin hat27 hplt kpa kri' hE2 hE3 hE4 hE5
 generalize x.pastA=PA at*
 generalize x.pastC=PC at*
 generalize x.past=ids at*
 obtain ⟨M,hM⟩:=Aa ids.length
 rw [hM.out] at x4 hpl hpast hupl kpa hfin
 generalize x.by_=xb at*
 generalize x.sq=xsq at*
 generalize x.kind=xk at*
 generalize x.at_=xat at*
 generalize x.r=xr at*
 generalize x.s=xs at*
 unfold NewB at kby
 unfold Dz at kc8
 unfold Ep at kcd
 unfold Iu at kck
 go_enter Tryz.func16,Tryz.ntmps16
 go_upto_region 1 with (fail)
 generalize (w.alloc (.cells CS 32)).alloc (.cells XS 44)=w0 at*
 go_upto_region 2 with (go_at_call 63;(with_reducible refine (kck.out _ f0).mono ?_);rintro _ w1 ⟨rfl,f1⟩)
 replace bg:=bg.fr f1 zq
 replace bx:=bx.fr f1 zq
 replace f0:=f0.trans f1 zr
 clear kck f1 w0
 by_cases hck:CK=0
 case neg=>
  have t:(CK !=0)=true:=by simp [hck]
  have hd:=Lib.hid (hret.out CK w1 (hE0.out hck) hck f0)
  clear hret hfin hE0 hE1 hE2 hE3 hE4 hE5 hE6 hE7 hE8 hE9 hE10
  as_aux_lemma=>
  go_wp2_with (fail)
  first|exact hd.out|(go_ret2;exact hd.out)
 case pos=>
 obtain ⟨s1,s2,s3⟩:=hsq.out hck
 replace hE1:Hid ((plc l nm).isSome=true→EE=5):=hE1.out hck
 replace hE2:=Lib.hid (hE2.out hck)
 replace hE3:=Lib.hid (hE3.out hck)
 replace hE4:=Lib.hid (fun c=>hE4.out c hck)
 replace hE5:=Lib.hid (fun c=>hE5.out c hck)
 clear hE0 hsq
 subst hck
 have B0:=bg.drew
 have X0:=bx.drew
 have ff0:=f0.drew
 have kP0:=Lib.hid (fun w' hf=>kpl.out nm w' hf)
 have hP1:Hid ((plc l nm).isSome=true↔0≤Aw l nm):=plcI_pos.symm
 have hP2:Hid (Aw l nm<0→plc l nm=none):=fun e=>by
  have:=plcI_neg.1 e
  cases hq:plc l nm with
  |none=>rfl
  |some p=>rw [hq] at this;cases this
 generalize Aw l nm=P0 at*
 go_upto_region 4 with (fail)
 refine wp_region_held_drew (S:=fun w'=>Blk w' w.heap.size 32 CS∧Blk w' (w.heap.size+1) 44 XS) (by kernel_rfl) ⟨B0,X0⟩ (fun hHeld=> ?_)
 clear hHeld
 refine tkH 0 ⟨B0,X0⟩ (h:=tkH 1 ⟨B0,X0⟩ (h:=?_))
 simp only [List.set]
 refine oG 2 (fun K hK=> ?_)
 go_simp
 go_wp2_with (go_at_call 35;(with_reducible refine (kid.out _ ff0).mono ?_);rintro _ v1 ⟨rfl,fq1⟩;have B1:=B0.fr fq1 zq;have X1:=X0.fr fq1 zq;have ff1:=ff0.trans fq1 zr)
 refine hK.out _ _ ⟨B1,X1⟩ (fun hZ=> ?_)
 clear hZ hK K
 try simp only [Ac,List.set]
 refine oG 3 (fun K hK=> ?_)
 go_simp
 go_wp2_with (go_at_call 37;(with_reducible refine (kP0.out _ ff1).mono ?_);rintro _ v2 ⟨rfl,fq2⟩;have B2:=B1.fr fq2 zq;have X2:=X1.fr fq2 zq;have ff2:=ff1.trans fq2 zr)
 refine hK.out _ _ ⟨B2,X2⟩ (fun hZ=> ?_)
 clear hZ hK K
 try simp only [Ac,List.set]
 refine tkH 4 ⟨B2,X2⟩ (h:=?_)
 simp only [List.set]
 refine oD ?_
 go_simp
 clear kid kP0 B0 X0 ff0 B1 X1 ff1 fq1 fq2 v1 bg bx f0 w1
 rcases Am2 P0 0 with hP|hP
 case inr=>
  have t:decide (P0≥0)=true:=decide_eq_true (by omega)
  have t2:decide (0≤P0)=true:=decide_eq_true (by omega)
  have hd:=Lib.hid (hret.out 5 v2 (hE1.out (hP1.out.2 hP)) (by decide) ff2)
  clear hret hfin hE1 hE2 hE3 hE4 hE5 hE6 hE7 hE8 hE9 hE10
  as_aux_lemma=>
  go_wp2_with (fail)
  first|exact hd.out|(go_ret2;exact hd.out)
 case inl=>
 have t:decide (P0≥0)=false:=decide_eq_false (by omega)
 have t2:decide (0≤P0)=false:=decide_eq_false (by omega)
 have hpn:=hP2.out hP
 replace hE2:=Lib.hid (hE2.out hpn)
 replace hE3:=Lib.hid (hE3.out hpn)
 replace hE4:=Lib.hid (fun c=>hE4.out c hpn)
 replace hE5:=Lib.hid (fun c=>hE5.out c hpn)
 clear hE1 hP1 hP2 hpn
 have c1:=(B2.cell 1).trans g1.out
 go_upto_region 6 with (fail)
 clear t t2 hP
 by_cases hfull:200≤N
 case pos=>
  have t:decide ((N:Int)≥200)=true:=decide_eq_true (by omega)
  have t2:decide ((200:Int)≤(N:Int))=true:=decide_eq_true (by omega)
  have hd:=Lib.hid (hret.out 3 v2 (hE2.out hfull) (by decide) ff2)
  clear hret hfin hE2 hE3 hE4 hE5 hE6 hE7 hE8 hE9 hE10
  as_aux_lemma=>
  go_wp2_with (fail)
  first|exact hd.out|(go_ret2;exact hd.out)
 case neg=>
 have t:decide ((N:Int)≥200)=false:=decide_eq_false (by omega)
 have t2:decide ((200:Int)≤(N:Int))=false:=decide_eq_false (by omega)
 have hlt:N<200:=by omega
 replace hE3:=Lib.hid (hE3.out hlt)
 replace hE4:=Lib.hid (fun c=>hE4.out c hlt)
 replace hE5:=Lib.hid (fun c=>hE5.out c hlt)
 clear hE2 hfull hlt
 have cx0:=(X2.cell 0).trans x0.out
 have kc1:=Lib.hid (kcd.out v2 ff2)
 clear kcd
 cases hcd:Bk CD xb
 case none=>
  rw [hcd] at kc1
  have hd:=Lib.hid (fun w' hf=>hret.out 17 w' (hE3.out hcd) (by decide) hf)
  have kc2:Hid (Calls Tryz.prog 64 #[.agg CS,.int .i64 xb] v2 fun e w'=>e=.returned (.tuple #[.agg zC,.bool false])∧Fr Non v2 w'):=kc1.out
  clear hret hfin hE3 hE4 hE5 hE6 hE7 hE8 hE9 hE10 kc1
  as_aux_lemma=>
  go_upto_region 9 with (go_at_call 64;(with_reducible refine (kc2.out).mono ?_);rintro _ v3 ⟨rfl,f3⟩)
  have hd2:=Lib.hid (hd.out _ ((ff2.trans f3 zr).alloc (.cells zC 81)))
  go_wp2_with (fail)
  first|exact hd2.out|(go_ret2;exact hd2.out)
 case some c=>
 have hcs:=hcok.out c (List.mem_of_find?_eq_some hcd)
 rw [hcd] at kc1
 have kc2:Hid (Calls Tryz.prog 64 #[.agg CS,.int .i64 xb] v2 fun e w'=>e=.returned (.tuple #[.agg #[.int .i64 c.d,.int .i64 c.m,.int .u64 (c.l:Int),.int .u64 (c.k:Int),.int .u64 (c.s:Int)],.bool true])∧Fr Non v2 w'):=kc1.out
 replace hE4:=Lib.hid (hE4.out c hcd)
 replace hE5:=Lib.hid (hE5.out c hcd)
 have kc3:=Lib.hid (kc8.out c hcs)
 obtain ⟨sb,hsb⟩:=Aa (Sg.check c.s BR xr xs)
 rw [hsb.out] at hE4 hE5 kc3
 clear kc1 hE3 hcd kc8 hcs hsb hcok
 go_upto_region 9 with (go_at_call 64;(with_reducible refine (kc2.out).mono ?_);rintro _ v3 ⟨rfl,f3⟩)
 have f4:Fr Non v2 (v3.alloc (.cells #[.int .i64 c.d,.int .i64 c.m,.int .u64 (c.l:Int),.int .u64 (c.k:Int),.int .u64 (c.s:Int)] 81)):=f3.alloc _
 have bc:=Blk.new v3 81 #[.int .i64 c.d,.int .i64 c.m,.int .u64 (c.l:Int),.int .u64 (c.k:Int),.int .u64 (c.s:Int)]
 have B3:=B2.fr f4 zq
 have X3:=X2.fr f4 zq
 have ff3:=ff2.trans f4 zr
 obtain ⟨gc,hgc⟩:=Aa v3.heap.size
 rw [hgc.out] at bc ⊢
 generalize v3.alloc (.cells #[.int .i64 c.d,.int .i64 c.m,.int .u64 (c.l:Int),.int .u64 (c.k:Int),.int .u64 (c.s:Int)] 81)=v4 at*
 have S0:v4.drew.cell? ⟨gc,4,none⟩=some (.int .u64 (c.s:Int)):=bc.cell 4
 replace c1:v4.cell? ⟨w.heap.size,1,none⟩=some (.slice LA N LC):=(B3.cell 1).trans g1.out
 clear kc2 f3 f4 hgc B2 X2 ff2 cx0
 go_upto_region 11 with (fail)
 clear t t2
 have R0:v4.drew.cell? ⟨w.heap.size+1,25,none⟩=some (.int .u64 (xr:Int)):=(X3.cell 25).trans x25.out
 have T0:v4.drew.cell? ⟨w.heap.size+1,26,none⟩=some (.int .u64 (xs:Int)):=(X3.cell 26).trans x26.out
 have B0:=B3.drew
 have X0:=X3.drew
 have ff0:=ff3.drew
 clear c1 bc B3 X3 ff3
 refine wp_region_held_drew (S:=fun w'=>Blk w' w.heap.size 32 CS∧Blk w' (w.heap.size+1) 44 XS∧w'.cell? ⟨gc,4,none⟩=some (.int .u64 (c.s:Int))∧w'.cell? ⟨w.heap.size+1,25,none⟩=some (.int .u64 (xr:Int))∧w'.cell? ⟨w.heap.size+1,26,none⟩=some (.int .u64 (xs:Int))) (by kernel_rfl) ⟨B0,X0,S0,R0,T0⟩ (fun hHeld=> ?_)
 clear hHeld
 refine tkH 0 ⟨B0,X0,S0,R0,T0⟩ (h:=tkH 1 ⟨B0,X0,S0,R0,T0⟩ (h:=tkH 2 ⟨B0,X0,S0,R0,T0⟩ (h:=tkH 4 ⟨B0,X0,S0,R0,T0⟩ (h:=tkH 5 ⟨B0,X0,S0,R0,T0⟩ (h:=?_)))))
 simp only [List.set]
 refine oG 3 (fun K hK=> ?_)
 go_simp
 go_wp2_with (go_at_call 62;(with_reducible refine (kby.out _ ff0).mono ?_);rintro _ v1 ⟨A1,c1,rfl,oo1,fr1⟩;have B1:=B0.fr fr1 zq;have X1:=X0.fr fr1 zq;have S1:=fr1.cell S0 zq;have R1:=fr1.cell R0 zq;have T1:=fr1.cell T0 zq;have ff1:=ff0.trans fr1 zr)
 refine hK.out _ _ ⟨B1,X1,S1,R1,T1⟩ (fun hZ=> ?_)
 clear hZ hK K
 try simp only [Ac,List.set]
 refine oG 6 (fun K hK=> ?_)
 go_simp
 go_wp2_with (go_at_call 65;(with_reducible refine (kc3.out _ _ _ _ oo1).mono ?_);rintro _ v2 ⟨rfl,fr2⟩;have B2:=B1.fr fr2 zq;have X2:=X1.fr fr2 zq;have S2:=fr2.cell S1 zq;have R2:=fr2.cell R1 zq;have T2:=fr2.cell T1 zq;have ff2:=ff1.trans fr2 zr)
 refine hK.out _ _ ⟨B2,X2,S2,R2,T2⟩ (fun hZ=> ?_)
 clear hZ hK K
 try simp only [Ac,List.set]
 refine tkH 7 ⟨B2,X2,S2,R2,T2⟩ (h:=?_)
 simp only [List.set]
 refine oD ?_
 go_simp
 clear kby kc3 B0 X0 ff0 B1 X1 ff1 S0 S1 S2 R0 R1 R2 T0 T1 T2 oo1 fr1 fr2 v3 v1 v4
 cases sb
 case false=>
  have hd:=Lib.hid (hret.out 12 v2 (hE4.out rfl) (by decide) ff2)
  clear hret hfin hE4 hE5 hE6 hE7 hE8 hE9 hE10
  as_aux_lemma=>
  go_wp2_with (fail)
  first|exact hd.out|(go_ret2;exact hd.out)
 case true=>
 replace hE5:=Lib.hid (hE5.out rfl)
 clear hE4
 have c1:=(B2.cell 1).trans g1.out
 have c2x:=(X2.cell 2).trans x2.out
 go_upto_region 14 with (fail)
 obtain ⟨kb,hkb⟩:=Aa (xk==1&&decide ((0:Int)<(N:Int)))
 go_cut [55] from 47 to 55 (fun s wc=>v2=wc∧s=.bool kb)
 case first=>
  clear hret hfin hE5 hE6 hE7 hE8 hE9 hE10
  as_aux_lemma=>
  rcases zb (xk==1) with t1|t1
  ·
   have hv:Hid (decide ((0:Int)<(N:Int))=kb):=by show _=_;rw [← hkb.out,t1];rfl
   go_wp2_with (fail)
   go_meet
   exact ⟨rfl,congrArg Value.bool (by rw [← hv.out];first|rfl|exact decide_eq_decide.2 (by omega))⟩
  ·
   have hv:Hid (false=kb):=by show _=_;rw [← hkb.out,t1];rfl
   go_wp2_with (fail)
   go_meet
   exact ⟨rfl,congrArg Value.bool hv.out⟩
 case rest=>
 obtain ⟨rfl,rfl⟩:=hcut
 clear c1 c2x
 cases kb
 case true=>
  have hd:=Lib.hid (hret.out 1 v2 (by
   have h1:=hkb.out
   rw [Al6,beq_iff_eq,decide_eq_true_iff] at h1
   rw [hE5.out,if_pos ⟨h1.1,hnil.out.2 (by omega)⟩]) (by decide) ff2)
  clear hret hfin hE5 hE6 hE7 hE8 hE9 hE10
  as_aux_lemma=>
  go_wp2_with (fail)
  first|exact hd.out|(go_ret2;exact hd.out)
 case false=>
 replace hE5:Hid (EE=EK):=by
  show _=_
  have h1:=hkb.out
  rw [Bool.and_eq_false_iff,beq_eq_false_iff_ne,decide_eq_false_iff_not] at h1
  rw [hE5.out,if_neg (fun e=>by
   rcases h1 with h1|h1
   · exact h1 e.1
   ·
    have:=hnil.out.1 e.2
    omega)]
 clear hkb hnil
 rw [← hE5.out] at hE6 hE7
 clear hE5
 have sz0:=ff2.size
 have bgl:=B2.lt
 go_upto_region 16 with (fail)
 go_wp2_with (fail)
 generalize v2=wL at*
 go_loopw [10,11] (fun s v wr=>∃(k:Nat) (A:Option Addr) (cc:Nat),v=.int .i64 (k:Int)∧s=.slice A k cc∧k≤M∧Hid (∀y∈ids.take k,∃p,plc l y=some p)∧Own wr wL.heap.size 3 1 A k cc ((Ak l (ids.take k)).map Qv)∧Fr Non wL wr) (fun _ v _=>M-(intOf v).toNat)
 case atStart=>exact ⟨0,none,0,rfl,rfl,by omega,fun y hy=>absurd hy (by simp),Own.nil _ _ _ _,Fr.refl _ _⟩
 case round=>
  obtain ⟨k,A,cc,rfl,rfl,hk,hpl2,hown,hf⟩:=hrel
  have hfw:Fr Non w wr:=ff2.trans hf zr
  have hrow:=hown.row
  have c4:=((X2.fr hf zq).cell 4).trans x4.out
  by_cases hlt:k<M
  ·
   obtain ⟨y,hy⟩:∃y,ids[k]? =some y:=⟨_,Al1 (by rw [hM.out];exact hlt)⟩
   obtain ⟨b,off,rfl,hbB,k0,k1,k2⟩:=Id.at (hpast.fr hfw zr) hy
   have i1:(0:Int)≤k:=by omega
   have i2:(k:Int)<M:=by omega
   have i3:(k:Int).toNat=k:=by omega
   have B0:=(B2.fr hf zq).drew
   have ff0:Fr Non w wr.drew:=hfw.drew
   have Q0:wr.drew.cell? ⟨w.heap.size+1,4,none⟩=some (.slice (some ⟨b,off,none⟩) M PC):=c4
   have K00:wr.drew.cell? ⟨b,off+k*3,none⟩=some (.int .i64 y.b):=k0
   have K10:wr.drew.cell? ⟨b,off+k*3+1,none⟩=some (.int .i64 y.s):=k1
   have K20:wr.drew.cell? ⟨b,off+k*3+2,none⟩=some (.int .u64 (y.u:Int)):=k2
   have O0:Own wr.drew wL.heap.size 3 1 A k cc ((Ak l (ids.take k)).map Qv):=hown.drew
   have H0:Fr Non wL wr.drew:=hf.drew
   have kpy:=Lib.hid (kpl.out y wr.drew ff0)
   have hno:Hid (Aw l y<0→EE=10):=fun e=>hE6.out y (Al5 hy) (plcI_neg.1 e)
   have hyes:Hid (∀p:Nat,Aw l y=(p:Int)→(∀z∈ids.take (k+1),∃p,plc l z=some p)∧(Ak l (ids.take (k+1))).map Qv=(Ak l (ids.take k)).map Qv++[Qv p]):=by
    intro p hp
    have hp':plc l y=some p:=by
     unfold Aw at hp
     cases hq:plc l y with
     |none=>rw [hq] at hp;dsimp only at hp;omega
     |some i=>rw [hq] at hp;dsimp only at hp;exact congrArg some (by omega)
    refine ⟨fun z hz=> ?_,by rw [Af1 hy hp',Al2];rfl⟩
    rw [Ea hy] at hz
    rcases List.mem_append.1 hz with h1|h1
    · exact hpl2.out z h1
    ·
     rw [Al7] at h1
     exact ⟨p,by rw [h1];exact hp'⟩
   clear hy k0 k1 k2 hown hf hfw kpl hE6 hE7 hE8 hE9 hE10 hin hat27 hplt kpa kri'
   generalize Aw l y=P at*
   go_upto_region 20 with (fail)
   clear c4
   refine wp_region_held_drew (S:=fun w'=>Blk w' w.heap.size 32 CS∧w'.cell? ⟨w.heap.size+1,4,none⟩=some (.slice (some ⟨b,off,none⟩) M PC)∧w'.cell? ⟨b,off+k*3,none⟩=some (.int .i64 y.b)∧w'.cell? ⟨b,off+k*3+1,none⟩=some (.int .i64 y.s)∧w'.cell? ⟨b,off+k*3+2,none⟩=some (.int .u64 (y.u:Int))) (by kernel_rfl) ⟨B0,Q0,K00,K10,K20⟩ (fun hHeld=> ?_)
   clear hHeld
   refine tkH 0 ⟨B0,Q0,K00,K10,K20⟩ (h:=tkH 1 ⟨B0,Q0,K00,K10,K20⟩ (h:=tkH 2 ⟨B0,Q0,K00,K10,K20⟩ (h:=tkH 3 ⟨B0,Q0,K00,K10,K20⟩ (h:=tkH 4 ⟨B0,Q0,K00,K10,K20⟩ (h:=tkH 5 ⟨B0,Q0,K00,K10,K20⟩ (h:=?_))))))
   simp only [List.set]
   refine oG 6 (fun K hK=> ?_)
   go_simp
   go_wp2_with (go_at_call 37;(with_reducible refine (kpy.out).mono ?_);rintro _ v1 ⟨rfl,fs1⟩;have B1:=B0.fr fs1 zq;have Q1:=fs1.cell Q0 zq;have K01:=fs1.cell K00 zq;have K11:=fs1.cell K10 zq;have K21:=fs1.cell K20 zq;have ff1:=ff0.trans fs1 zr;have O1:=O0.fr fs1 zr;have H1:=H0.trans fs1 zr)
   refine hK.out _ _ ⟨B1,Q1,K01,K11,K21⟩ (fun hZ=> ?_)
   clear hZ hK K
   try simp only [Ac,List.set]
   refine tkH 7 ⟨B1,Q1,K01,K11,K21⟩ (h:=?_)
   simp only [List.set]
   refine oD ?_
   go_simp
   clear kpy B0 B1 ff0 Q0 Q1 K00 K10 K20 K01 K11 K21 O0 H0 fs1
   rcases Am2 P 0 with hP|hP
   ·
    have t:decide (P<0)=true:=decide_eq_true hP
    have hd:=Lib.hid (hret.out 10 v1 (hno.out hP) (by decide) ff1)
    clear hret hfin hno hyes
    go_wp2_with (fail)
    first|exact hd.out|(go_ret2;exact hd.out)
   ·
    obtain ⟨p,rfl⟩:∃p:Nat,P=(p:Int):=⟨P.toNat,by omega⟩
    have t:decide ((p:Int)<0)=false:=decide_eq_false (by omega)
    obtain ⟨hal,hup⟩:=hyes.out p rfl
    replace hal:=Lib.hid hal
    have own3:=O1.alloc (.cells #[.int .i64 (p:Int)] 3)
    have fr3:=H1.alloc (.cells #[.int .i64 (p:Int)] 3)
    have hnb:=Blk.new v1 3 #[.int .i64 (p:Int)]
    have hs2:=H1.size
    clear hno hyes hret hfin
    go_wp2_with (at_builtin;go_loud (refine Bb (base:=wL.heap.size) (.tmp 72) (.tmp 74) 22 rfl rfl rfl rfl Gp own3 (Rd.blk (n:=1) (size:=1) hnb rfl) (by simp [Value.oneCell']) (by omega) (by omega) (by rw [Am4];omega) ?_);intro A2 c2' w4 own4 fr4 hat4)
    have fr5:Fr Non wL w4:=fr3.trans fr4 (fun j hj e=>by have h5:=(hrow j e).1;omega)
    go_roundw
    case rel=>exact ⟨k+1,A2,c2',by go_num,rfl,by omega,hal,by rw [hup];exact own4,fr5⟩
    case measure=>simp [intOf];omega
  ·
   obtain rfl:k=M:=by omega
   have hal:∀y∈ids,∃p,plc l y=some p:=by
    have h1:=hpl2.out
    rwa [Al3 (by rw [hM.out];omega)] at h1
   have hown2:Own wr wL.heap.size 3 1 A k cc ((Ak l ids).map Qv):=by
    have h1:=hown
    rwa [Al3 (by rw [hM.out];omega)] at h1
   have hEP:=hE7.out hal
   replace hE8:=hE8.out hal
   replace hE9:=hE9.out hal
   replace hE10:=hE10.out s3 hal
   rw [← hEP] at hE8 hE9 hE10
   have hltU:∀(a p:Nat),(Ak l ids)[a]? =some p→p<N:=fun a p ha=>by
    rw [← hN.out]
    exact Ko hal p (Al5 ha)
   have kpa2:=Lib.hid (fun w' (hf':Fr Non w w') ho=>kpa.out A k cc w' wL.heap.size hf' hal rfl ho)
   replace hE8:=Lib.hid hE8
   replace hE9:=Lib.hid hE9
   replace hE10:=Lib.hid hE10
   replace hltU:=Lib.hid hltU
   clear hE6 hE7 hpl2 hown hal hEP kpl kpa
   generalize Ak l ids=US at*
   have B3:=B2.fr hf zq
   have X3:=X2.fr hf zq
   clear B2 X2
   go_wp2_with (fail)
   clear c4
   have szw:=hfw.size
   have hU:Hid (∀(a p:Nat),US[a]? =some p→a<k∧∃bU offU,A=some ⟨bU,offU,none⟩∧wr.cell? ⟨bU,offU+a,none⟩=some (.int .i64 (p:Int))):=by
    intro a p ha
    have hlt:a<k:=by
     have:=(List.getElem?_eq_some_iff.1 ha).1
     rw [hupl.out] at this
     exact this
    obtain ⟨bU,offU,u,h1,_,h2,h3⟩:=hown2.rd.at hlt
    rw [Am1,ha] at h2
    injection h2 with h2
    subst h2
    exact ⟨hlt,bU,offU,h1,h3⟩
   have hfB:Hid (∀wz,Fr Non wr wz→wz.cell? ⟨w.heap.size,1,none⟩=some (.slice LA N LC)∧wz.cell? ⟨w.heap.size,4,none⟩=some (.slice NA N NC)∧wz.cell? ⟨w.heap.size+1,3,none⟩=some (.int .i64 xat)):=fun wz hz=>
    ⟨((B3.fr hz zq).cell 1).trans g1.out,((B3.fr hz zq).cell 4).trans g4.out,((X3.fr hz zq).cell 3).trans x3.out⟩
   obtain ⟨wM,hwM⟩:∃wM:World,wM=wr:=⟨_,rfl⟩
   subst hwM
   go_loopw [13] (fun v wr=>∃i:Nat,v=.int .i64 (i:Int)∧i≤k∧Hid (∀(a b p q:Nat) (m:Pn),a<i→US[a]? =some p→US[b]? =some q→l[p]? =some m→m.ps q=false)∧Hid (∀(a p:Nat) (m:Pn),a<i→US[a]? =some p→l[p]? =some m→m.o.at_≤xat)∧Fr Non wM wr) (fun v _=>k-(intOf v).toNat)
   case atStart=>exact ⟨0,rfl,by omega,fun a b p q m h=>absurd h (Am3 _),fun a p m h=>absurd h (Am3 _),Fr.refl _ _⟩
   case round=>
    obtain ⟨i,rfl,hik,hcl,hlt8,hf8⟩:=hrel
    by_cases hi:i<k
    ·
     have i1:(0:Int)≤i:=by omega
     have i2:(i:Int)<k:=by omega
     have i3:(i:Int).toNat=i:=by omega
     obtain ⟨pi,hpi⟩:∃p,US[i]? =some p:=⟨_,Al1 (by rw [hupl.out];exact hi)⟩
     have hpN:=hltU.out i pi hpi
     obtain ⟨_,bU,offU,rfl,cpi⟩:=hU.out i pi hpi
     obtain ⟨m,A2,c2,b2,off2,hm,rfl,cm,hrow2⟩:=hin.out pi hpN
     obtain ⟨m',bL,offL,hm',rfl,cat⟩:=hat27.out pi hpN
     rw [hm] at hm'
     injection hm' with hm'
     subst hm'
     have p1:(0:Int)≤pi:=by omega
     have p2:(pi:Int)<N:=by omega
     have p3:(pi:Int).toNat=pi:=by omega
     have hE8i:Hid (∀(b q:Nat),US[b]? =some q→m.ps q=true→EE=6):=fun b q hb hq=>hE8.out i b pi q m hpi hb hm hq
     have hE9i:Hid (xat<m.o.at_→EE=6):=fun e=>hE9.out i pi m hpi hm e
     have hcl2:Hid ((∀(b q:Nat),US[b]? =some q→m.ps q=false)→∀(a b p q:Nat) (m:Pn),a<i+1→US[a]? =some p→US[b]? =some q→l[p]? =some m→m.ps q=false):=by
      intro hh a b p q m2 ha h1 h2 h3
      rcases Al4 a i with h4|h4
      · exact hcl.out a b p q m2 h4 h1 h2 h3
      ·
       have e:a=i:=by omega
       subst e
       rw [hpi] at h1
       injection h1 with h1
       subst h1
       rw [hm] at h3
       injection h3 with h3
       subst h3
       exact hh b q h2
     have hlt9:Hid (m.o.at_≤xat→∀(a p:Nat) (m:Pn),a<i+1→US[a]? =some p→l[p]? =some m→m.o.at_≤xat):=by
      intro hh a p m2 ha h1 h3
      rcases Al4 a i with h4|h4
      · exact hlt8.out a p m2 h4 h1 h3
      ·
       have e:a=i:=by omega
       subst e
       rw [hpi] at h1
       injection h1 with h1
       subst h1
       rw [hm] at h3
       injection h3 with h3
       subst h3
       exact hh
     obtain ⟨wo,hwo⟩:∃wo:World,wo=wr:=⟨_,rfl⟩
     subst hwo
     clear hcl hlt8 hm hpi hin hat27 hE8 hE9
     go_wp2_with (fail)
     go_loopw [14] (fun v wr=>∃j:Nat,v=.int .i64 (j:Int)∧j≤k∧Hid (∀(b q:Nat),b<j→US[b]? =some q→m.ps q=false)∧Fr Non wo wr) (fun v _=>k-(intOf v).toNat)
     case atStart=>exact ⟨0,rfl,by omega,fun b q h=>absurd h (Am3 _),Fr.refl _ _⟩
     case round=>
      obtain ⟨j,rfl,hjk,hno,hf9⟩:=hrel
      have hfz:Fr Non wM wr:=hf8.trans hf9 zr
      obtain ⟨d1,d4,d3⟩:=hfB.out wr hfz
      have cpz:=hfz.cell cpi zq
      by_cases hj:j<k
      ·
       have j1:(0:Int)≤j:=by omega
       have j2:(j:Int)<k:=by omega
       have j3:(j:Int).toNat=j:=by omega
       obtain ⟨qj,hqj⟩:∃p,US[j]? =some p:=⟨_,Al1 (by rw [hupl.out];exact hj)⟩
       have hqN:=hltU.out j qj hqj
       obtain ⟨_,bU',offU',eU,cqj⟩:=hU.out j qj hqj
       injection eU with eU
       injection eU with e1 e2
       subst e1 e2
       obtain ⟨b3,off3,rfl,cmq⟩:=hrow2 qj hqN
       have q1:(0:Int)≤qj:=by omega
       have q2:(qj:Int)<N:=by omega
       have q3:(qj:Int).toNat=qj:=by omega
       have cqz:=hfz.cell cqj zq
       have cmz:=(hfw.trans hfz zr).cell cm zq
       have cmqz:=(hfw.trans hfz zr).cell cmq zq
       have hE8j:=Lib.hid (hE8i.out j qj hqj)
       have hno2:Hid (m.ps qj=false→∀(b q:Nat),b<j+1→US[b]? =some q→m.ps q=false):=by
        intro hh b q hb h1
        rcases Al4 b j with h4|h4
        · exact hno.out b q h4 h1
        ·
         have e:b=j:=by omega
         subst e
         rw [hqj] at h1
         injection h1 with h1
         subst h1
         exact hh
       clear hno hqj hE8i hE9i hcl2 hlt9 cm cmq cqj cpi cat hrow2 hE10 kpa2 kri' hU hfB d1 d3
       generalize m.ps qj=mq at*
       cases mq
       case true=>
        have hd:=Lib.hid (fun wz hz=>hret.out 6 wz (hE8j.out rfl) (by decide) hz)
        have hfww:Fr Non w wr:=hfw.trans hfz zr
        clear hret hfin hE8j hno2
        go_wp2_with (fail)
        go_quiet (fail)
        go_wp2_with (fail)
        first|exact hd.out _ (hfww.drewN _)|(go_ret2;exact hd.out _ (hfww.drewN _))
       case false=>
        have hno3:=Lib.hid (hno2.out rfl)
        clear hret hfin hE8j hno2
        go_wp2_with (fail)
        go_quiet (fail)
        go_wp2_with (fail)
        go_roundw
        case rel=>exact ⟨j+1,by go_num,by omega,hno3,hf9.drewN _⟩
        case measure=>simp [intOf];omega
      ·
       obtain rfl:j=k:=by omega
       have hcl3:=Lib.hid (hcl2.out (fun b q hb=>hno.out b q (hU.out b q hb).1 hb))
       have catz:=(hfw.trans hfz zr).cell cat zq
       have hfww:Fr Non w wr:=hfw.trans hfz zr
       clear hcl2 hno hE8i cm cat hrow2 hE10 kpa2 kri' hU hfB d4
       generalize m.o.at_=ma at*
       rcases Am2 xat ma with hla|hla
       ·
        have t:decide (xat<ma)=true:=decide_eq_true hla
        have hd:=Lib.hid (fun wz hz=>hret.out 6 wz (hE9i.out hla) (by decide) hz)
        clear hret hfin hE9i hlt9
        go_wp2_with (fail)
        go_quiet (fail)
        go_wp2_with (fail)
        first|exact hd.out _ (hfww.drewN _)|(go_ret2;exact hd.out _ (hfww.drewN _))
       ·
        have t:decide (xat<ma)=false:=decide_eq_false (by omega)
        have hlt10:=Lib.hid (hlt9.out hla)
        clear hret hfin hE9i hlt9
        go_wp2_with (fail)
        go_quiet (fail)
        go_wp2_with (fail)
        go_roundw
        case rel=>exact ⟨i+1,by go_num,by omega,hcl3,hlt10,hfz.drewN _⟩
        case measure=>simp [intOf];omega
    ·
     obtain rfl:i=k:=by omega
     have hEf:Hid (EE=if SB=true then 11 else 0):=hE10.out (fun a b p q m h1 h2 h3=>hcl.out a b p q m (hU.out a p h1).1 h1 h2 h3) (fun a p m h1 h3=>hlt8.out a p m (hU.out a p h1).1 h1 h3)
     have B0:=(B3.fr hf8 zq).drew
     have X0:=(X3.fr hf8 zq).drew
     have ff0:Fr Non w wr.drew:=(hfw.trans hf8 zr).drew
     have O0:Own wr.drew wL.heap.size 3 1 A i cc (US.map Qv):=(hown2.fr hf8 zr).drew
     clear hcl hlt8 hE8 hE9 hE10 hU hfB hin hat27 B3 X3 hown2 hf8 hfw hf
     go_upto_region 34 with (fail)
     refine wp_region_held_drew (S:=fun w'=>Blk w' w.heap.size 32 CS∧Blk w' (w.heap.size+1) 44 XS) (by kernel_rfl) ⟨B0,X0⟩ (fun hHeld=> ?_)
     clear hHeld
     refine tkH 0 ⟨B0,X0⟩ (h:=tkH 1 ⟨B0,X0⟩ (h:=tkH 2 ⟨B0,X0⟩ (h:=tkH 3 ⟨B0,X0⟩ (h:=?_))))
     simp only [List.set]
     refine oG 4 (fun K hK=> ?_)
     go_simp
     go_wp2_with (go_at_call 67;(with_reducible refine (kpa2.out _ ff0 O0).mono ?_);rintro _ v1 ⟨A1,c1,rfl,op1,ft1⟩;have B1:=B0.fr ft1 zq;have X1:=X0.fr ft1 zq;have ff1:=ff0.trans ft1 zr;have O1:=O0.fr ft1 zr)
     refine hK.out _ _ ⟨B1,X1⟩ (fun hZ=> ?_)
     clear hZ hK K
     try simp only [Ac,List.set]
     refine oG 5 (fun K hK=> ?_)
     go_simp
     go_wp2_with (go_at_call 66;(with_reducible refine (kri'.out _ ff1 _ _ s1 (by omega) op1.rd).mono ?_);rintro _ v2 ⟨rfl,ft2⟩;have B2:=B1.fr ft2 zq;have X2:=X1.fr ft2 zq;have ff2:=ff1.trans ft2 zr;have O2:=O1.fr ft2 zr)
     refine hK.out _ _ ⟨B2,X2⟩ (fun hZ=> ?_)
     clear hZ hK K
     try simp only [Ac,List.set]
     refine tkH 6 ⟨B2,X2⟩ (h:=?_)
     simp only [List.set]
     refine oD ?_
     go_simp
     clear kpa2 kri' B0 B1 B2 X0 X1 X2 ff0 ff1 O0 O1 op1
     have sz9:=sz0
     cases SB
     case true=>
      have hd:=Lib.hid (hret.out 11 v2 (by rw [hEf.out];rfl) (by decide) ff2)
      clear hret hfin hEf
      go_wp2_with (fail)
      first|exact hd.out|(go_ret2;exact hd.out)
     case false=>
      have hd:=Lib.hid (hfin.out A i cc v2 (by rw [hEf.out];rfl) rfl (O2.lower sz0) ff2)
      clear hret hfin hEf
      go_wp2_with (fail)
      first|exact hd.out|(go_ret2;exact hd.out)
end Oq
end
section
open Go.RowKit
namespace Oq
theorem E5:SlT Tryz.prog 27 44 (.agg zO) 27 328:=⟨Tryz.underlying27,by kernel_rfl,rfl,by decide⟩
theorem slIi:SlT Tryz.prog 29 22 (.slice none 0 0) 1 24:=⟨Tryz.underlying29,by kernel_rfl,rfl,by decide⟩
theorem slBb:SlT Tryz.prog 30 112 (.slice none 0 0) 1 24:=⟨Tryz.underlying30,by kernel_rfl,rfl,by decide⟩
structure KA (w wv:World) (nb:Nat) (GS XS ZS cs:Array Value):Prop where
 bg:Blk wv w.heap.size 32 GS
 bx:Blk wv (w.heap.size+1) 44 XS
 br:Blk wv (w.heap.size+2) 32 ZS
 bn:Blk wv nb 32 cs
 nb:w.heap.size+3≤nb
 fr:Fr Non w wv
theorem KA.over {S:Nat→Prop} {w wv w':World} {nb:Nat} {GS XS ZS cs:Array Value} (h:KA w wv nb GS XS ZS cs) (hf:Fr S wv w') (hS:∀k,S k→w.heap.size+3≤k) (hn:¬S nb):KA w w' nb GS XS ZS cs where
 bg:=h.bg.fr hf (fun e=>by have:=hS _ e;omega)
 bx:=h.bx.fr hf (fun e=>by have:=hS _ e;omega)
 br:=h.br.fr hf (fun e=>by have:=hS _ e;omega)
 bn:=h.bn.fr hf hn
 nb:=h.nb
 fr:=h.fr.trans hf (fun k hk e=>by have:=hS _ e;omega)
theorem KA.non {w wv w':World} {nb:Nat} {GS XS ZS cs:Array Value} (h:KA w wv nb GS XS ZS cs) (hf:Fr Non wv w'):KA w w' nb GS XS ZS cs:=h.over hf (fun _ e=>e.elim) zq
theorem KA.set {w wv:World} {nb:Nat} {GS XS ZS cs:Array Value} (h:KA w wv nb GS XS ZS cs) (i:Nat) (v:Value):KA w (wv.setCell ⟨nb,i,none⟩ v) nb GS XS ZS (cs.setIfInBounds i v) where
 bg:=h.bg.far (p:=⟨_,_,_⟩) (by have:=h.nb;show _≠nb;omega) _
 bx:=h.bx.far (p:=⟨_,_,_⟩) (by have:=h.nb;show _≠nb;omega) _
 br:=h.br.far (p:=⟨_,_,_⟩) (by have:=h.nb;show _≠nb;omega) _
 bn:=h.bn.set i v
 nb:=h.nb
 fr:=h.fr.setNew (by have:=h.nb;omega) i v
theorem Own.ne2 {w:World} {b b' size size' n n' c c':Nat} {t t':TypeId} {A A':Option Addr} {xs xs':List Value} (h:Own w b t size A n c xs) (h':Own w b' t' size' A' n' c' xs') (hne:t≠t'):∀k,Ab A=some k→Ab A'≠some k:=by
 intro k hk hk'
 rcases h.2 with ⟨hv,_⟩|⟨g,cap,cur,hv,_,hg,_⟩
 ·
  injection hv with hA
  subst hA
  cases hk
 ·
  injection hv with hA
  subst hA
  injection hk with hk
  have hk2:g=k:=hk
  subst hk2
  exact Own.ne h' (g:=g) (t:=t) (cs:=cur) hg (fun e=>hne e.symm) hk'
theorem Own.setFar {w:World} {b size n c nb i:Nat} {t:TypeId} {A:Option Addr} {xs:List Value} {cs:Array Value} {t':TypeId} (h:Own w b t size A n c xs) (hb:Blk w nb t' cs) (hne:t≠t') (v:Value):Own (w.setCell ⟨nb,i,none⟩ v) b t size A n c xs:=
 h.setOne (h.ne hb hne)
theorem Own.grow2 {w w':World} {b b' size size' n n' c c':Nat} {t t':TypeId} {A A':Option Addr} {xs xs':List Value} (h:Own w b t size A n c xs) (h':Own w b' t' size' A' n' c' xs') (hne:t≠t') (hf:Fr (fun k=>Ab A'=some k) w w'):Own w' b t size A n c xs:=
 h.fr hf (fun k hk e=>Own.ne2 h h' hne k hk e)
theorem Gf {w w':World} (h:Fr (fun k=>Ab none=some k) w w'):Fr Non w w':=h.mono (fun _ _ e=>by cases e)
theorem Af3 (l:List Pn) (o:Op):(Av l o).id=o.name:=rfl
theorem Af4 (l:List Pn) (o:Op):(Av l o).o=o:=rfl
theorem Cz (b s:Int) (u:Nat) (hb:I64 b) (hs:I64 s) (hu:U64 u):(Id.mk b s u).ok:=⟨hb,hs,hu⟩
theorem Af5 (r:RG) (o:Op):(r.l++[Av r.l o]).map Pn.id=r.ids++[o.name]:=by
 unfold RG.ids
 rw [Al2]
 rfl
def RG.more (r:RG) (x:OpL) (lA:Option Addr) (lC:Nat) (iA:Option Addr) (iC:Nat) (uA:Option Addr) (uC:Nat) (nA:Option Addr) (nC:Nat) (u:UpL) (ns:List InL):RG:=
 {cA:=r.cA,cC:=r.cC,cards:=r.cards,lA:=lA,lC:=lC,xs:=r.xs++[x],iA:=iA,iC:=iC,uA:=uA,uC:=uC,us:=r.us++[u],nA:=nA,nC:=nC,ns:=ns,l:=r.l++[Av r.l x.op]}
theorem Af6 {w wz:World} {base:Nat} {r:RG} {x:OpL} {lA iA uA nA:Option Addr} {lC iC uC nC:Nat} {u:UpL} {ns:List InL} (h:r.own w base) (hx:x.own w base) (hok:x.op.ok) (hf:Fr Non w wz) (hb:base≤w.heap.size+3) (he:Aj r.cards r.l x.op=0)
  (oL:Own wz (w.heap.size+3) 44 27 lA (r.l.length+1) lC (r.xs.flatMap (fun x=>x.cells.toList)++x.cells.toList))
  (oI:Own wz (w.heap.size+3) 38 3 iA (r.l.length+1) iC (r.ids.flatMap Id.cells++x.op.name.cells))
  (oU:Own wz (w.heap.size+3) 22 1 uA (r.l.length+1) uC (r.us.map UpL.cell++[u.cell])) (ou:u.own wz base) (hu:u.xs=Ak r.l x.op.past)
  (oN:Own wz (w.heap.size+3) 112 1 nA (r.l.length+1) nC (ns.map InL.cell)) (on:∀y∈ns,y.own wz base) (hn:ns.map InL.bs=(Dd r.l).map (· ++[false])++[Br r.l.length (Ah r.l x.op.past)++[false]]):
  (r.more x lA lC iA iC uA uC nA nC u ns).own wz base:=by
 have T:=Gv he
 have hlen:(r.l++[Av r.l x.op]).length=r.l.length+1:=by rw [List.length_append];rfl
 refine ⟨h.cards.non hf,?_,?_,?_,?_,?_,?_,?_,?_,?_,?_,?_,Rows.snoc r.l x.op h.rows he,h.cfew,h.cok⟩
 ·
  show RowAt wz base 44 27 lA (r.l++[Av r.l x.op]).length lC ((r.xs++[x]).flatMap (fun x=>x.cells.toList))
  rw [hlen,Am5,Am6,Am7,List.append_nil]
  exact (RowAt.of_own oL).lower hb
 ·
  intro y hy
  rcases List.mem_append.1 hy with h1|h1
  · exact (h.each y h1).non hf
  ·
   rw [Al7] at h1
   rw [h1]
   exact hx.non hf
 ·
  show (r.xs++[x]).map OpL.op=(r.l++[Av r.l x.op]).map Pn.o
  rw [Al2,Al2,h.same]
  rfl
 ·
  intro n hn'
  rcases List.mem_append.1 hn' with h1|h1
  · exact h.ok n h1
  ·
   rw [Al7] at h1
   rw [h1,Af4,Af3]
   exact ⟨hok,Eb hok⟩
 ·
  show RowAt wz base 38 3 iA (r.l++[Av r.l x.op]).length iC (((r.l++[Av r.l x.op]).map Pn.id).flatMap Id.cells)
  rw [hlen,Af5,Am5,Am6,Am7,List.append_nil]
  exact (RowAt.of_own oI).lower hb
 ·
  show RowAt wz base 22 1 uA (r.l++[Av r.l x.op]).length uC ((r.us++[u]).map UpL.cell)
  rw [hlen,Al2]
  exact (RowAt.of_own oU).lower hb
 ·
  intro y hy
  rcases List.mem_append.1 hy with h1|h1
  · exact RowAt.non (h.eachU y h1) hf
  ·
   rw [Al7] at h1
   rw [h1]
   exact ou
 ·
  show (r.us++[u]).map UpL.xs=Fh (r.l++[Av r.l x.op])
  rw [Wf h.rows T,Al2,h.sameU,← hu]
  rfl
 ·
  show RowAt wz base 112 1 nA (r.l++[Av r.l x.op]).length nC (ns.map InL.cell)
  rw [hlen]
  exact (RowAt.of_own oN).lower hb
 · exact on
 ·
  show ns.map InL.bs=Dd (r.l++[Av r.l x.op])
  rw [Wg h.rows T,hn]
structure KR (b:Nat) (wv:World) (lA:Option Addr) (nL lC:Nat) (LX:List Value) (iA:Option Addr) (nI iC:Nat) (IX:List Value) (uA:Option Addr) (nU uC:Nat) (UX:List Value) (A1:Option Addr) (M c1:Nat) (UP:List Value) (A2:Option Addr) (N c2:Nat) (BX:List Value):Prop where
 oL:Own wv b 44 27 lA nL lC LX
 oI:Own wv b 38 3 iA nI iC IX
 oU:Own wv b 22 1 uA nU uC UX
 oA:Own wv b 3 1 A1 M c1 UP
 oB:Own wv b 4 1 A2 N c2 BX
section
variable {b : Nat} {wv w' : World} {lA iA uA A1 A2 : Option Addr} {nL lC nI iC nU uC M c1 N c2 : Nat} {LX IX UX UP BX : List Value}
theorem KR.non (h:KR b wv lA nL lC LX iA nI iC IX uA nU uC UX A1 M c1 UP A2 N c2 BX) (hf:Fr Non wv w'):KR b w' lA nL lC LX iA nI iC IX uA nU uC UX A1 M c1 UP A2 N c2 BX:=
 ⟨h.oL.fr hf zr,h.oI.fr hf zr,h.oU.fr hf zr,h.oA.fr hf zr,h.oB.fr hf zr⟩
theorem KR.setFar {nb i:Nat} {cs:Array Value} (h:KR b wv lA nL lC LX iA nI iC IX uA nU uC UX A1 M c1 UP A2 N c2 BX) (hb:Blk wv nb 32 cs) (v:Value):KR b (wv.setCell ⟨nb,i,none⟩ v) lA nL lC LX iA nI iC IX uA nU uC UX A1 M c1 UP A2 N c2 BX:=
 ⟨Own.setFar h.oL hb (by decide) v,Own.setFar h.oI hb (by decide) v,Own.setFar h.oU hb (by decide) v,Own.setFar h.oA hb (by decide) v,Own.setFar h.oB hb (by decide) v⟩
theorem KR.grow {b' n c:Nat} {A:Option Addr} {xs:List Value} (h:KR b wv lA nL lC LX iA nI iC IX uA nU uC UX A1 M c1 UP A2 N c2 BX) (ho:Own wv b' 112 1 A n c xs) (hf:Fr (fun k=>Ab A=some k) wv w'):KR b w' lA nL lC LX iA nI iC IX uA nU uC UX A1 M c1 UP A2 N c2 BX:=
 ⟨Own.grow2 h.oL ho (by decide) hf,Own.grow2 h.oI ho (by decide) hf,Own.grow2 h.oU ho (by decide) hf,Own.grow2 h.oA ho (by decide) hf,Own.grow2 h.oB ho (by decide) hf⟩
end
theorem InL.own.grow {w w':World} {base b' n c:Nat} {A:Option Addr} {xs:List Value} {y:InL} (h:y.own w base) (ho:Own w b' 112 1 A n c xs) (hf:Fr (fun k=>Ab A=some k) w w'):y.own w' base:=by
 refine RowAt.keepT h hf (fun k cs fr hk e=> ?_)
 rcases ho.2 with ⟨hv,_⟩|⟨g,cap,cur,hv,_,hg,_⟩
 ·
  injection hv with hA
  subst hA
  cases e
 ·
  injection hv with hA
  subst hA
  injection e with e
  have e2:g=k:=e
  subst e2
  rw [hg] at hk
  injection hk with hk
  injection hk with _ ht
  exact absurd ht (by decide)
theorem InL.own.setFar {w:World} {base nb i:Nat} {cs:Array Value} {y:InL} (h:y.own w base) (hb:Blk w nb 32 cs) (v:Value):y.own (w.setCell ⟨nb,i,none⟩ v) base:=by
 refine RowAt.keepT h ((Fr.refl (One nb) w).setOne i v) (fun k cs' fr hk e=> ?_)
 have e2:k=nb:=e
 subst e2
 have hb':w.heap[k]? =some (.cells cs 32 (0,0)):=hb
 rw [hb'] at hk
 injection hk with hk
 injection hk with _ ht
 exact absurd ht (by decide)
theorem Rw {w:World} {base b N c:Nat} {A:Option Addr} {bs:List Bool} (h:Own w b 4 1 A N c (bs.map Value.bool)) (hb:base≤b) (hN:bs.length=N):(InL.mk A c bs).own w base:=by
 show RowAt w base 4 1 A bs.length c (bs.map Value.bool)
 rw [hN]
 exact (RowAt.of_own h).lower hb
theorem Me {A:Option Addr} {c N:Nat} {bs:List Bool} (hN:bs.length=N):(InL.mk A c bs).cell=.slice A N c:=by
 subst hN
 rfl
theorem Rx (bs:List Bool):bs.map Value.bool++[Value.bool false]=(bs++[false]).map Value.bool:=by rw [Al2];rfl
end Oq
end
end Go.Proofs.YtafonabghnogaaaGreatDoor
