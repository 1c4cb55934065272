/-
  Contracts of the functions that the claim's statement reaches, walked one by one (part 13).
  Conditions: as each theorem says.
-/
import Derived.Test.YtihfebhfgliojaaGreatDoorGrW12
import Derived.Test.YtihfebhfgliojaaGreatDoorGrW59
set_option maxRecDepth 100000
set_option maxHeartbeats 16000000
open Bool renaming and_eq_true->An8,not_false->Ao0,not_true->Ao1
open Int renaming lt_or_le->Ao4
open List renaming getElem?_eq_getElem->An3,map_append->An4,take_of_length_le->An5,mem_of_getElem?->An7,mem_singleton->An9,take_succ_cons->Ao2,getElem?_map->Ao3,flatMap_append->Ao7,flatMap_cons->Ao8,flatMap_nil->Ao9
open Nat renaming lt_or_ge->An6,not_lt_zero->Ao5
open Go.World renaming size_alloc->Ao6
open Go.Proofs.Tryz
open Go.Proofs.Tryz renaming prog->zp
open Go.Lib renaming hid->lh
open List renaming set->zl
open Go.Ending renaming returned->ze
namespace Go.Proofs.YtihfebhfgliojaaGreatDoor
open Go.RowKit
namespace Oq
theorem Ad8 (x:OpL):x.bareR=x.op.bareB:=by
 rw [Qg];unfold OpL.bareR OpL.q1 OpL.q2 OpL.q3 OpL.q4 OpL.q5 OpL.q6 OpL.q7 OpL.q8;simp only [OpL.presB,Bg];generalize (x.dev !=0)=a0;generalize (x.old !=0)=a1;generalize (x.mem !=0)=a2;generalize (x.role !=0)=a3;generalize decide (0<x.path.length)=a4;generalize (!Id.eq x.epoch Id.zero)=a5;generalize (x.n !=0)=a6;generalize decide (0<x.body.length)=a7;generalize decide (0<x.refs.length)=a8;generalize (!Id.eq x.of Id.zero)=a9;generalize decide (0<x.guards.length)=a10;generalize (x.need !=0)=a11;generalize (x.wait !=0)=a12;generalize decide (0<x.boxes.length)=a13;generalize ((x.pub:Int) !=0)=a14;have e15:((x.hist.length:Int)==0)=!decide (0<x.hist.length):=by rw [Bool.eq_iff_iff];simp
 rw [e15];generalize decide (0<x.hist.length)=a15;generalize Cl x.kind=kc;generalize Br x.kind=ko;generalize (x.kind==1)=k1';generalize (x.kind==2)=k2;generalize (x.kind==3)=k3;generalize (x.kind==5)=k5;generalize (x.kind==6)=k6;generalize (x.kind==7)=k7;generalize (x.kind==9)=k9;generalize (x.kind==10)=k10;generalize (x.kind==11)=k11;generalize (x.kind==13)=k13;have r1:∀a b c d e:Bool,(!(a&& !b&& !c&& !d&& !e))=(!a||(b||c||d||e)):=by decide
 have r2:∀a b c d e f g:Bool,(!((a&& !b)||(c&& !d&& !e)||(f&& !g&& !e)))=((!a||b)&&((!c||(d||e))&&(!f||(g||e)))):=by decide
 have r3:∀a b:Bool,(!(a&& !b))=(!a||b):=by decide
 have r4:∀a b c d:Bool,(!(!a&&(b||c||d)))=((!b||a)&&((!c||a)&&(!d||a))):=by decide
 have r5:∀a b c d e:Bool,(!((a&& !b&& !c)||(d&& !e)))=((!a||(b||c))&&(!d||e)):=by decide
 have r7:∀a b c d e f:Bool,(!((a&& !b&& !c)||(d&& !b&& !e&& !f)))=((!a||(b||c))&&(!d||(b||e||f))):=by decide
 have r8:∀a b c:Bool,(!a||b||c)=(!a||(b||c)):=by decide
 rw [r1,r2,r3,r4,r5,r4,r7,r8]
 ac_rfl
end Oq
section
attribute [local go_sem ↓] Go.wp_at_zero Go.wp_at_succ
namespace Oq
attribute [local go_sem] Ao0 Ao1
theorem Ad9 (x:OpL) (w:World) (hat:x.at w w.heap.size) (hok:x.op.ok):Calls zp 112 #[.agg x.cells] w (Ae x.op.longB w):=by
 have af:=Blk.new w 44 x.cells;have f0:Fr Non w (w.alloc (.cells x.cells 44)):=(Fr.refl Non w).alloc _;have c2:cI (w.alloc (.cells x.cells 44)) w.heap.size 2 x.kind:=af.cell 2;have c4:cS (w.alloc (.cells x.cells 44)) w.heap.size 4 x.pastA x.past.length x.pastC:=af.cell 4;have c9:cS (w.alloc (.cells x.cells 44)) w.heap.size 9 x.pathA x.path.length x.pathC:=af.cell 9;have a4:cS (w.alloc (.cells x.cells 44)) w.heap.size 14 x.bodyA x.body.length x.bodyC:=af.cell 14;have a1:cS (w.alloc (.cells x.cells 44)) w.heap.size 15 x.refsA x.refs.length x.refsC:=af.cell 15;have a2:cS (w.alloc (.cells x.cells 44)) w.heap.size 19 x.guardsA x.guards.length x.guardsC:=af.cell 19;have a3:cS (w.alloc (.cells x.cells 44)) w.heap.size 22 x.boxesA x.boxes.length x.boxesC:=af.cell 22;have ar:cS (w.alloc (.cells x.cells 44)) w.heap.size 24 x.histA x.hist.length x.histC:=af.cell 24;have ag:x.path.length<=1000000:=by have h:=hok.path.1;rw [show x.op.path=x.path.map NdL.nd from rfl,List.length_map] at h;omega
 have ah:x.hist.length<=1000000:=by have h:=hok.hist.1;rw [show x.op.hist=x.hist.map SlL.sl from rfl,List.length_map] at h;omega
 have rp:=hat.path.1.fr f0 zr;have rh:=hat.hist.1.fr f0 zr;have av:=lh (fun w'=>Ga x.body.length 1 20 w');have aq:=lh (fun w'=>Ga x.boxes.length 1 6 w');have aa:=lh (Qj x);generalize x.op.longB=LB at*;generalize inR (x.body.length:Int) 1 20=i7 at*;generalize inR (x.boxes.length:Int) 1 6=i10 at*;obtain ⟨n2,ap⟩:=Aa x.path.length;obtain ⟨n5,ao⟩:=Aa x.hist.length;rw [ap.out] at rp ag c9 aa;rw [ao.out] at rh ah ar aa;generalize x.past.length=n1 at*;generalize x.body.length=n3 at*;generalize x.refs.length=n4 at*;generalize x.guards.length=n6 at*;generalize x.boxes.length=n7 at*;generalize x.kind=kd at*;generalize x.cells=CS at*;clear af hat hok;go_enter func112,ntmps112;go_upto_region 1 with (fail)
 generalize w.alloc (.cells CS 44)=w0 at*;go_wp2
 go_loopw [3] (fun v wr=>∃k:Nat,v=.int .i64 (k:Int)/\k<=n2/\Hid (((x.path.take k).all fun y=>decide (y.xs.length<=12))=true)/\w0=wr) (fun v _=>n2-(intOf v).toNat)
 case atStart=>exact ⟨0,rfl,by omega,rfl,rfl⟩
 case round=>
  obtain ⟨k,rfl,hk,hh,rfl⟩:=hrel
  by_cases hlt:k<n2
  ·
   obtain ⟨i1,i2,i3⟩:=ix k n2
   obtain ⟨y,hy⟩:∃y,x.path[k]? =some y:=⟨_,An3 (by rw [ap.out];exact hlt)⟩;obtain ⟨b,ay,hA,ax,k0,k1⟩:=NdL.el rp hy;rw [hA] at c9;have ae:=An7 hy;have aj:Hid (((x.path.take (k+1)).all fun y=>decide (y.xs.length<=12))=(((x.path.take k).all fun y=>decide (y.xs.length<=12))&&decide (y.xs.length<=12))):=Ez x.path (fun y=>decide (y.xs.length<=12)) hy;have ak:Hid (decide (y.xs.length<=12)=false->(x.path.all fun y=>decide (y.xs.length<=12))=false):=fun h=>List.all_eq_false.2 ⟨y,ae,by rw [h];simp⟩;clear hy ae
   rcases An6 12 y.xs.length with h|h
   ·
    have t:decide ((12:Int)<(y.xs.length:Int))=true:=decide_eq_true (by omega);have hv:Hid (true=LB):=by show _=_;rw [aa.out,ak.out (decide_eq_false (by omega))];simp
    clear aa ak aj h;go_wp2
    go_ret
    exact ⟨congrArg (fun z=>ze (.bool z)) hv.out,f0⟩
   ·
    have t:decide ((12:Int)<(y.xs.length:Int))=false:=decide_eq_false (by omega);have ai:Hid (((x.path.take (k+1)).all fun y=>decide (y.xs.length<=12))=true):=by show _=_;rw [aj.out,hh.out,decide_eq_true h];rfl
    clear ak aj h;go_wp2;go_roundw
    case rel=>exact ⟨k+1,by go_num,by omega,ai,by first|rfl|trivial⟩
    case measure=>simp [intOf];omega
  ·
   obtain rfl:n2=k:=by omega
   have au:(x.path.all fun y=>decide (y.xs.length<=12))=true:=by have h:=hh.out;rw [An5 (by rw [ap.out];omega)] at h;exact h
   have ac:=aa.out;rw [au] at ac;have ab:=lh ac;clear aa ac au hh rp ag hlt ap;go_wp2
   go_loopw [4] (fun v wr=>∃k:Nat,v=.int .i64 (k:Int)/\k<=n5/\Hid (((x.hist.take k).all fun y=>decide (y.y.length<=208))=true)/\w0=wr) (fun v _=>n5-(intOf v).toNat)
   case atStart=>exact ⟨0,rfl,by omega,rfl,rfl⟩
   case round=>
    obtain ⟨k,rfl,hk,hh,rfl⟩:=hrel
    by_cases hlt:k<n5
    ·
     obtain ⟨i1,i2,i3⟩:=ix k n5
     obtain ⟨y,hy⟩:∃y,x.hist[k]? =some y:=⟨_,An3 (by rw [ao.out];exact hlt)⟩;obtain ⟨b,ay,hA,ax,k0,k1,k2,k3⟩:=SlL.el rh hy;rw [hA] at ar;have ae:=An7 hy;have aj:Hid (((x.hist.take (k+1)).all fun y=>decide (y.y.length<=208))=(((x.hist.take k).all fun y=>decide (y.y.length<=208))&&decide (y.y.length<=208))):=Ez x.hist (fun y=>decide (y.y.length<=208)) hy;have ak:Hid (decide (y.y.length<=208)=false->(x.hist.all fun y=>decide (y.y.length<=208))=false):=fun h=>List.all_eq_false.2 ⟨y,ae,by rw [h];simp⟩;clear hy ae
     rcases An6 208 y.y.length with h|h
     ·
      have t:decide ((208:Int)<(y.y.length:Int))=true:=decide_eq_true (by omega);have hv:Hid (true=LB):=by show _=_;rw [ab.out,ak.out (decide_eq_false (by omega))];simp
      clear ab ak aj h;go_wp2
      go_ret
      exact ⟨congrArg (fun z=>ze (.bool z)) hv.out,f0⟩
     ·
      have t:decide ((208:Int)<(y.y.length:Int))=false:=decide_eq_false (by omega);have ai:Hid (((x.hist.take (k+1)).all fun y=>decide (y.y.length<=208))=true):=by show _=_;rw [aj.out,hh.out,decide_eq_true h];rfl
      clear ak aj h;go_wp2;go_roundw
      case rel=>exact ⟨k+1,by go_num,by omega,ai,by first|rfl|trivial⟩
      case measure=>simp [intOf];omega
    ·
     obtain rfl:n5=k:=by omega
     have aw:(x.hist.all fun y=>decide (y.y.length<=208))=true:=by have h:=hh.out;rw [An5 (by rw [ao.out];omega)] at h;exact h
     have ad:=ab.out;rw [aw] at ad;have aa:=lh ad;clear ab ad aw hh rh ah hlt ao
     rcases zb (decide ((12:Int)<n1)) with h1|h1
     ·
      have hv:Hid (true=LB):=by show _=_;rw [aa.out];simp [h1]
      clear aa;go_wp2
      go_ret
      exact ⟨congrArg (fun z=>ze (.bool z)) hv.out,f0⟩
     rcases zb (decide ((5:Int)<n2)) with h2|h2
     ·
      have hv:Hid (true=LB):=by show _=_;rw [aa.out];simp [h1,h2]
      clear aa;go_wp2
      go_ret
      exact ⟨congrArg (fun z=>ze (.bool z)) hv.out,f0⟩
     rcases zb (decide ((208:Int)<n3)) with h3|h3
     ·
      have hv:Hid (true=LB):=by show _=_;rw [aa.out];simp [h1,h2,h3]
      clear aa;go_wp2
      go_ret
      exact ⟨congrArg (fun z=>ze (.bool z)) hv.out,f0⟩
     rcases zb (decide ((8:Int)<n4)) with h4|h4
     ·
      have hv:Hid (true=LB):=by show _=_;rw [aa.out];simp [h1,h2,h3,h4]
      clear aa;go_wp2
      go_ret
      exact ⟨congrArg (fun z=>ze (.bool z)) hv.out,f0⟩
     rcases zb (decide ((20:Int)<n5)) with h5|h5
     ·
      have hv:Hid (true=LB):=by show _=_;rw [aa.out];simp [h1,h2,h3,h4,h5]
      clear aa;go_wp2
      go_ret
      exact ⟨congrArg (fun z=>ze (.bool z)) hv.out,f0⟩
     rcases zb (decide ((6:Int)<n6)) with h6|h6
     ·
      have hv:Hid (true=LB):=by show _=_;rw [aa.out];simp [h1,h2,h3,h4,h5,h6]
      clear aa;go_wp2
      go_ret
      exact ⟨congrArg (fun z=>ze (.bool z)) hv.out,f0⟩
     rcases zb (kd==7) with k7|k7
     ·
      have hv:Hid ((!i7)=LB):=by show _=_;have p:kd=7:=(by simpa using k7);rw [aa.out];simp [h1,h2,h3,h4,h5,h6,p]
      clear aa
      cases i7
      all_goals
       go_wp2_with (first
        |(go_at_call 143;(with_reducible refine (av.out _).mono ?_);rintro _ v3 ⟨rfl,f3⟩;have al:=f0.trans f3 zr)
        |(go_at_call 143;(with_reducible refine (aq.out _).mono ?_);rintro _ v3 ⟨rfl,f3⟩;have al:=f0.trans f3 zr))
       go_ret
       exact ⟨congrArg (fun z=>ze (.bool z)) hv.out,al⟩
     rcases zb (kd==9) with k9|k9
     ·
      have hv:Hid ((((n7:Int) !=n6))=LB):=by show _=_;have p:kd=9:=(by simpa using k9);rw [aa.out];simp [h1,h2,h3,h4,h5,h6,p]
      clear aa;go_wp2
      go_ret
      exact ⟨congrArg (fun z=>ze (.bool z)) hv.out,f0⟩
     rcases zb (kd==10) with k10|k10
     ·
      have hv:Hid ((!i10)=LB):=by show _=_;have p:kd=10:=(by simpa using k10);rw [aa.out];simp [h1,h2,h3,h4,h5,h6,p]
      clear aa
      cases i10
      all_goals
       go_wp2_with (first
        |(go_at_call 143;(with_reducible refine (av.out _).mono ?_);rintro _ v3 ⟨rfl,f3⟩;have al:=f0.trans f3 zr)
        |(go_at_call 143;(with_reducible refine (aq.out _).mono ?_);rintro _ v3 ⟨rfl,f3⟩;have al:=f0.trans f3 zr))
       go_ret
       exact ⟨congrArg (fun z=>ze (.bool z)) hv.out,al⟩
     rcases zb (kd==11) with k11|k11
     ·
      have hv:Hid ((((n7:Int) !=1))=LB):=by show _=_;have p:kd=11:=(by simpa using k11);rw [aa.out];simp [h1,h2,h3,h4,h5,h6,p]
      clear aa;go_wp2
      go_ret
      exact ⟨congrArg (fun z=>ze (.bool z)) hv.out,f0⟩
     ·
      have hv:Hid ((false)=LB):=by show _=_;have q7:¬kd=7:=(by simpa using k7);have q9:¬kd=9:=(by simpa using k9);have az:¬kd=10:=(by simpa using k10);have a0:¬kd=11:=(by simpa using k11);rw [aa.out];simp [h1,h2,h3,h4,h5,h6,q7,q9,az,a0]
      clear aa;go_wp2
      go_ret
      exact ⟨congrArg (fun z=>ze (.bool z)) hv.out,f0⟩
end Oq
namespace Oq
attribute [local go_sem] Ao0 Ao1
attribute [local go_sem ↓] Cg
theorem Ae0 {α:Type} (r:α->α->Bool) (l:List α) (n:Nat) (h:Ai r l=true):Ai r (l.take n)=true:=by
 induction l generalizing n with
 |nil=>simp [Ai]
 |cons a t ih=>
  cases n with
  |zero=>rfl
  |succ n=>
   cases t with
   |nil=>cases n<;>rfl
   |cons b t=>
    have h2:(r a b&&Ai r (b::t))=true:=h;rw [An8] at h2
    cases n with
    |zero=>rfl
    |succ n=>
     have h3:=ih (n+1) h2.2;rw [Ao2] at h3;rw [Ao2,Ao2];show (r a b&&Ai r (b::t.take n))=true;rw [h2.1,h3];rfl
theorem Ra {α:Type} (r:α->α->Bool) (l:List α) {k:Nat} {x y:α} (hx:l[k]? =some x) (hy:l[k+1]? =some y) (h:r x y=false):Ai r l=false:=by
 cases hc:Ai r l with
 |false=>rfl
 |true=>
  have h1:=Ae0 r l (k+2) hc;rw [G6 r l hx hy,h,Bool.and_false] at h1
  cases h1
theorem Ae1 (x:OpL) (w:World) (hat:x.at w w.heap.size) (hok:x.op.ok):Calls zp 55 #[.agg x.cells] w (Ix x.op.chk w):=by
 have a7:x.cells.size=27:=rfl;have a5:(zp.info? 44).map (·.size)=some x.cells.size:=by rw [a7];kernel_rfl
 have ba:=Bb (P:=zp) w.heap.size 44 underlying44 rfl a5;have hb:=Blk.new w 44 x.cells;have fz:Fr Non w (w.alloc (.cells x.cells 44)):=(Fr.refl Non w).alloc _;have c2:cI (w.alloc (.cells x.cells 44)) w.heap.size 2 x.kind:=hb.cell 2;have c4:cS (w.alloc (.cells x.cells 44)) w.heap.size 4 x.pastA x.past.length x.pastC:=hb.cell 4;have ad:cS (w.alloc (.cells x.cells 44)) w.heap.size 19 x.guardsA x.guards.length x.guardsC:=hb.cell 19;have ah:x.guards.length<=1000000:=by have h:=hok.guards.1;rw [show x.op.guards=x.guards from rfl] at h;omega
 have aw:x.past.length<=1000000:=by have h:=hok.past.1;rw [show x.op.past=x.past from rfl] at h;omega
 have ab:=hat.past.1.fr fz zr;have aa:=hat.guards.1.fr fz zr;have kb:=lh (fun (w':World)=>Z6 x w');have kn:=lh (fun (w':World)=>Zx x w');have ki:=lh (fun (w':World) (h:Fr Non w w')=>Zw x w' ((hat.fr h zr).mono h.size) hok);have kl:=lh (fun (w':World) (h:Fr Non w w')=>Ad9 x w' ((hat.fr h zr).mono h.size) hok);rw [Ad8] at kb;rw [Z3] at kn;rw [Z0] at ki;have ac:Hid (x.op.chk=if x.kind<1\/13<x.kind then 1 else if x.op.bareB=false then 1 else if x.op.numsB=false then 8 else if x.op.itemsB=false then 8 else if x.op.longB=true then 2 else if (Ai Id.less x.past&&Ai (fun a b=>decide (a<b)) x.guards)=false then 6 else if decide (x.past=[])≠decide (x.kind=1) then 10 else 0):=rfl;generalize x.op.chk=EC at*;clear hat hok a7 a5;have aq:Hid (∀w',Calls zp 109 #[.agg x.cells] w' (Ae x.op.bareB w')):=kb.out;have au:Hid (∀w',Calls zp 110 #[.agg x.cells] w' (Ae x.op.numsB w')):=kn.out;clear kb kn;generalize x.cells=CS at*;generalize x.op.bareB=bb at*;generalize x.op.numsB=nb at*;generalize x.op.itemsB=ib at*;generalize x.op.longB=lb at*;obtain ⟨kk,a6⟩:=Aa x.kind;rw [a6.out] at c2 ac;clear a6;obtain ⟨np,ag⟩:=Aa x.past.length;rw [ag.out] at ab aw c4;obtain ⟨ng,ax⟩:=Aa x.guards.length;rw [ax.out] at aa ah ad
 rcases zb (decide (kk<1)) with k1|k1
 ·
  have hv:Hid (1=EC):=by show _=_;rw [ac.out,if_pos (Or.inl (of_decide_eq_true k1))]
  clear ac;go_enter func55,ntmps55;go_wp2_with (first|(go_at_call 109;(with_reducible refine (aq.out _).mono ?_);rintro _ v ⟨rfl,f⟩;have fz:=fz.trans f zr;have hb:=hb.fr f zq;obtain ⟨c2,c4,ad⟩:=zk3 f c2 c4 ad;have ab:=ab.fr f zr;have aa:=aa.fr f zr)|(go_at_call 110;(with_reducible refine (au.out _).mono ?_);rintro _ v ⟨rfl,f⟩;have fz:=fz.trans f zr;have hb:=hb.fr f zq;obtain ⟨c2,c4,ad⟩:=zk3 f c2 c4 ad;have ab:=ab.fr f zr;have aa:=aa.fr f zr)|(go_at_call 111;(with_reducible refine (ki.out _ fz).mono ?_);rintro _ v ⟨rfl,f⟩;have fz:=fz.trans f zr;have hb:=hb.fr f zq;obtain ⟨c2,c4,ad⟩:=zk3 f c2 c4 ad;have ab:=ab.fr f zr;have aa:=aa.fr f zr)|(go_at_call 112;(with_reducible refine (kl.out _ fz).mono ?_);rintro _ v ⟨rfl,f⟩;have fz:=fz.trans f zr;have hb:=hb.fr f zq;obtain ⟨c2,c4,ad⟩:=zk3 f c2 c4 ad;have ab:=ab.fr f zr;have aa:=aa.fr f zr))
  go_ret
  exact ⟨congrArg (fun z=>ze (.int .i64 z)) hv.out,fz⟩
 rcases zb (decide ((13:Int)<kk)) with k13|k13
 ·
  have hv:Hid (1=EC):=by show _=_;rw [ac.out,if_pos (Or.inr (of_decide_eq_true k13))]
  clear ac;go_enter func55,ntmps55;go_wp2_with (first|(go_at_call 109;(with_reducible refine (aq.out _).mono ?_);rintro _ v ⟨rfl,f⟩;have fz:=fz.trans f zr;have hb:=hb.fr f zq;obtain ⟨c2,c4,ad⟩:=zk3 f c2 c4 ad;have ab:=ab.fr f zr;have aa:=aa.fr f zr)|(go_at_call 110;(with_reducible refine (au.out _).mono ?_);rintro _ v ⟨rfl,f⟩;have fz:=fz.trans f zr;have hb:=hb.fr f zq;obtain ⟨c2,c4,ad⟩:=zk3 f c2 c4 ad;have ab:=ab.fr f zr;have aa:=aa.fr f zr)|(go_at_call 111;(with_reducible refine (ki.out _ fz).mono ?_);rintro _ v ⟨rfl,f⟩;have fz:=fz.trans f zr;have hb:=hb.fr f zq;obtain ⟨c2,c4,ad⟩:=zk3 f c2 c4 ad;have ab:=ab.fr f zr;have aa:=aa.fr f zr)|(go_at_call 112;(with_reducible refine (kl.out _ fz).mono ?_);rintro _ v ⟨rfl,f⟩;have fz:=fz.trans f zr;have hb:=hb.fr f zq;obtain ⟨c2,c4,ad⟩:=zk3 f c2 c4 ad;have ab:=ab.fr f zr;have aa:=aa.fr f zr))
  go_ret
  exact ⟨congrArg (fun z=>ze (.int .i64 z)) hv.out,fz⟩
 replace ac:Hid (EC=if bb=false then 1 else if nb=false then 8 else if ib=false then 8 else if lb=true then 2 else if (Ai Id.less x.past&&Ai (fun a b=>decide (a<b)) x.guards)=false then 6 else if decide (x.past=[])≠decide (kk=1) then 10 else 0):=by show _=_;rw [ac.out,if_neg (by have a:=of_decide_eq_false k1;have b:=of_decide_eq_false k13;omega)]
 cases bb
 ·
  have hv:Hid (1=EC):=ac.out.symm;clear ac;go_enter func55,ntmps55;go_wp2_with (first|(go_at_call 109;(with_reducible refine (aq.out _).mono ?_);rintro _ v ⟨rfl,f⟩;have fz:=fz.trans f zr;have hb:=hb.fr f zq;obtain ⟨c2,c4,ad⟩:=zk3 f c2 c4 ad;have ab:=ab.fr f zr;have aa:=aa.fr f zr)|(go_at_call 110;(with_reducible refine (au.out _).mono ?_);rintro _ v ⟨rfl,f⟩;have fz:=fz.trans f zr;have hb:=hb.fr f zq;obtain ⟨c2,c4,ad⟩:=zk3 f c2 c4 ad;have ab:=ab.fr f zr;have aa:=aa.fr f zr)|(go_at_call 111;(with_reducible refine (ki.out _ fz).mono ?_);rintro _ v ⟨rfl,f⟩;have fz:=fz.trans f zr;have hb:=hb.fr f zq;obtain ⟨c2,c4,ad⟩:=zk3 f c2 c4 ad;have ab:=ab.fr f zr;have aa:=aa.fr f zr)|(go_at_call 112;(with_reducible refine (kl.out _ fz).mono ?_);rintro _ v ⟨rfl,f⟩;have fz:=fz.trans f zr;have hb:=hb.fr f zq;obtain ⟨c2,c4,ad⟩:=zk3 f c2 c4 ad;have ab:=ab.fr f zr;have aa:=aa.fr f zr))
  go_ret
  exact ⟨congrArg (fun z=>ze (.int .i64 z)) hv.out,fz⟩
 cases nb
 ·
  have hv:Hid (8=EC):=ac.out.symm;clear ac;go_enter func55,ntmps55;go_wp2_with (first|(go_at_call 109;(with_reducible refine (aq.out _).mono ?_);rintro _ v ⟨rfl,f⟩;have fz:=fz.trans f zr;have hb:=hb.fr f zq;obtain ⟨c2,c4,ad⟩:=zk3 f c2 c4 ad;have ab:=ab.fr f zr;have aa:=aa.fr f zr)|(go_at_call 110;(with_reducible refine (au.out _).mono ?_);rintro _ v ⟨rfl,f⟩;have fz:=fz.trans f zr;have hb:=hb.fr f zq;obtain ⟨c2,c4,ad⟩:=zk3 f c2 c4 ad;have ab:=ab.fr f zr;have aa:=aa.fr f zr)|(go_at_call 111;(with_reducible refine (ki.out _ fz).mono ?_);rintro _ v ⟨rfl,f⟩;have fz:=fz.trans f zr;have hb:=hb.fr f zq;obtain ⟨c2,c4,ad⟩:=zk3 f c2 c4 ad;have ab:=ab.fr f zr;have aa:=aa.fr f zr)|(go_at_call 112;(with_reducible refine (kl.out _ fz).mono ?_);rintro _ v ⟨rfl,f⟩;have fz:=fz.trans f zr;have hb:=hb.fr f zq;obtain ⟨c2,c4,ad⟩:=zk3 f c2 c4 ad;have ab:=ab.fr f zr;have aa:=aa.fr f zr))
  go_ret
  exact ⟨congrArg (fun z=>ze (.int .i64 z)) hv.out,fz⟩
 cases ib
 ·
  have hv:Hid (8=EC):=ac.out.symm;clear ac;go_enter func55,ntmps55;go_wp2_with (first|(go_at_call 109;(with_reducible refine (aq.out _).mono ?_);rintro _ v ⟨rfl,f⟩;have fz:=fz.trans f zr;have hb:=hb.fr f zq;obtain ⟨c2,c4,ad⟩:=zk3 f c2 c4 ad;have ab:=ab.fr f zr;have aa:=aa.fr f zr)|(go_at_call 110;(with_reducible refine (au.out _).mono ?_);rintro _ v ⟨rfl,f⟩;have fz:=fz.trans f zr;have hb:=hb.fr f zq;obtain ⟨c2,c4,ad⟩:=zk3 f c2 c4 ad;have ab:=ab.fr f zr;have aa:=aa.fr f zr)|(go_at_call 111;(with_reducible refine (ki.out _ fz).mono ?_);rintro _ v ⟨rfl,f⟩;have fz:=fz.trans f zr;have hb:=hb.fr f zq;obtain ⟨c2,c4,ad⟩:=zk3 f c2 c4 ad;have ab:=ab.fr f zr;have aa:=aa.fr f zr)|(go_at_call 112;(with_reducible refine (kl.out _ fz).mono ?_);rintro _ v ⟨rfl,f⟩;have fz:=fz.trans f zr;have hb:=hb.fr f zq;obtain ⟨c2,c4,ad⟩:=zk3 f c2 c4 ad;have ab:=ab.fr f zr;have aa:=aa.fr f zr))
  go_ret
  exact ⟨congrArg (fun z=>ze (.int .i64 z)) hv.out,fz⟩
 cases lb
 rotate_left
 ·
  have hv:Hid (2=EC):=ac.out.symm;clear ac;go_enter func55,ntmps55;go_wp2_with (first|(go_at_call 109;(with_reducible refine (aq.out _).mono ?_);rintro _ v ⟨rfl,f⟩;have fz:=fz.trans f zr;have hb:=hb.fr f zq;obtain ⟨c2,c4,ad⟩:=zk3 f c2 c4 ad;have ab:=ab.fr f zr;have aa:=aa.fr f zr)|(go_at_call 110;(with_reducible refine (au.out _).mono ?_);rintro _ v ⟨rfl,f⟩;have fz:=fz.trans f zr;have hb:=hb.fr f zq;obtain ⟨c2,c4,ad⟩:=zk3 f c2 c4 ad;have ab:=ab.fr f zr;have aa:=aa.fr f zr)|(go_at_call 111;(with_reducible refine (ki.out _ fz).mono ?_);rintro _ v ⟨rfl,f⟩;have fz:=fz.trans f zr;have hb:=hb.fr f zq;obtain ⟨c2,c4,ad⟩:=zk3 f c2 c4 ad;have ab:=ab.fr f zr;have aa:=aa.fr f zr)|(go_at_call 112;(with_reducible refine (kl.out _ fz).mono ?_);rintro _ v ⟨rfl,f⟩;have fz:=fz.trans f zr;have hb:=hb.fr f zq;obtain ⟨c2,c4,ad⟩:=zk3 f c2 c4 ad;have ab:=ab.fr f zr;have aa:=aa.fr f zr))
  go_ret
  exact ⟨congrArg (fun z=>ze (.int .i64 z)) hv.out,fz⟩
 replace ac:Hid (EC=if (Ai Id.less x.past&&Ai (fun a b=>decide (a<b)) x.guards)=false then 6 else if decide (x.past=[])≠decide (kk=1) then 10 else 0):=ac;go_enter func55,ntmps55;go_wp2_with (first|(go_at_call 109;(with_reducible refine (aq.out _).mono ?_);rintro _ v ⟨rfl,f⟩;have fz:=fz.trans f zr;have hb:=hb.fr f zq;obtain ⟨c2,c4,ad⟩:=zk3 f c2 c4 ad;have ab:=ab.fr f zr;have aa:=aa.fr f zr)|(go_at_call 110;(with_reducible refine (au.out _).mono ?_);rintro _ v ⟨rfl,f⟩;have fz:=fz.trans f zr;have hb:=hb.fr f zq;obtain ⟨c2,c4,ad⟩:=zk3 f c2 c4 ad;have ab:=ab.fr f zr;have aa:=aa.fr f zr)|(go_at_call 111;(with_reducible refine (ki.out _ fz).mono ?_);rintro _ v ⟨rfl,f⟩;have fz:=fz.trans f zr;have hb:=hb.fr f zq;obtain ⟨c2,c4,ad⟩:=zk3 f c2 c4 ad;have ab:=ab.fr f zr;have aa:=aa.fr f zr)|(go_at_call 112;(with_reducible refine (kl.out _ fz).mono ?_);rintro _ v ⟨rfl,f⟩;have fz:=fz.trans f zr;have hb:=hb.fr f zq;obtain ⟨c2,c4,ad⟩:=zk3 f c2 c4 ad;have ab:=ab.fr f zr;have aa:=aa.fr f zr));generalize hgv:v=v1 at*
 go_loopw [3] (fun v wr=>∃(i:Nat),v=.int .i64 ((i:Int)+1)/\Hid (Ai Id.less (x.past.take (i+1))=true)/\(i=0\/i+1<=np)/\Fr Non v1 wr) (fun v _=>np+1-(intOf v).toNat)
 case atStart=>exact ⟨0,rfl,Iy _ _,Or.inl rfl,Fr.refl _ _⟩
 case round=>
  obtain ⟨i,rfl,ay,hi,hf⟩:=hrel
  by_cases hlt:i+1<np
  ·
   have n1:(i:Int)+1<np:=by omega
   obtain ⟨n2,n3,n4⟩:=ix i np
   have n5:=iw ((i:Int)+1);have n6:(0:Int)<=(i:Int)+1:=by omega
   have n8:((i:Int)+1).toNat=i+1:=by omega
   have n9:(i:Int)+1-1=i:=by omega
   have a9:=iw (i:Int);obtain ⟨y,hy⟩:∃y,x.past[i]? =some y:=⟨_,An3 (by rw [ag.out];omega)⟩;obtain ⟨z,hz⟩:∃z,x.past[i+1]? =some z:=⟨_,An3 (by rw [ag.out];omega)⟩;obtain ⟨b,af,hA,a8,e0,e1,e2⟩:=Id.at (ab.fr hf zr) hy;obtain ⟨b',aj,ak,ap,g0,g1,g2⟩:=Id.at (ab.fr hf zr) hz;rw [hA] at ak;obtain ⟨rfl,rfl⟩:b=b'/\af=aj:=by cases ak;exact ⟨rfl,rfl⟩
   clear ak ap;have cc:=hf.cell c4 zq;rw [hA] at cc;have al:Hid (Ai Id.less (x.past.take (i+2))=(Ai Id.less (x.past.take (i+1))&&Id.less y z)):=G6 Id.less x.past hy hz;have ao:Hid (Id.less y z=false->Ai Id.less x.past=false):=Ra Id.less x.past hy hz;have ar:i+2<=np:=by omega
   have kL:=lh (fun w'=>Jv y z w');generalize Id.less y z=lyz at*;clear hy hz hi hlt hA;go_upto_region 12 with (fail)
   refine wp_region_held_drew (S:=(fun w'=>cS w' w.heap.size 4 (some ⟨b,af,none⟩) np x.pastC/\cI w' b (af+i*3) y.b/\cI w' b (af+i*3+1) y.s/\cU w' b (af+i*3+2) y.u/\cI w' b (af+(i+1)*3) z.b/\cI w' b (af+(i+1)*3+1) z.s/\cU w' b (af+(i+1)*3+2) z.u)) (by kernel_rfl) ⟨cc,e0,e1,e2,g0,g1,g2⟩ (fun ae=> ?_);replace hf:=hf.drew;clear cc e0 e1 e2 g0 g1 g2;generalize wr.drew=wq at*;refine tkH 0 ae (h:=tkH 1 ae (h:=tkH 2 ae (h:=tkH 3 ae (h:=tkH 4 ae (h:=tkH 5 ae (h:=tkH 6 ae (h:=tkH 7 ae (h:=tkH 8 ae (h:=tkH 9 ae (h:=tkH 10 ae (h:=?_)))))))))));simp only [zl];refine oG 11 (fun K hK=> ?_);go_simp;go_wp2_with (go_at_call 95;(with_reducible refine (kL.out _).mono ?_);rintro _ w3 ⟨rfl,f3⟩);refine hK.out _ _ ⟨f3.cell ae.1 zq,f3.cell ae.2.1 zq,f3.cell ae.2.2.1 zq,f3.cell ae.2.2.2.1 zq,f3.cell ae.2.2.2.2.1 zq,f3.cell ae.2.2.2.2.2.1 zq,f3.cell ae.2.2.2.2.2.2 zq⟩ (fun a4=> ?_);clear hK K;try simp only [Ac,zl]
   replace hf:=hf.trans f3 zr
   cases lyz
   ·
    have hv:Hid (6=EC):=by show _=_;rw [ac.out,if_pos (by rw [ao.out rfl];rfl)]
    clear ac ao al;refine tkH 12 a4 (h:=?_);simp only [zl];refine oD ?_;go_simp;go_wp2_with fail
    go_ret
    exact ⟨congrArg (fun z=>ze (.int .i64 z)) hv.out,fz.trans hf zr⟩
   ·
    have a0:Hid (Ai Id.less (x.past.take (i+2))=true):=by show _=_;rw [al.out,ay.out];rfl
    clear ay al ao;refine tkH 12 a4 (h:=?_);simp only [zl];refine oD ?_;go_simp;go_wp2_with fail;go_roundw
    case rel=>exact ⟨i+1,by first|rfl|go_num,a0,Or.inr ar,hf⟩
    case measure=>simp [intOf];omega
  ·
   have n1:¬((i:Int)+1<np):=by omega
   have av:Ai Id.less x.past=true:=by have h:=ay.out;rw [An5 (by rw [ag.out];omega)] at h;exact h
   replace ac:Hid (EC=if Ai (fun a b=>decide (a<b)) x.guards=false then 6 else if decide (x.past=[])≠decide (kk=1) then 10 else 0):=by show _=_;rw [ac.out,av,Bool.true_and]
   obtain ⟨a1,e4,e2⟩:=zk3 hf ad c4 c2;replace aa:=aa.fr hf zr;replace fz:=fz.trans hf zr;clear ay av ab hlt hi ad c4 c2 hf hb;generalize hgw:wr=v2 at*;go_wp2_with fail
   go_loopw [4] (fun v wr=>∃(i:Nat),v=.int .i64 ((i:Int)+1)/\Hid (Ai (fun a b=>decide (a<b)) (x.guards.take (i+1))=true)/\(i=0\/i+1<=ng)/\Fr Non v2 wr) (fun v _=>ng+1-(intOf v).toNat)
   case atStart=>exact ⟨0,rfl,Iy _ _,Or.inl rfl,Fr.refl _ _⟩
   case round=>
    obtain ⟨i,rfl,az,hi,hf⟩:=hrel
    by_cases hlt:i+1<ng
    ·
     have n1:(i:Int)+1<ng:=by omega
     obtain ⟨n2,n3,n4⟩:=ix i ng
     have n5:=iw ((i:Int)+1);have n6:(0:Int)<=(i:Int)+1:=by omega
     have n8:((i:Int)+1).toNat=i+1:=by omega
     have n9:(i:Int)+1-1=i:=by omega
     have a9:=iw (i:Int);obtain ⟨y,hy⟩:∃y,x.guards[i]? =some y:=⟨_,An3 (by rw [ax.out];omega)⟩;obtain ⟨z,hz⟩:∃z,x.guards[i+1]? =some z:=⟨_,An3 (by rw [ax.out];omega)⟩;obtain ⟨b,af,u,hA,a8,hu,e0⟩:=(aa.fr hf zr).at (show i<ng by omega);obtain ⟨b',aj,u',ak,ap,a3,g0⟩:=(aa.fr hf zr).at (show i+1<ng by omega);rw [Ao3,hy] at hu;rw [Ao3,hz] at a3;obtain rfl:=(Option.some.inj hu).symm;obtain rfl:=(Option.some.inj a3).symm;rw [hA] at ak;obtain ⟨rfl,rfl⟩:b=b'/\af=aj:=by cases ak;exact ⟨rfl,rfl⟩
     replace e0:cI wr b (af+i) y:=e0;replace g0:cI wr b (af+(i+1)) z:=g0;clear ak ap hu a3;have cc:=hf.cell a1 zq;rw [hA] at cc;have al:Hid (Ai (fun a b=>decide (a<b)) (x.guards.take (i+2))=(Ai (fun a b=>decide (a<b)) (x.guards.take (i+1))&&decide (y<z))):=G6 (fun (a b:Int)=>decide (a<b)) x.guards hy hz;have ao:Hid (decide (y<z)=false->Ai (fun (a b:Int)=>decide (a<b)) x.guards=false):=Ra (fun (a b:Int)=>decide (a<b)) x.guards hy hz;have ar:i+2<=ng:=by omega
     clear hy hz hi hlt hA;go_upto_region 17 with (fail)
     refine wp_region_held_drew (S:=(fun w'=>cS w' w.heap.size 19 (some ⟨b,af,none⟩) ng x.guardsC/\cI w' b (af+i) y/\cI w' b (af+(i+1)) z)) (by kernel_rfl) ⟨cc,e0,g0⟩ (fun ae=> ?_);replace hf:=hf.drew;clear cc e0 g0;generalize wr.drew=wq at*
     by_cases t:y<z
     ·
      have a2:Hid (Ai (fun a b=>decide (a<b)) (x.guards.take (i+2))=true):=by show _=_;rw [al.out,az.out,decide_eq_true t];rfl
      have t1:decide (z<=y)=false:=decide_eq_false (by omega);have t2:decide (y>=z)=false:=t1;clear az al ao t;refine tkH 0 ae (h:=tkH 1 ae (h:=tkH 2 ae (h:=tkH 3 ae (h:=tkH 4 ae (h:=tkH 5 ae (h:=tkH 6 ae (h:=tkH 7 ae (h:=tkH 8 ae (h:=tkH 9 ae (h:=tkH 10 ae (h:=tkH 11 ae (h:=?_))))))))))));simp only [zl];refine oD ?_;go_simp;go_wp2_with fail;go_roundw
      case rel=>exact ⟨i+1,by first|rfl|go_num,a2,Or.inr ar,hf⟩
      case measure=>simp [intOf];omega
     ·
      have hv:Hid (6=EC):=by show _=_;rw [ac.out,if_pos (by rw [ao.out (decide_eq_false (by omega))])]
      have t1:decide (z<=y)=true:=decide_eq_true (by omega);have t2:decide (y>=z)=true:=t1;clear ac al ao t;refine tkH 0 ae (h:=tkH 1 ae (h:=tkH 2 ae (h:=tkH 3 ae (h:=tkH 4 ae (h:=tkH 5 ae (h:=tkH 6 ae (h:=tkH 7 ae (h:=tkH 8 ae (h:=tkH 9 ae (h:=tkH 10 ae (h:=tkH 11 ae (h:=?_))))))))))));simp only [zl];refine oD ?_;go_simp;go_wp2_with fail
      go_ret
      exact ⟨congrArg (fun z=>ze (.int .i64 z)) hv.out,fz.trans hf zr⟩
    ·
     have n1:¬((i:Int)+1<ng):=by omega
     have av:Ai (fun (a b:Int)=>decide (a<b)) x.guards=true:=by have h:=az.out;rw [An5 (by rw [ax.out];omega)] at h;exact h
     replace ac:Hid (EC=if decide (x.past=[])≠decide (kk=1) then 10 else 0):=by show _=_;rw [ac.out,av];rfl
     obtain ⟨c4,c2,bc⟩:=zk3 hf e4 e2 a1;replace fz:=fz.trans hf zr;clear az av aa hlt hi a1 e4 e2 hf;have ai:Hid (decide (x.past=[])=decide (np=0)):=by show _=_;rw [Bool.eq_iff_iff];simp only [decide_eq_true_eq];rw [<- ag.out];exact List.length_eq_zero_iff.symm
     by_cases p0:np=0<;>by_cases q0:kk=1
     ·
      have b1:((np:Int)==0)=true:=Cq (by omega);have b2:(kk==1)=true:=Cq q0;have hv:Hid (0=EC):=by show _=_;rw [ac.out,ai.out,if_neg (by rw [decide_eq_true p0,decide_eq_true q0];decide)]
      clear ac ai p0 q0 ag;go_wp2_with fail
      go_ret
      exact ⟨congrArg (fun z=>ze (.int .i64 z)) hv.out,fz⟩
     ·
      have b1:((np:Int)==0)=true:=Cq (by omega);have b2:(kk==1)=false:=Cf q0;have hv:Hid (10=EC):=by show _=_;rw [ac.out,ai.out,if_pos (by rw [decide_eq_true p0,decide_eq_false q0];decide)]
      clear ac ai p0 q0 ag;go_wp2_with fail
      go_ret
      exact ⟨congrArg (fun z=>ze (.int .i64 z)) hv.out,fz⟩
     ·
      have b1:((np:Int)==0)=false:=Cf (by omega);have b2:(kk==1)=true:=Cq q0;have hv:Hid (10=EC):=by show _=_;rw [ac.out,ai.out,if_pos (by rw [decide_eq_false p0,decide_eq_true q0];decide)]
      clear ac ai p0 q0 ag;go_wp2_with fail
      go_ret
      exact ⟨congrArg (fun z=>ze (.int .i64 z)) hv.out,fz⟩
     ·
      have b1:((np:Int)==0)=false:=Cf (by omega);have b2:(kk==1)=false:=Cf q0;have hv:Hid (0=EC):=by show _=_;rw [ac.out,ai.out,if_neg (by rw [decide_eq_false p0,decide_eq_false q0];decide)]
      clear ac ai p0 q0 ag;go_wp2_with fail
      go_ret
      exact ⟨congrArg (fun z=>ze (.int .i64 z)) hv.out,fz⟩
end Oq
namespace Oq
attribute [local go_sem] Ao0 Ao1
attribute [local go_sem ↓] Et Cg
theorem Rb (y:OpL) (nm:Id) (hn:y.op.name=nm) (w:World) (hat:y.at w w.heap.size) (hok:y.op.ok):Calls zp 57 #[.agg y.cells] w fun e w'=>e=.returned (.agg nm.V)/\Fr Non w w':=by
 have k:=Of y w hat hok;obtain ⟨b,s,u⟩:=nm;unfold Op.name at hn;injection hn with h1 h2 h3
 rw [h3,show y.by_=b from h1,show y.sq=s from h2] at k;exact k
theorem Rc {o:Op} (h:o.chk=0):1<=o.sq/\o.sq<=2147483647/\0<=o.at_:=by
 have h1:=(chk_ok.1 h).2.2.1;unfold Op.numsB at h1;simp only [An8] at h1;have h2:=h1.1.1.2;have h3:=h1.1.2;unfold inR at h2 h3;simp only [An8,decide_eq_true_eq] at h2 h3;exact ⟨h2.1,h2.2,h3.1⟩
theorem Ae2 {l:List Pn} {ids:List Id} {k p:Nat} {y:Id} (hy:ids[k]? =some y) (hp:plc l y=some p):Am l (ids.take (k+1))=Am l (ids.take k)++[p]:=by
 unfold Am;rw [Dz hy,An4,List.map_cons,List.map_nil,hp];rfl
def Gb (cards:List Cd) (l:List Pn) (o:Op) (w:World) (e:Ending) (w':World):Prop:=
 ∃A n c,e=.returned (.tuple #[.int .i64 (Ah cards l o),.slice A n c])/\(Ah cards l o=0->n=o.past.length/\Own w' w.heap.size 3 1 A n c ((Am l o.past).map Qv))/\Fr Non w w'
theorem Re (base:Nat) (r:RG) (x:OpL) (w:World) (h:r.own w base) (hat:x.at w w.heap.size) (hok:x.op.ok):
  Calls zp 16 #[.agg r.cells,.agg x.cells] w (Gb r.cards r.l x.op w):=by
 have b5:=h.few;have dy:x.past.length<=1000:=hok.past.1;have bg:=(Blk.new w 32 r.cells).alloc (.cells x.cells 44);have bx:=Blk.new (w.alloc (.cells r.cells 32)) 44 x.cells;rw [Ao6] at bx;have f0:Fr Non w ((w.alloc (.cells r.cells 32)).alloc (.cells x.cells 44)):=((Fr.refl Non w).alloc _).alloc _;have g1:Hid (r.cells[1]? =some (.slice r.lA r.l.length r.lC)):=rfl;have g4:Hid (r.cells[4]? =some (.slice r.nA r.l.length r.nC)):=rfl;have x0:Hid (x.cells[0]? =some (.int .i64 x.by_)):=rfl;have x2:Hid (x.cells[2]? =some (.int .i64 x.kind)):=rfl;have x3:Hid (x.cells[3]? =some (.int .i64 x.at_)):=rfl;have x4:Hid (x.cells[4]? =some (.slice x.pastA x.past.length x.pastC)):=rfl;have dv:Hid (x.cells[25]? =some (.int .u64 (x.r:Int))):=rfl;have ed:Hid (x.cells[26]? =some (.int .u64 (x.s:Int))):=rfl;have b0:(zp.info? 44).map (·.size)=some x.cells.size:=by rw [show x.cells.size=27 from rfl];kernel_rfl
 have hl:=Bb (P:=zp) w.heap.size 32 underlying32 rfl (cs:=r.cells) Cz;have em:=Bb (P:=zp) (w.heap.size+1) 44 underlying44 rfl b0;have cq:=lh (fun (w':World) (hf:Fr Non w w')=>Ae1 x w' (OpL.frame hat hf) hok);obtain ⟨nm,co⟩:∃nm,x.op.name=nm:=⟨_,rfl⟩;have dq:=lh (fun (w':World) (hf:Fr Non w w')=>Rb x nm co w' (OpL.frame hat hf) hok);have cd:=lh (fun (id:Id) (w':World) (hf:Fr Non w w')=>G7 base r id w' (h.non hf));have cw:=lh (fun (w':World) (hf:Fr Non w w')=>Ad4 base r x.by_ w' (h.non hf));have ck:=lh (fun (w':World) (hf:Fr Non w w')=>Kb x w' (OpL.frame hat hf) hok);have lb:=Op.bare_len x.op hok;have cy:=lh (fun (c:Cd) (hc:c.s<18446744073709551616) (A:Option Addr) (cc:Nat) (w':World) (B:Nat) (ho:Own w' B 5 1 A x.op.bare.length cc (x.op.bare.map Bv))=>Ad7 c.s x.r x.s w'.heap.size x.op.bare.length cc A x.op.bare w' hc hok.r hok.s rfl ho.cap.1 (by omega) (Nat.le_refl _) ho.rd)
 have bw:Hid (∀(A:Option Addr) (n c:Nat) (w':World) (B:Nat),Fr Non w w'->(∀y∈x.past,∃p,plc r.l y=some p)->n=x.past.length->Own w' B 3 1 A n c ((Am r.l x.past).map Qv)->
   Calls zp 61 #[.agg r.cells,.slice A n c] w' (I3 r.l.length (Aj r.l x.past) w')):=by
  intro A n c w' B hf hp hn ho;have k:=Q8 base r w'.heap.size n c A (Am r.l x.past) w' (h.non hf) (by show _=_;rw [Gx,hn]) ho.rd (by omega);rw [Qp h.rows hp] at k;exact k
 have dh:=lh (fun (w':World) (hf:Fr Non w w') (A:Option Addr) (c:Nat) (h1:1<=x.sq) (h2:x.sq<=9223372036854775807) (hr:Rd w' w'.heap.size 1 A r.l.length (Ct r.l.length (Aj r.l x.past)))=>Ad3 base r x w'.heap.size c A (Aj r.l x.past) w' (h.non hf) h1 h2 hr);have b8:=lh (fun (p:Nat) (hp:p<r.l.length)=>h.inAt hp)
 have af:Hid (∀i,i<r.l.length->∃(m:Pn) (b al:Nat),r.l[i]? =some m/\r.lA=some ⟨b,al,none⟩/\cI w b (al+i*27+3) m.o.at_):=by
  intro i hi;obtain ⟨y,b,al,_,h1,_,h3,_,h4⟩:=h.xAt (An3 hi);exact ⟨_,b,al,An3 hi,h3,by rw [<- h1];exact h4 3 (by omega) _ rfl⟩
 have b4:Hid (∀id,-1<=As r.l id/\As r.l id<r.l.length):=fun id=>Qx r.l id;have b7:=lh h.cok;have bh:=hat.past.1
 have aa:Hid (∀(E:Int) (w':World),Ah r.cards r.l x.op=E->E≠0->Fr Non w w'->Gb r.cards r.l x.op w (.returned (.tuple #[.int .i64 E,.slice none 0 0])) w'):=by
  intro E w' h1 h2 h3;subst h1;exact ⟨none,0,0,rfl,fun e=>absurd e h2,h3⟩
 have ac:Hid (∀(A:Option Addr) (n c:Nat) (w':World),Ah r.cards r.l x.op=0->n=x.past.length->Own w' w.heap.size 3 1 A n c ((Am r.l x.past).map Qv)->Fr Non w w'->Gb r.cards r.l x.op w (.returned (.tuple #[.int .i64 0,.slice A n c])) w'):=by
  intro A n c w' h1 h2 h3 h4;exact ⟨A,n,c,by rw [h1],fun _=>⟨h2,h3⟩,h4⟩
 have c3:Hid (x.op.chk≠0->Ah r.cards r.l x.op=x.op.chk):=Qm;have bi:Hid (x.op.chk=0->(plc r.l x.op.name).isSome=true->Ah r.cards r.l x.op=5):=Qn;have az:Hid (x.op.chk=0->plc r.l x.op.name=none->200<=r.l.length->Ah r.cards r.l x.op=3):=Qo;have ak:Hid (x.op.chk=0->plc r.l x.op.name=none->r.l.length<200->Bk r.cards x.by_=none->Ah r.cards r.l x.op=17):=Aa0;have ae:Hid (∀c,x.op.chk=0->plc r.l x.op.name=none->r.l.length<200->Bk r.cards x.by_=some c->Sg.check c.s x.op.bare x.r x.s=false->Ah r.cards r.l x.op=12):=fun c=>Aa1;have ad:Hid (∀c,x.op.chk=0->plc r.l x.op.name=none->r.l.length<200->Bk r.cards x.by_=some c->Sg.check c.s x.op.bare x.r x.s=true->Ah r.cards r.l x.op=if x.kind=1/\r.l≠[] then 1 else Es r.l x.op):=fun c=>Aa2;have a1:Hid (∀y∈x.past,(plc r.l y).isNone=true->Es r.l x.op=10):=fun y hy h=>Aa3 hy h;have aq:Hid ((∀y∈x.past,∃p,plc r.l y=some p)->Es r.l x.op=Dl r.l x.op):=Aa4 (o:=x.op);have ah:Hid ((∀y∈x.past,∃p,plc r.l y=some p)->∀(a b p q:Nat) (m:Pn),(Am r.l x.past)[a]? =some p->(Am r.l x.past)[b]? =some q->r.l[p]? =some m->m.ps q=true->Dl r.l x.op=6):=fun hp a b p q m h1 h2 h3 h4=>Aa5 (o:=x.op) b5 hp h1 h2 h3 h4;have ag:Hid ((∀y∈x.past,∃p,plc r.l y=some p)->∀(a p:Nat) (m:Pn),(Am r.l x.past)[a]? =some p->r.l[p]? =some m->x.at_<m.o.at_->Dl r.l x.op=6):=fun hp a p m h1 h2 h3=>Aa6 (o:=x.op) hp h1 h2 h3;have ab:Hid (0<=x.at_->(∀y∈x.past,∃p,plc r.l y=some p)->(∀(a b p q:Nat) (m:Pn),(Am r.l x.past)[a]? =some p->(Am r.l x.past)[b]? =some q->r.l[p]? =some m->m.ps q=false)->(∀(a p:Nat) (m:Pn),(Am r.l x.past)[a]? =some p->r.l[p]? =some m->m.o.at_<=x.at_)->Dl r.l x.op=if Ba r.l (Aj r.l x.past) x.op=true then 11 else 0):=fun h0 hp h1 h2=>Aa7 (o:=x.op) h0 hp h1 h2;have dn:Hid (x.op.chk=0->1<=x.sq/\x.sq<=2147483647/\0<=x.at_):=Rc;have a6:Hid ((Am r.l x.past).length=x.past.length):=Gx _ _;rw [co] at bi az ak ae ad;clear co h hok hat b0;generalize Gb r.cards r.l x.op w=POST at*;generalize Ah r.cards r.l x.op=EE at*;generalize Es r.l x.op=EK at*;generalize Dl r.l x.op=EP at*;generalize x.op.chk=CK at*;obtain ⟨SB,cl⟩:=Aa (Ba r.l (Aj r.l x.past) x.op);rw [cl.out] at ab
 have ao:Hid (∀(w':World),Fr Non w w'->∀(A:Option Addr) (c:Nat),1<=x.sq->x.sq<=9223372036854775807->Rd w' w'.heap.size 1 A r.l.length (Ct r.l.length (Aj r.l x.past))->Calls zp 60 #[.agg r.cells,.agg x.cells,.slice A r.l.length c] w' (Ae (!SB) w')):=by
  rw [<- cl.out];exact dh.out
 clear dh cl;generalize x.op.bare=BR at*;generalize x.cells=XS at*;generalize r.cells=CS at*;generalize r.cards=CD at*;generalize r.lA=LA at*;generalize r.lC=LC at*;generalize r.nA=NA at*;generalize r.nC=NC at*;generalize r.l=l at*;obtain ⟨N,hN⟩:=Aa l.length
 have bn:Hid (l≠[]<->0<N):=by
  show _<->_;rw [<- hN.out];exact List.length_pos_iff.symm
 rw [hN.out] at g1 g4 b5 b8 af b4 bw ao az ak ae ad;generalize x.pastA=PA at*;generalize x.pastC=PC at*;generalize x.past=ids at*;obtain ⟨M,hM⟩:=Aa ids.length;rw [hM.out] at x4 dy bh a6 bw ac;generalize x.by_=xb at*;generalize x.sq=xsq at*;generalize x.kind=xk at*;generalize x.at_=xat at*;generalize x.r=xr at*;generalize x.s=xs at*;unfold NewB at ck;unfold Dx at cy;unfold En at cw;unfold Ix at cq;go_enter func16,ntmps16;go_upto_region 1 with (fail)
 generalize (w.alloc (.cells CS 32)).alloc (.cells XS 44)=w0 at*;go_upto_region 2 with (go_at_call 55;(with_reducible refine (cq.out _ f0).mono ?_);rintro _ w1 ⟨rfl,f1⟩)
 replace bg:=bg.fr f1 zq;replace bx:=bx.fr f1 zq;replace f0:=f0.trans f1 zr;clear cq f1 w0
 by_cases hck:CK=0
 case neg=>
  have t:(CK !=0)=true:=by simp [hck]
  have hd:=lh (aa.out CK w1 (c3.out hck) hck f0);clear aa ac c3 bi az ak ae ad a1 aq ah ag ab
  as_aux_lemma=>
  go_wp2_with fail
  first|exact hd.out|(go_ret2;exact hd.out)
 case pos=>
 obtain ⟨s1,s2,s3⟩:=dn.out hck;replace bi:Hid ((plc l nm).isSome=true->EE=5):=bi.out hck;replace az:=lh (az.out hck);replace ak:=lh (ak.out hck);replace ae:=lh (fun c=>ae.out c hck);replace ad:=lh (fun c=>ad.out c hck);clear c3 dn;subst hck;have B0:=bg.drew;have X0:=bx.drew;have ai:=f0.drew;have dk:=lh (fun w' hf=>cd.out nm w' hf);have c7:Hid ((plc l nm).isSome=true<->0<=As l nm):=plcI_pos.symm
 have dt:Hid (As l nm<0->plc l nm=none):=fun e=>by
  have:=plcI_neg.1 e
  cases hq:plc l nm with
  |none=>rfl
  |some p=>rw [hq] at this;cases this
 generalize As l nm=P0 at*;go_upto_region 4 with (fail)
 refine wp_region_held_drew (S:=fun w'=>Blk w' w.heap.size 32 CS/\Blk w' (w.heap.size+1) 44 XS) (by kernel_rfl) ⟨B0,X0⟩ (fun hHeld=> ?_);clear hHeld;refine tkH 0 ⟨B0,X0⟩ (h:=tkH 1 ⟨B0,X0⟩ (h:=?_));simp only [zl];refine oG 2 (fun K hK=> ?_);go_simp;go_wp2_with (go_at_call 57;(with_reducible refine (dq.out _ ai).mono ?_);rintro _ v1 ⟨rfl,cj⟩;have B1:=B0.fr cj zq;have X1:=X0.fr cj zq;have ap:=ai.trans cj zr);refine hK.out _ _ ⟨B1,X1⟩ (fun hZ=> ?_);clear hZ hK K;try simp only [Ac,zl]
 refine oG 3 (fun K hK=> ?_);go_simp;go_wp2_with (go_at_call 56;(with_reducible refine (dk.out _ ap).mono ?_);rintro _ v2 ⟨rfl,ce⟩;have B2:=B1.fr ce zq;have X2:=X1.fr ce zq;have aj:=ap.trans ce zr);refine hK.out _ _ ⟨B2,X2⟩ (fun hZ=> ?_);clear hZ hK K;try simp only [Ac,zl]
 refine tkH 4 ⟨B2,X2⟩ (h:=?_);simp only [zl];refine oD ?_;go_simp;clear dq dk B0 X0 ai B1 X1 ap cj ce v1 bg bx f0 w1
 rcases Ao4 P0 0 with hP|hP
 case inr=>
  have t:decide (P0>=0)=true:=decide_eq_true (by omega);have t2:decide (0<=P0)=true:=decide_eq_true (by omega);have hd:=lh (aa.out 5 v2 (bi.out (c7.out.2 hP)) (by decide) aj);clear aa ac bi az ak ae ad a1 aq ah ag ab
  as_aux_lemma=>
  go_wp2_with fail
  first|exact hd.out|(go_ret2;exact hd.out)
 case inl=>
 have t:decide (P0>=0)=false:=decide_eq_false (by omega);have t2:decide (0<=P0)=false:=decide_eq_false (by omega);have bv:=dt.out hP;replace az:=lh (az.out bv);replace ak:=lh (ak.out bv);replace ae:=lh (fun c=>ae.out c bv);replace ad:=lh (fun c=>ad.out c bv);clear bi c7 dt bv;have c1:=(B2.cell 1).trans g1.out;go_upto_region 6 with (fail)
 clear t t2 hP
 by_cases hfull:200<=N
 case pos=>
  have t:decide ((N:Int)>=200)=true:=decide_eq_true (by omega);have t2:decide ((200:Int)<=(N:Int))=true:=decide_eq_true (by omega);have hd:=lh (aa.out 3 v2 (az.out hfull) (by decide) aj);clear aa ac az ak ae ad a1 aq ah ag ab
  as_aux_lemma=>
  go_wp2_with fail
  first|exact hd.out|(go_ret2;exact hd.out)
 case neg=>
 have t:decide ((N:Int)>=200)=false:=decide_eq_false (by omega);have t2:decide ((200:Int)<=(N:Int))=false:=decide_eq_false (by omega);have ba:N<200:=by omega
 replace ak:=lh (ak.out ba);replace ae:=lh (fun c=>ae.out c ba);replace ad:=lh (fun c=>ad.out c ba);clear az hfull ba;have du:=(X2.cell 0).trans x0.out;have bt:=lh (cw.out v2 aj);clear cw
 cases hcd:Bk CD xb
 case none=>
  rw [hcd] at bt;have hd:=lh (fun w' hf=>aa.out 17 w' (ak.out hcd) (by decide) hf);have b9:Hid (Calls zp 58 #[.agg CS,.int .i64 xb] v2 fun e w'=>e=.returned (.tuple #[.agg zC,.bool false])/\Fr Non v2 w'):=bt.out;clear aa ac ak ae ad a1 aq ah ag ab bt
  as_aux_lemma=>
  go_upto_region 9 with (go_at_call 58;(with_reducible refine (b9.out).mono ?_);rintro _ v3 ⟨rfl,f3⟩)
  have dl:=lh (hd.out _ ((aj.trans f3 zr).alloc (.cells zC 104)));go_wp2_with fail
  first|exact dl.out|(go_ret2;exact dl.out)
 case some c=>
 have db:=b7.out c (List.mem_of_find?_eq_some hcd);rw [hcd] at bt;have b9:Hid (Calls zp 58 #[.agg CS,.int .i64 xb] v2 fun e w'=>e=.returned (.tuple #[.agg #[.int .i64 c.d,.int .i64 c.m,.int .u64 (c.l:Int),.int .u64 (c.k:Int),.int .u64 (c.s:Int)],.bool true])/\Fr Non v2 w'):=bt.out;replace ae:=lh (ae.out c hcd);replace ad:=lh (ad.out c hcd);have c0:=lh (cy.out c db);obtain ⟨sb,dp⟩:=Aa (Sg.check c.s BR xr xs);rw [dp.out] at ae ad c0;clear bt ak hcd cy db dp b7;go_upto_region 9 with (go_at_call 58;(with_reducible refine (b9.out).mono ?_);rintro _ v3 ⟨rfl,f3⟩)
 have f4:Fr Non v2 (v3.alloc (.cells #[.int .i64 c.d,.int .i64 c.m,.int .u64 (c.l:Int),.int .u64 (c.k:Int),.int .u64 (c.s:Int)] 104)):=f3.alloc _;have bc:=Blk.new v3 104 #[.int .i64 c.d,.int .i64 c.m,.int .u64 (c.l:Int),.int .u64 (c.k:Int),.int .u64 (c.s:Int)];have B3:=B2.fr f4 zq;have X3:=X2.fr f4 zq;have c9:=aj.trans f4 zr;obtain ⟨gc,dr⟩:=Aa v3.heap.size;rw [dr.out] at bc ⊢;generalize v3.alloc (.cells #[.int .i64 c.d,.int .i64 c.m,.int .u64 (c.l:Int),.int .u64 (c.k:Int),.int .u64 (c.s:Int)] 104)=v4 at*;have S0:cU v4.drew gc 4 c.s:=bc.cell 4;replace c1:cS v4 w.heap.size 1 LA N LC:=(B3.cell 1).trans g1.out;clear b9 f3 f4 dr B2 X2 aj du;go_upto_region 11 with (fail)
 clear t t2;have R0:cU v4.drew (w.heap.size+1) 25 xr:=(X3.cell 25).trans dv.out;have T0:cU v4.drew (w.heap.size+1) 26 xs:=(X3.cell 26).trans ed.out;have B0:=B3.drew;have X0:=X3.drew;have ai:=c9.drew;clear c1 bc B3 X3 c9;refine wp_region_held_drew (S:=fun w'=>Blk w' w.heap.size 32 CS/\Blk w' (w.heap.size+1) 44 XS/\cU w' gc 4 c.s/\cU w' (w.heap.size+1) 25 xr/\cU w' (w.heap.size+1) 26 xs) (by kernel_rfl) ⟨B0,X0,S0,R0,T0⟩ (fun hHeld=> ?_);clear hHeld;have uu:=aI B0 (aI X0 (aI S0 (aI R0 T0)));refine tkH 0 uu (h:=tkH 1 uu (h:=tkH 2 uu (h:=tkH 4 uu (h:=tkH 5 uu (h:=?_)))));clear uu;simp only [zl];refine oG 3 (fun K hK=> ?_);go_simp;go_wp2_with (go_at_call 54;(with_reducible refine (ck.out _ ai).mono ?_);rintro _ v1 ⟨A1,c1,rfl,dd,br⟩;have B1:=B0.fr br zq;have X1:=X0.fr br zq;obtain ⟨S1,R1,T1⟩:=zk3 br S0 R0 T0;have ap:=ai.trans br zr);refine hK.out _ _ ⟨B1,X1,S1,R1,T1⟩ (fun hZ=> ?_);clear hZ hK K;try simp only [Ac,zl]
 refine oG 6 (fun K hK=> ?_);go_simp;go_wp2_with (go_at_call 59;(with_reducible refine (c0.out _ _ _ _ dd).mono ?_);rintro _ v2 ⟨rfl,bj⟩;have B2:=B1.fr bj zq;have X2:=X1.fr bj zq;obtain ⟨S2,R2,T2⟩:=zk3 bj S1 R1 T1;have aj:=ap.trans bj zr);refine hK.out _ _ ⟨B2,X2,S2,R2,T2⟩ (fun hZ=> ?_);clear hZ hK K;try simp only [Ac,zl]
 refine tkH 7 ⟨B2,X2,S2,R2,T2⟩ (h:=?_);simp only [zl];refine oD ?_;go_simp;clear ck c0 B0 X0 ai B1 X1 ap S0 S1 S2 R0 R1 R2 T0 T1 T2 dd br bj v3 v1 v4
 cases sb
 case false=>
  have hd:=lh (aa.out 12 v2 (ae.out rfl) (by decide) aj);clear aa ac ae ad a1 aq ah ag ab
  as_aux_lemma=>
  go_wp2_with fail
  first|exact hd.out|(go_ret2;exact hd.out)
 case true=>
 replace ad:=lh (ad.out rfl);clear ae;have c1:=(B2.cell 1).trans g1.out;have dz:=(X2.cell 2).trans x2.out;go_upto_region 14 with (fail)
 obtain ⟨kb,b6⟩:=Aa (xk==1&&decide ((0:Int)<(N:Int)))
 go_cut [55] from 47 to 55 (fun s wc=>v2=wc/\s=.bool kb)
 case first=>
  clear aa ac ad a1 aq ah ag ab
  as_aux_lemma=>
  rcases zb (xk==1) with t1|t1
  ·
   have hv:Hid (decide ((0:Int)<(N:Int))=kb):=by show _=_;rw [<- b6.out,t1];rfl
   go_wp2_with fail;go_meet;exact ⟨rfl,congrArg Value.bool (by rw [<- hv.out];first|rfl|exact decide_eq_decide.2 (by omega))⟩
  ·
   have hv:Hid (false=kb):=by show _=_;rw [<- b6.out,t1];rfl
   go_wp2_with fail;go_meet;exact ⟨rfl,hB hv⟩
 case rest=>
 obtain ⟨rfl,rfl⟩:=hcut;clear c1 dz
 cases kb
 case true=>
  have hd:=lh (aa.out 1 v2 (by
   have h1:=b6.out;rw [An8,beq_iff_eq,decide_eq_true_iff] at h1;rw [ad.out,if_pos ⟨h1.1,bn.out.2 (by omega)⟩]) (by decide) aj)
  clear aa ac ad a1 aq ah ag ab
  as_aux_lemma=>
  go_wp2_with fail
  first|exact hd.out|(go_ret2;exact hd.out)
 case false=>
 replace ad:Hid (EE=EK):=by
  show _=_;have h1:=b6.out;rw [Bool.and_eq_false_iff,beq_eq_false_iff_ne,decide_eq_false_iff_not] at h1
  rw [ad.out,if_neg (fun e=>by
   rcases h1 with h1|h1
   · exact h1 e.1
   ·
    have:=bn.out.1 e.2;omega)]
 clear b6 bn;rw [<- ad.out] at a1 aq;clear ad;have c6:=aj.size;have er:=B2.lt;go_upto_region 16 with (fail)
 go_wp2_with fail;generalize v2=wL at*
 go_loopw [10,11] (fun s v wr=>∃(k:Nat) (A:Option Addr) (cc:Nat),v=.int .i64 (k:Int)/\s=.slice A k cc/\k<=M/\Hid (∀y∈ids.take k,∃p,plc l y=some p)/\Own wr wL.heap.size 3 1 A k cc ((Am l (ids.take k)).map Qv)/\Fr Non wL wr) (fun _ v _=>M-(intOf v).toNat)
 case atStart=>exact ⟨0,none,0,rfl,rfl,by omega,fun y hy=>absurd hy (by simp),Own.nil _ _ _ _,Fr.refl _ _⟩
 case round=>
  obtain ⟨k,A,cc,rfl,rfl,hk,bs,ay,hf⟩:=hrel;have av:Fr Non w wr:=aj.trans hf zr;have cv:=ay.row;have c4:=((X2.fr hf zq).cell 4).trans x4.out
  by_cases ba:k<M
  ·
   obtain ⟨y,hy⟩:∃y,ids[k]? =some y:=⟨_,An3 (by rw [hM.out];exact ba)⟩;obtain ⟨b,al,rfl,eo,k0,k1,k2⟩:=Id.at (bh.fr av zr) hy;obtain ⟨i1,i2,i3⟩:=ix k M
   have B0:=(B2.fr hf zq).drew;have ai:Fr Non w wr.drew:=av.drew;have Q0:cS wr.drew (w.heap.size+1) 4 (some ⟨b,al,none⟩) M PC:=c4;have a4:cI wr.drew b (al+k*3) y.b:=k0;have bd:cI wr.drew b (al+k*3+1) y.s:=k1;have a8:cU wr.drew b (al+k*3+2) y.u:=k2;have O0:Own wr.drew wL.heap.size 3 1 A k cc ((Am l (ids.take k)).map Qv):=ay.drew;have H0:Fr Non wL wr.drew:=hf.drew;have da:=lh (cd.out y wr.drew ai);have bf:Hid (As l y<0->EE=10):=fun e=>a1.out y (An7 hy) (plcI_neg.1 e)
   have bk:Hid (∀p:Nat,As l y=(p:Int)->(∀z∈ids.take (k+1),∃p,plc l z=some p)/\(Am l (ids.take (k+1))).map Qv=(Am l (ids.take k)).map Qv++[Qv p]):=by
    intro p hp
    have de:plc l y=some p:=by
     unfold As at hp
     cases hq:plc l y with
     |none=>rw [hq] at hp;dsimp only at hp;omega
     |some i=>rw [hq] at hp;dsimp only at hp;exact congrArg some (by omega)
    refine ⟨fun z hz=> ?_,by rw [Ae2 hy de,An4];rfl⟩;rw [Dz hy] at hz
    rcases List.mem_append.1 hz with h1|h1
    · exact bs.out z h1
    ·
     rw [An9] at h1;exact ⟨p,by rw [h1];exact de⟩
   clear hy k0 k1 k2 ay hf av cd a1 aq ah ag ab b8 af b4 bw ao;generalize As l y=P at*;go_upto_region 20 with (fail)
   clear c4;refine wp_region_held_drew (S:=fun w'=>Blk w' w.heap.size 32 CS/\cS w' (w.heap.size+1) 4 (some ⟨b,al,none⟩) M PC/\cI w' b (al+k*3) y.b/\cI w' b (al+k*3+1) y.s/\cU w' b (al+k*3+2) y.u) (by kernel_rfl) ⟨B0,Q0,a4,bd,a8⟩ (fun hHeld=> ?_);clear hHeld;have uu:=aI B0 (aI Q0 (aI a4 (aI bd a8)));refine tkH 0 uu (h:=tkH 1 uu (h:=tkH 2 uu (h:=tkH 3 uu (h:=tkH 4 uu (h:=tkH 5 uu (h:=?_))))));clear uu;simp only [zl];refine oG 6 (fun K hK=> ?_);go_simp;go_wp2_with (go_at_call 56;(with_reducible refine (da.out).mono ?_);rintro _ v1 ⟨rfl,a2⟩;have B1:=B0.fr a2 zq;obtain ⟨Q1,cz,cx,cn⟩:=zk4 a2 Q0 a4 bd a8;have ap:=ai.trans a2 zr;have O1:=O0.fr a2 zr;have H1:=H0.trans a2 zr);refine hK.out _ _ ⟨B1,Q1,cz,cx,cn⟩ (fun hZ=> ?_);clear hZ hK K;try simp only [Ac,zl]
   refine tkH 7 ⟨B1,Q1,cz,cx,cn⟩ (h:=?_);simp only [zl];refine oD ?_;go_simp;clear da B0 B1 ai Q0 Q1 a4 bd a8 cz cx cn O0 H0 a2
   rcases Ao4 P 0 with hP|hP
   ·
    have t:decide (P<0)=true:=decide_eq_true hP;have hd:=lh (aa.out 10 v1 (bf.out hP) (by decide) ap);clear aa ac bf bk;go_wp2_with fail
    first|exact hd.out|(go_ret2;exact hd.out)
   ·
    obtain ⟨p,rfl⟩:∃p:Nat,P=(p:Int):=⟨P.toNat,by omega⟩;have t:decide ((p:Int)<0)=false:=decide_eq_false (by omega);obtain ⟨ar,d9⟩:=bk.out p rfl;replace ar:=lh ar;have cr:=O1.alloc (.cells #[.int .i64 (p:Int)] 3);have dx:=H1.alloc (.cells #[.int .i64 (p:Int)] 3);have ee:=Blk.new v1 3 #[.int .i64 (p:Int)];have el:=H1.size;clear bf bk aa ac;go_wp2_with (at_builtin;go_loud (refine Aw (base:=wL.heap.size) (.tmp 72) (.tmp 74) 22 rfl rfl rfl rfl Fi cr (Rd.blk (n:=1) (size:=1) ee rfl) (by simp [Value.oneCell']) (by omega) (by omega) (by rw [Ao6];omega) ?_);intro A2 d7 w4 ct eg d5);have ea:Fr Non wL w4:=dx.trans eg (fun j hj e=>by have h5:=(cv j e).1;omega);go_roundw
    case rel=>exact ⟨k+1,A2,d7,by go_num,rfl,by omega,ar,by rw [d9];exact ct,ea⟩
    case measure=>simp [intOf];omega
  ·
   obtain rfl:k=M:=by omega
   have ar:∀y∈ids,∃p,plc l y=some p:=by
    have h1:=bs.out;rwa [An5 (by rw [hM.out];omega)] at h1
   have aw:Own wr wL.heap.size 3 1 A k cc ((Am l ids).map Qv):=by
    have h1:=ay;rwa [An5 (by rw [hM.out];omega)] at h1
   have dg:=aq.out ar;replace ah:=ah.out ar;replace ag:=ag.out ar;replace ab:=ab.out s3 ar;rw [<- dg] at ah ag ab
   have a9:∀(a p:Nat),(Am l ids)[a]? =some p->p<N:=fun a p ha=>by
    rw [<- hN.out];exact Kp ar p (An7 ha)
   have be:=lh (fun w' (hf':Fr Non w w') ho=>bw.out A k cc w' wL.heap.size hf' ar rfl ho);replace ah:=lh ah;replace ag:=lh ag;replace ab:=lh ab;replace a9:=lh a9;clear a1 aq bs ay ar dg cd bw;generalize Am l ids=US at*;have B3:=B2.fr hf zq;have X3:=X2.fr hf zq;clear B2 X2;go_wp2_with fail;clear c4;have ek:=av.size
   have hU:Hid (∀(a p:Nat),US[a]? =some p->a<k/\∃bU au,A=some ⟨bU,au,none⟩/\cI wr bU (au+a) (p:Int)):=by
    intro a p ha
    have ba:a<k:=by
     have:=(List.getElem?_eq_some_iff.1 ha).1;rw [a6.out] at this;exact this
    obtain ⟨bU,au,u,h1,_,h2,h3⟩:=aw.rd.at ba;rw [Ao3,ha] at h2;injection h2 with h2
    subst h2;exact ⟨ba,bU,au,h1,h3⟩
   have cf:Hid (∀wz,Fr Non wr wz->cS wz w.heap.size 1 LA N LC/\cS wz w.heap.size 4 NA N NC/\cI wz (w.heap.size+1) 3 xat):=fun wz hz=>
    ⟨((B3.fr hz zq).cell 1).trans g1.out,((B3.fr hz zq).cell 4).trans g4.out,((X3.fr hz zq).cell 3).trans x3.out⟩
   obtain ⟨wM,d0⟩:∃wM:World,wM=wr:=⟨_,rfl⟩;subst d0
   go_loopw [13] (fun v wr=>∃i:Nat,v=.int .i64 (i:Int)/\i<=k/\Hid (∀(a b p q:Nat) (m:Pn),a<i->US[a]? =some p->US[b]? =some q->l[p]? =some m->m.ps q=false)/\Hid (∀(a p:Nat) (m:Pn),a<i->US[a]? =some p->l[p]? =some m->m.o.at_<=xat)/\Fr Non wM wr) (fun v _=>k-(intOf v).toNat)
   case atStart=>exact ⟨0,rfl,by omega,fun a b p q m h=>absurd h (Ao5 _),fun a p m h=>absurd h (Ao5 _),Fr.refl _ _⟩
   case round=>
    obtain ⟨i,rfl,ep,cb,a7,bu⟩:=hrel
    by_cases hi:i<k
    ·
     obtain ⟨i1,i2,i3⟩:=ix i k
     obtain ⟨pi,bq⟩:∃p,US[i]? =some p:=⟨_,An3 (by rw [a6.out];exact hi)⟩;have c8:=a9.out i pi bq;obtain ⟨_,bU,au,rfl,dj⟩:=hU.out i pi bq;obtain ⟨m,A2,c2,b2,d2,hm,rfl,cm,a0⟩:=b8.out pi c8;obtain ⟨m',bL,dw,ch,rfl,cp⟩:=af.out pi c8;rw [hm] at ch;injection ch with ch
     subst ch;obtain ⟨p1,p2,p3⟩:=ix pi N
     have bp:Hid (∀(b q:Nat),US[b]? =some q->m.ps q=true->EE=6):=fun b q hb hq=>ah.out i b pi q m bq hb hm hq;have a5:Hid (xat<m.o.at_->EE=6):=fun e=>ag.out i pi m bq hm e
     have bo:Hid ((∀(b q:Nat),US[b]? =some q->m.ps q=false)->∀(a b p q:Nat) (m:Pn),a<i+1->US[a]? =some p->US[b]? =some q->l[p]? =some m->m.ps q=false):=by
      intro hh a b p q m2 ha h1 h2 h3
      rcases An6 a i with h4|h4
      · exact cb.out a b p q m2 h4 h1 h2 h3
      ·
       have e:a=i:=by omega
       subst e;rw [bq] at h1;injection h1 with h1
       subst h1;rw [hm] at h3;injection h3 with h3
       subst h3;exact hh b q h2
     have bb:Hid (m.o.at_<=xat->∀(a p:Nat) (m:Pn),a<i+1->US[a]? =some p->l[p]? =some m->m.o.at_<=xat):=by
      intro hh a p m2 ha h1 h3
      rcases An6 a i with h4|h4
      · exact a7.out a p m2 h4 h1 h3
      ·
       have e:a=i:=by omega
       subst e;rw [bq] at h1;injection h1 with h1
       subst h1;rw [hm] at h3;injection h3 with h3
       subst h3;exact hh
     obtain ⟨wo,ef⟩:∃wo:World,wo=wr:=⟨_,rfl⟩;subst ef;clear cb a7 hm bq b8 af ah ag;go_wp2_with fail
     go_loopw [14] (fun v wr=>∃j:Nat,v=.int .i64 (j:Int)/\j<=k/\Hid (∀(b q:Nat),b<j->US[b]? =some q->m.ps q=false)/\Fr Non wo wr) (fun v _=>k-(intOf v).toNat)
     case atStart=>exact ⟨0,rfl,by omega,fun b q h=>absurd h (Ao5 _),Fr.refl _ _⟩
     case round=>
      obtain ⟨j,rfl,eh,bf,di⟩:=hrel;have a3:Fr Non wM wr:=bu.trans di zr;obtain ⟨d1,d4,d3⟩:=cf.out wr a3;have et:=a3.cell dj zq
      by_cases hj:j<k
      ·
       obtain ⟨j1,j2,j3⟩:=ix j k
       obtain ⟨qj,b1⟩:∃p,US[j]? =some p:=⟨_,An3 (by rw [a6.out];exact hj)⟩;have d8:=a9.out j qj b1;obtain ⟨_,ei,dc,eU,dm⟩:=hU.out j qj b1;injection eU with eU
       injection eU with e1 e2
       subst e1 e2;obtain ⟨b3,eb,rfl,ds⟩:=a0 qj d8;obtain ⟨q1,q2,q3⟩:=ix qj N
       have en:=a3.cell dm zq;have ej:=(av.trans a3 zr).cell cm zq;have d6:=(av.trans a3 zr).cell ds zq;have bl:=lh (bp.out j qj b1)
       have bm:Hid (m.ps qj=false->∀(b q:Nat),b<j+1->US[b]? =some q->m.ps q=false):=by
        intro hh b q hb h1
        rcases An6 b j with h4|h4
        · exact bf.out b q h4 h1
        ·
         have e:b=j:=by omega
         subst e;rw [b1] at h1;injection h1 with h1
         subst h1;exact hh
       clear bf b1 bp a5 bo bb cm ds dm dj cp a0 ab be ao hU cf d1 d3;generalize m.ps qj=mq at*
       cases mq
       case true=>
        have hd:=lh (fun wz hz=>aa.out 6 wz (bl.out rfl) (by decide) hz);have ax:Fr Non w wr:=av.trans a3 zr;clear aa ac bl bm;go_wp2_with fail
        go_quiet (fail)
        go_wp2_with fail
        first|exact hd.out _ (ax.drewN _)|(go_ret2;exact hd.out _ (ax.drewN _))
       case false=>
        have c5:=lh (bm.out rfl);clear aa ac bl bm;go_wp2_with fail
        go_quiet (fail)
        go_wp2_with fail;go_roundw
        case rel=>exact ⟨j+1,by go_num,by omega,c5,di.drewN _⟩
        case measure=>simp [intOf];omega
      ·
       obtain rfl:j=k:=by omega
       have cu:=lh (bo.out (fun b q hb=>bf.out b q (hU.out b q hb).1 hb));have ec:=(av.trans a3 zr).cell cp zq;have ax:Fr Non w wr:=av.trans a3 zr;clear bo bf bp cm cp a0 ab be ao hU cf d4;generalize m.o.at_=ma at*
       rcases Ao4 xat ma with hla|hla
       ·
        have t:decide (xat<ma)=true:=decide_eq_true hla;have hd:=lh (fun wz hz=>aa.out 6 wz (a5.out hla) (by decide) hz);clear aa ac a5 bb;go_wp2_with fail
        go_quiet (fail)
        go_wp2_with fail
        first|exact hd.out _ (ax.drewN _)|(go_ret2;exact hd.out _ (ax.drewN _))
       ·
        have t:decide (xat<ma)=false:=decide_eq_false (by omega);have bz:=lh (bb.out hla);clear aa ac a5 bb;go_wp2_with fail
        go_quiet (fail)
        go_wp2_with fail;go_roundw
        case rel=>exact ⟨i+1,by go_num,by omega,cu,bz,a3.drewN _⟩
        case measure=>simp [intOf];omega
    ·
     obtain rfl:i=k:=by omega
     have ci:Hid (EE=if SB=true then 11 else 0):=ab.out (fun a b p q m h1 h2 h3=>cb.out a b p q m (hU.out a p h1).1 h1 h2 h3) (fun a p m h1 h3=>a7.out a p m (hU.out a p h1).1 h1 h3);have B0:=(B3.fr bu zq).drew;have X0:=(X3.fr bu zq).drew;have ai:Fr Non w wr.drew:=(av.trans bu zr).drew;have O0:Own wr.drew wL.heap.size 3 1 A i cc (US.map Qv):=(aw.fr bu zr).drew;clear cb a7 ah ag ab hU cf b8 af B3 X3 aw bu av hf;go_upto_region 34 with (fail)
     refine wp_region_held_drew (S:=fun w'=>Blk w' w.heap.size 32 CS/\Blk w' (w.heap.size+1) 44 XS) (by kernel_rfl) ⟨B0,X0⟩ (fun hHeld=> ?_);clear hHeld;have uu:=aI B0 X0;refine tkH 0 uu (h:=tkH 1 uu (h:=tkH 2 uu (h:=tkH 3 uu (h:=?_))));clear uu;simp only [zl];refine oG 4 (fun K hK=> ?_);go_simp;go_wp2_with (go_at_call 61;(with_reducible refine (be.out _ ai O0).mono ?_);rintro _ v1 ⟨A1,c1,rfl,df,ca⟩;have B1:=B0.fr ca zq;have X1:=X0.fr ca zq;have ap:=ai.trans ca zr;have O1:=O0.fr ca zr);refine hK.out _ _ ⟨B1,X1⟩ (fun hZ=> ?_);clear hZ hK K;try simp only [Ac,zl]
     refine oG 5 (fun K hK=> ?_);go_simp;go_wp2_with (go_at_call 60;(with_reducible refine (ao.out _ ap _ _ s1 (by omega) df.rd).mono ?_);rintro _ v2 ⟨rfl,cg⟩;have B2:=B1.fr cg zq;have X2:=X1.fr cg zq;have aj:=ap.trans cg zr;have O2:=O1.fr cg zr);refine hK.out _ _ ⟨B2,X2⟩ (fun hZ=> ?_);clear hZ hK K;try simp only [Ac,zl]
     refine tkH 6 ⟨B2,X2⟩ (h:=?_);simp only [zl];refine oD ?_;go_simp;clear be ao B0 B1 B2 X0 X1 X2 ai ap O0 O1 df;have es:=c6
     cases SB
     case true=>
      have hd:=lh (aa.out 11 v2 (by rw [ci.out];rfl) (by decide) aj);clear aa ac ci;go_wp2_with fail
      first|exact hd.out|(go_ret2;exact hd.out)
     case false=>
      have hd:=lh (ac.out A i cc v2 (by rw [ci.out];rfl) rfl (O2.lower c6) aj);clear aa ac ci;go_wp2_with fail
      first|exact hd.out|(go_ret2;exact hd.out)
end Oq
end
namespace Oq
theorem Gc:SlT zp 27 44 (.agg zO) 27 328:=⟨underlying27,by kernel_rfl,rfl,by decide⟩
theorem slIi:SlT zp 29 22 (.slice none 0 0) 1 24:=⟨underlying29,by kernel_rfl,rfl,by decide⟩
theorem slBb:SlT zp 30 108 (.slice none 0 0) 1 24:=⟨underlying30,by kernel_rfl,rfl,by decide⟩
structure KA (w wv:World) (nb:Nat) (GS XS ZS cs:Array Value):Prop where
 bg:Blk wv w.heap.size 32 GS
 bx:Blk wv (w.heap.size+1) 44 XS
 br:Blk wv (w.heap.size+2) 32 ZS
 bn:Blk wv nb 32 cs
 nb:w.heap.size+3<=nb
 fr:Fr Non w wv
theorem KA.over {S:Nat->Prop} {w wv w':World} {nb:Nat} {GS XS ZS cs:Array Value} (h:KA w wv nb GS XS ZS cs) (hf:Fr S wv w') (hS:∀k,S k->w.heap.size+3<=k) (hn:¬S nb):KA w w' nb GS XS ZS cs where
 bg:=h.bg.fr hf (fun e=>by have:=hS _ e;omega)
 bx:=h.bx.fr hf (fun e=>by have:=hS _ e;omega)
 br:=h.br.fr hf (fun e=>by have:=hS _ e;omega)
 bn:=h.bn.fr hf hn
 nb:=h.nb
 fr:=h.fr.trans hf (fun k hk e=>by have:=hS _ e;omega)
theorem KA.non {w wv w':World} {nb:Nat} {GS XS ZS cs:Array Value} (h:KA w wv nb GS XS ZS cs) (hf:Fr Non wv w'):KA w w' nb GS XS ZS cs:=h.over hf (fun _ e=>e.elim) zq
theorem KA.set {w wv:World} {nb:Nat} {GS XS ZS cs:Array Value} (h:KA w wv nb GS XS ZS cs) (i:Nat) (v:Value):KA w (wv.setCell ⟨nb,i,none⟩ v) nb GS XS ZS (cs.setIfInBounds i v) where
 bg:=h.bg.far (p:=⟨_,_,_⟩) (by have:=h.nb;show _≠nb;omega) _
 bx:=h.bx.far (p:=⟨_,_,_⟩) (by have:=h.nb;show _≠nb;omega) _
 br:=h.br.far (p:=⟨_,_,_⟩) (by have:=h.nb;show _≠nb;omega) _
 bn:=h.bn.set i v
 nb:=h.nb
 fr:=h.fr.setNew (by have:=h.nb;omega) i v
theorem Own.ne2 {w:World} {b b' size size' n n' c c':Nat} {t t':TypeId} {A A':Option Addr} {xs xs':List Value} (h:Own w b t size A n c xs) (h':Own w b' t' size' A' n' c' xs') (hne:t≠t'):∀k,Ab A=some k->Ab A'≠some k:=by
 intro k hk hk'
 rcases h.2 with ⟨hv,_⟩|⟨g,cap,cur,hv,_,hg,_⟩
 ·
  injection hv with hA
  subst hA
  cases hk
 ·
  injection hv with hA
  subst hA;injection hk with hk
  have hk2:g=k:=hk;subst hk2;exact Own.ne h' (g:=g) (t:=t) (cs:=cur) hg (fun e=>hne e.symm) hk'
theorem Own.setFar {w:World} {b size n c nb i:Nat} {t:TypeId} {A:Option Addr} {xs:List Value} {cs:Array Value} {t':TypeId} (h:Own w b t size A n c xs) (hb:Blk w nb t' cs) (hne:t≠t') (v:Value):Own (w.setCell ⟨nb,i,none⟩ v) b t size A n c xs:=
 h.setOne (h.ne hb hne)
theorem Own.grow2 {w w':World} {b b' size size' n n' c c':Nat} {t t':TypeId} {A A':Option Addr} {xs xs':List Value} (h:Own w b t size A n c xs) (h':Own w b' t' size' A' n' c' xs') (hne:t≠t') (hf:Fr (fun k=>Ab A'=some k) w w'):Own w' b t size A n c xs:=
 h.fr hf (fun k hk e=>Own.ne2 h h' hne k hk e)
theorem Gd {w w':World} (h:Fr (fun k=>Ab none=some k) w w'):Fr Non w w':=h.mono (fun _ _ e=>by cases e)
theorem Ae3 (l:List Pn) (o:Op):(Au l o).id=o.name:=rfl
theorem Ae4 (l:List Pn) (o:Op):(Au l o).o=o:=rfl
theorem Cv (b s:Int) (u:Nat) (hb:I64 b) (hs:I64 s) (hu:U64 u):(Id.mk b s u).ok:=⟨hb,hs,hu⟩
theorem Ec {o:Op} (h:o.ok):o.name.ok:=Cv o.by_ o.sq o.id h.by_ h.sq (Lc o)
theorem Ae5 (r:RG) (o:Op):(r.l++[Au r.l o]).map Pn.id=r.ids++[o.name]:=by
 unfold RG.ids;rw [An4];rfl
def RG.more (r:RG) (x:OpL) (lA:Option Addr) (lC:Nat) (iA:Option Addr) (iC:Nat) (uA:Option Addr) (uC:Nat) (nA:Option Addr) (nC:Nat) (u:UpL) (ns:List InL):RG:=
 {cA:=r.cA,cC:=r.cC,cards:=r.cards,lA:=lA,lC:=lC,xs:=r.xs++[x],iA:=iA,iC:=iC,uA:=uA,uC:=uC,us:=r.us++[u],nA:=nA,nC:=nC,ns:=ns,l:=r.l++[Au r.l x.op]}
theorem Ae6 {w wz:World} {base:Nat} {r:RG} {x:OpL} {lA iA uA nA:Option Addr} {lC iC uC nC:Nat} {u:UpL} {ns:List InL} (h:r.own w base) (hx:x.lies w base) (hok:x.op.ok) (hf:Fr Non w wz) (hb:base<=w.heap.size+3) (he:Ah r.cards r.l x.op=0)
  (oL:Own wz (w.heap.size+3) 44 27 lA (r.l.length+1) lC (r.xs.flatMap (fun x=>x.cells.toList)++x.cells.toList))
  (oI:Own wz (w.heap.size+3) 38 3 iA (r.l.length+1) iC (r.ids.flatMap Id.cells++x.op.name.cells))
  (oU:Own wz (w.heap.size+3) 22 1 uA (r.l.length+1) uC (r.us.map UpL.cell++[u.cell])) (ou:u.own wz base) (hu:u.xs=Am r.l x.op.past)
  (oN:Own wz (w.heap.size+3) 108 1 nA (r.l.length+1) nC (ns.map InL.cell)) (on:∀y∈ns,y.own wz base) (hn:ns.map InL.bs=(Dd r.l).map (· ++[false])++[Bn r.l.length (Aj r.l x.op.past)++[false]]):
  (r.more x lA lC iA iC uA uC nA nC u ns).own wz base:=by
 have T:=Ib he;have hlen:(r.l++[Au r.l x.op]).length=r.l.length+1:=by rw [List.length_append];rfl
 refine ⟨h.cards.non hf,?_,?_,?_,?_,?_,?_,?_,?_,?_,?_,?_,Rows.snoc r.l x.op h.rows he,h.cfew,h.cok⟩
 ·
  show RowAt wz base 44 27 lA (r.l++[Au r.l x.op]).length lC ((r.xs++[x]).flatMap (fun x=>x.cells.toList));rw [hlen,Ao7,Ao8,Ao9,List.append_nil];exact (RowAt.of_own oL).lower hb
 ·
  intro y hy
  rcases List.mem_append.1 hy with h1|h1
  · exact (h.each y h1).non hf
  ·
   rw [An9] at h1;rw [h1];exact hx.non hf
 ·
  show (r.xs++[x]).map OpL.op=(r.l++[Au r.l x.op]).map Pn.o;rw [An4,An4,h.same];rfl
 ·
  intro n hn'
  rcases List.mem_append.1 hn' with h1|h1
  · exact h.ok n h1
  ·
   rw [An9] at h1;rw [h1,Ae4,Ae3];exact ⟨hok,Ec hok⟩
 ·
  show RowAt wz base 38 3 iA (r.l++[Au r.l x.op]).length iC (((r.l++[Au r.l x.op]).map Pn.id).flatMap Id.cells);rw [hlen,Ae5,Ao7,Ao8,Ao9,List.append_nil];exact (RowAt.of_own oI).lower hb
 ·
  show RowAt wz base 22 1 uA (r.l++[Au r.l x.op]).length uC ((r.us++[u]).map UpL.cell);rw [hlen,An4];exact (RowAt.of_own oU).lower hb
 ·
  intro y hy
  rcases List.mem_append.1 hy with h1|h1
  · exact RowAt.non (h.eachU y h1) hf
  ·
   rw [An9] at h1;rw [h1];exact ou
 ·
  show (r.us++[u]).map UpL.xs=Fb (r.l++[Au r.l x.op]);rw [Wy h.rows T,An4,h.sameU,<- hu];rfl
 ·
  show RowAt wz base 108 1 nA (r.l++[Au r.l x.op]).length nC (ns.map InL.cell);rw [hlen];exact (RowAt.of_own oN).lower hb
 · exact on
 ·
  show ns.map InL.bs=Dd (r.l++[Au r.l x.op]);rw [Wz h.rows T,hn]
structure KR (b:Nat) (wv:World) (lA:Option Addr) (nL lC:Nat) (LX:List Value) (iA:Option Addr) (nI iC:Nat) (IX:List Value) (uA:Option Addr) (nU uC:Nat) (UX:List Value) (A1:Option Addr) (M c1:Nat) (UP:List Value) (A2:Option Addr) (N c2:Nat) (BX:List Value):Prop where
 oL:Own wv b 44 27 lA nL lC LX
 oI:Own wv b 38 3 iA nI iC IX
 oU:Own wv b 22 1 uA nU uC UX
 oA:Own wv b 3 1 A1 M c1 UP
 oB:Own wv b 4 1 A2 N c2 BX
section
variable {b : Nat} {wv w' : World} {lA iA uA A1 A2 : Option Addr} {nL lC nI iC nU uC M c1 N c2 : Nat} {LX IX UX UP BX : List Value}
theorem KR.non (h:KR b wv lA nL lC LX iA nI iC IX uA nU uC UX A1 M c1 UP A2 N c2 BX) (hf:Fr Non wv w'):KR b w' lA nL lC LX iA nI iC IX uA nU uC UX A1 M c1 UP A2 N c2 BX:=
 ⟨h.oL.fr hf zr,h.oI.fr hf zr,h.oU.fr hf zr,h.oA.fr hf zr,h.oB.fr hf zr⟩
theorem KR.setFar {nb i:Nat} {cs:Array Value} (h:KR b wv lA nL lC LX iA nI iC IX uA nU uC UX A1 M c1 UP A2 N c2 BX) (hb:Blk wv nb 32 cs) (v:Value):KR b (wv.setCell ⟨nb,i,none⟩ v) lA nL lC LX iA nI iC IX uA nU uC UX A1 M c1 UP A2 N c2 BX:=
 ⟨Own.setFar h.oL hb (by decide) v,Own.setFar h.oI hb (by decide) v,Own.setFar h.oU hb (by decide) v,Own.setFar h.oA hb (by decide) v,Own.setFar h.oB hb (by decide) v⟩
theorem KR.grow {b' n c:Nat} {A:Option Addr} {xs:List Value} (h:KR b wv lA nL lC LX iA nI iC IX uA nU uC UX A1 M c1 UP A2 N c2 BX) (ho:Own wv b' 108 1 A n c xs) (hf:Fr (fun k=>Ab A=some k) wv w'):KR b w' lA nL lC LX iA nI iC IX uA nU uC UX A1 M c1 UP A2 N c2 BX:=
 ⟨Own.grow2 h.oL ho (by decide) hf,Own.grow2 h.oI ho (by decide) hf,Own.grow2 h.oU ho (by decide) hf,Own.grow2 h.oA ho (by decide) hf,Own.grow2 h.oB ho (by decide) hf⟩
end
theorem InL.own.grow {w w':World} {base b' n c:Nat} {A:Option Addr} {xs:List Value} {y:InL} (h:y.own w base) (ho:Own w b' 108 1 A n c xs) (hf:Fr (fun k=>Ab A=some k) w w'):y.own w' base:=by
 refine RowAt.keepT h hf (fun k cs fr hk e=> ?_)
 rcases ho.2 with ⟨hv,_⟩|⟨g,cap,cur,hv,_,hg,_⟩
 ·
  injection hv with hA
  subst hA
  cases e
 ·
  injection hv with hA
  subst hA;injection e with e
  have e2:g=k:=e;subst e2;rw [hg] at hk;injection hk with hk
  injection hk with _ ht
  exact absurd ht (by decide)
theorem InL.own.setFar {w:World} {base nb i:Nat} {cs:Array Value} {y:InL} (h:y.own w base) (hb:Blk w nb 32 cs) (v:Value):y.own (w.setCell ⟨nb,i,none⟩ v) base:=by
 refine RowAt.keepT h ((Fr.refl (One nb) w).setOne i v) (fun k cs' fr hk e=> ?_);have e2:k=nb:=e;subst e2;have hb':w.heap[k]? =some (.cells cs 32 (0,0)):=hb;rw [hb'] at hk;injection hk with hk
 injection hk with _ ht
 exact absurd ht (by decide)
theorem Rf {w:World} {base b N c:Nat} {A:Option Addr} {bs:List Bool} (h:Own w b 4 1 A N c (bs.map Value.bool)) (hb:base<=b) (hN:bs.length=N):(InL.mk A c bs).own w base:=by
 show RowAt w base 4 1 A bs.length c (bs.map Value.bool);rw [hN];exact (RowAt.of_own h).lower hb
theorem Li {A:Option Addr} {c N:Nat} {bs:List Bool} (hN:bs.length=N):(InL.mk A c bs).cell=.slice A N c:=by
 subst hN;rfl
theorem Rg (bs:List Bool):bs.map Value.bool++[Value.bool false]=(bs++[false]).map Value.bool:=by rw [An4];rfl
end Oq
end Go.Proofs.YtihfebhfgliojaaGreatDoor
