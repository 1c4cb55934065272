/-
  A contract of a function that the claim's statement reaches (part 59).
  Conditions: as the theorem says.
-/
import Derived.Test.YtihfebhfgliojaaGreatDoorGrW8
set_option maxRecDepth 100000
set_option maxHeartbeats 16000000
namespace Go.Proofs.YtihfebhfgliojaaGreatDoor
section
open Go.RowKit
attribute [local go_sem ↓] Go.wp_at_zero Go.wp_at_succ
namespace Oq
attribute [local go_sem] Bool.not_false Bool.not_true
attribute [local go_sem ↓] E8 P7
def OpL.q1 (x:OpL):Bool:=!((x.dev !=0)&& !(x.kind==2)&& !(x.kind==3)&& !(x.kind==11)&& !(x.kind==13))
def OpL.q2 (x:OpL):Bool:=!(((x.old !=0)&& !(x.kind==13))||((x.mem !=0)&& !(x.kind==3)&& !(x.kind==5))||((x.role !=0)&& !(x.kind==2)&& !(x.kind==5)))
def OpL.q3 (x:OpL):Bool:=!(decide (0<x.path.length)&& !Cl x.kind)
def OpL.q4 (x:OpL):Bool:=!(!(x.kind==6)&&((!Id.eq x.epoch Id.zero)||(x.n !=0)||decide (0<x.refs.length)))
def OpL.q5 (x:OpL):Bool:=!((decide (0<x.body.length)&& !(x.kind==6)&& !(x.kind==7))||((!Id.eq x.of Id.zero)&& !Br x.kind))
def OpL.q6 (x:OpL):Bool:=!(!(x.kind==9)&&(decide (0<x.guards.length)||(x.wait !=0)||((x.pub:Int) !=0)))
def OpL.q7 (x:OpL):Bool:=!(((x.need !=0)&& !(x.kind==9)&& !(x.kind==1))||(decide (0<x.boxes.length)&& !(x.kind==9)&& !(x.kind==10)&& !(x.kind==11)))
def OpL.q8 (x:OpL):Bool:=(((x.hist.length:Int)==0)||(x.kind==2)||(x.kind==13))
def OpL.bareR (x:OpL):Bool:=x.q1&&(x.q2&&(x.q3&&(x.q4&&(x.q5&&(x.q6&&(x.q7&&x.q8))))))
theorem Z6 (x:OpL) (w:World):Calls Tryz.prog 109 #[.agg x.cells] w (Ae x.bareR w):=by
 have ab:=Blk.new w 44 x.cells;have fz:Fr Non w (w.alloc (.cells x.cells 44)):=(Fr.refl Non w).alloc _;have c2:cI (w.alloc (.cells x.cells 44)) w.heap.size 2 x.kind:=ab.cell 2;have c5:cI (w.alloc (.cells x.cells 44)) w.heap.size 5 x.dev:=ab.cell 5;have c6:cI (w.alloc (.cells x.cells 44)) w.heap.size 6 x.old:=ab.cell 6;have c7:cI (w.alloc (.cells x.cells 44)) w.heap.size 7 x.mem:=ab.cell 7;have c8:cI (w.alloc (.cells x.cells 44)) w.heap.size 8 x.role:=ab.cell 8;have c9:cS (w.alloc (.cells x.cells 44)) w.heap.size 9 x.pathA x.path.length x.pathC:=ab.cell 9;have a5:cI (w.alloc (.cells x.cells 44)) w.heap.size 10 x.epoch.b:=ab.cell 10;have a9:cI (w.alloc (.cells x.cells 44)) w.heap.size 11 x.epoch.s:=ab.cell 11;have a7:cU (w.alloc (.cells x.cells 44)) w.heap.size 12 x.epoch.u:=ab.cell 12;have a6:cI (w.alloc (.cells x.cells 44)) w.heap.size 13 x.n:=ab.cell 13;have ba:cS (w.alloc (.cells x.cells 44)) w.heap.size 14 x.bodyA x.body.length x.bodyC:=ab.cell 14;have be:cS (w.alloc (.cells x.cells 44)) w.heap.size 15 x.refsA x.refs.length x.refsC:=ab.cell 15;have a8:cI (w.alloc (.cells x.cells 44)) w.heap.size 16 x.of.b:=ab.cell 16;have a3:cI (w.alloc (.cells x.cells 44)) w.heap.size 17 x.of.s:=ab.cell 17;have a2:cU (w.alloc (.cells x.cells 44)) w.heap.size 18 x.of.u:=ab.cell 18;have bf:cS (w.alloc (.cells x.cells 44)) w.heap.size 19 x.guardsA x.guards.length x.guardsC:=ab.cell 19;have bb:cI (w.alloc (.cells x.cells 44)) w.heap.size 20 x.need:=ab.cell 20;have bc:cI (w.alloc (.cells x.cells 44)) w.heap.size 21 x.wait:=ab.cell 21;have a4:cS (w.alloc (.cells x.cells 44)) w.heap.size 22 x.boxesA x.boxes.length x.boxesC:=ab.cell 22;have bd:cU (w.alloc (.cells x.cells 44)) w.heap.size 23 x.pub:=ab.cell 23;have az:cS (w.alloc (.cells x.cells 44)) w.heap.size 24 x.histA x.hist.length x.histC:=ab.cell 24;generalize x.cells=CS at*;clear ab;have aa:Hid (x.bareR=(x.q1&&(x.q2&&(x.q3&&(x.q4&&(x.q5&&(x.q6&&(x.q7&&x.q8)))))))):=rfl;generalize x.bareR=LB at*;obtain ⟨nh,ah⟩:=Aa x.hist.length;rw [ah.out] at az;go_enter Tryz.func109,Tryz.ntmps109;go_upto_region 2 with (fail)
 generalize w.alloc (.cells CS 44)=W at*
 go_cut [4] from 5 (fun s wc=>W=wc/\s=.bool (Br x.kind))
 case first=>
  as_aux_lemma=>
  clear aa
  rcases zb (x.kind==7) with t1|t1
  ·
   have af:(x.kind !=7)=false:=by rw [bne,t1];rfl
   go_wp2_with fail;go_meet;exact ⟨rfl,by unfold Br;simp [t1]⟩
  ·
   have af:(x.kind !=7)=true:=by rw [bne,t1];rfl
   rcases zb (x.kind==8) with t2|t2
   ·
    have ac:(x.kind !=8)=false:=by rw [bne,t2];rfl
    go_wp2_with fail;go_meet;exact ⟨rfl,by unfold Br;simp [t1,t2]⟩
   ·
    have ac:(x.kind !=8)=true:=by rw [bne,t2];rfl
    rcases zb (x.kind==12) with t3|t3
    ·
     have aj:(x.kind !=12)=false:=by rw [bne,t3];rfl
     go_wp2_with fail;go_meet;exact ⟨rfl,by unfold Br;simp [t1,t2,t3]⟩
    ·
     have aj:(x.kind !=12)=true:=by rw [bne,t3];rfl
     rcases zb (x.kind==10) with t4|t4
     ·
      have ad:(x.kind !=10)=false:=by rw [bne,t4];rfl
      go_wp2_with fail;go_meet;exact ⟨rfl,by unfold Br;simp [t1,t2,t3,t4]⟩
     ·
      have ad:(x.kind !=10)=true:=by rw [bne,t4];rfl
      rcases zb (x.kind==11) with t5|t5
      ·
       have ai:(x.kind !=11)=false:=by rw [bne,t5];rfl
       go_wp2_with fail;go_meet;exact ⟨rfl,by unfold Br;simp [t1,t2,t3,t4,t5]⟩
      ·
       have ai:(x.kind !=11)=true:=by rw [bne,t5];rfl
       rcases zb (x.kind==13) with t6|t6
       ·
        have ag:(x.kind !=13)=false:=by rw [bne,t6];rfl
        go_wp2_with fail;go_meet;exact ⟨rfl,by unfold Br;simp [t1,t2,t3,t4,t5,t6]⟩
       ·
        have ag:(x.kind !=13)=true:=by rw [bne,t6];rfl
        go_wp2_with fail;go_meet;exact ⟨rfl,by unfold Br;simp [t1,t2,t3,t4,t5,t6]⟩
 case rest=>
 obtain ⟨rfl,rfl⟩:=hcut;go_upto_region 3 with (fail)
 go_cut [47] from 5 (fun s wc=>W=wc/\s=.bool (!x.q1))
 case first=>
  as_aux_lemma=>
  clear aa
  rcases zb (x.dev !=0) with t1|t1
  ·
   rcases zb (x.kind==2) with t2|t2
   ·
    have ac:(x.kind !=2)=false:=by rw [bne,t2];rfl
    have hv:Hid (false=!x.q1):=by show _=_;simp [OpL.q1,t1,t2]
    go_wp2_with fail;go_meet;exact ⟨rfl,hB hv⟩
   ·
    have ac:(x.kind !=2)=true:=by rw [bne,t2];rfl
    rcases zb (x.kind==3) with t3|t3
    ·
     have aj:(x.kind !=3)=false:=by rw [bne,t3];rfl
     have hv:Hid (false=!x.q1):=by show _=_;simp [OpL.q1,t1,t2,t3]
     go_wp2_with fail;go_meet;exact ⟨rfl,hB hv⟩
    ·
     have aj:(x.kind !=3)=true:=by rw [bne,t3];rfl
     rcases zb (x.kind==11) with t4|t4
     ·
      have ad:(x.kind !=11)=false:=by rw [bne,t4];rfl
      have hv:Hid (false=!x.q1):=by show _=_;simp [OpL.q1,t1,t2,t3,t4]
      go_wp2_with fail;go_meet;exact ⟨rfl,hB hv⟩
     ·
      have ad:(x.kind !=11)=true:=by rw [bne,t4];rfl
      rcases zb (x.kind==13) with t5|t5
      ·
       have ai:(x.kind !=13)=false:=by rw [bne,t5];rfl
       have hv:Hid (false=!x.q1):=by show _=_;simp [OpL.q1,t1,t2,t3,t4,t5]
       go_wp2_with fail;go_meet;exact ⟨rfl,hB hv⟩
      ·
       have ai:(x.kind !=13)=true:=by rw [bne,t5];rfl
       have hv:Hid (true=!x.q1):=by show _=_;simp [OpL.q1,t1,t2,t3,t4,t5]
       go_wp2_with fail;go_meet;exact ⟨rfl,hB hv⟩
  ·
   have hv:Hid (false=!x.q1):=by show _=_;simp [OpL.q1,t1]
   go_wp2_with fail;go_meet;exact ⟨rfl,hB hv⟩
 case rest=>
 obtain ⟨rfl,rfl⟩:=hcut
 rcases zb x.q1 with hq|hq
 rotate_left
 ·
  have hv:Hid (false=LB):=by show _=_;rw [aa.out,hq];rfl
  rw [hq];clear aa hq
  as_aux_lemma=>
  go_wp2_with fail
  go_ret
  exact ⟨congrArg (fun z=>Ending.returned (.bool z)) hv.out,fz⟩
 rw [hq];replace aa:Hid (LB=(x.q2&&(x.q3&&(x.q4&&(x.q5&&(x.q6&&(x.q7&&(x.q8)))))))):=by show _=_;rw [aa.out,hq];rfl
 clear hq;go_upto_region 5 with (fail)
 go_cut [80] from 5 (fun s wc=>W=wc/\s=.bool (!x.q2))
 case first=>
  as_aux_lemma=>
  clear aa
  rcases zb (x.old !=0) with t1|t1
  ·
   rcases zb (x.kind==13) with t2|t2
   ·
    have ac:(x.kind !=13)=false:=by rw [bne,t2];rfl
    rcases zb (x.mem !=0) with t3|t3
    ·
     rcases zb (x.kind==3) with t4|t4
     ·
      have ad:(x.kind !=3)=false:=by rw [bne,t4];rfl
      rcases zb (x.role !=0) with t5|t5
      ·
       rcases zb (x.kind==2) with t6|t6
       ·
        have ag:(x.kind !=2)=false:=by rw [bne,t6];rfl
        have hv:Hid (false=!x.q2):=by show _=_;simp [OpL.q2,t1,t2,t3,t4,t5,t6]
        go_wp2_with fail;go_meet;exact ⟨rfl,hB hv⟩
       ·
        have ag:(x.kind !=2)=true:=by rw [bne,t6];rfl
        rcases zb (x.kind==5) with t7|t7
        ·
         have al:(x.kind !=5)=false:=by rw [bne,t7];rfl
         have hv:Hid (false=!x.q2):=by show _=_;simp [OpL.q2,t1,t2,t3,t4,t5,t6,t7]
         go_wp2_with fail;go_meet;exact ⟨rfl,hB hv⟩
        ·
         have al:(x.kind !=5)=true:=by rw [bne,t7];rfl
         have hv:Hid (true=!x.q2):=by show _=_;simp [OpL.q2,t1,t2,t3,t4,t5,t6,t7]
         go_wp2_with fail;go_meet;exact ⟨rfl,hB hv⟩
      ·
       have hv:Hid (false=!x.q2):=by show _=_;simp [OpL.q2,t1,t2,t3,t4,t5]
       go_wp2_with fail;go_meet;exact ⟨rfl,hB hv⟩
     ·
      have ad:(x.kind !=3)=true:=by rw [bne,t4];rfl
      rcases zb (x.kind==5) with t8|t8
      ·
       have a1:(x.kind !=5)=false:=by rw [bne,t8];rfl
       rcases zb (x.role !=0) with t9|t9
       ·
        rcases zb (x.kind==2) with t10|t10
        ·
         have ae:(x.kind !=2)=false:=by rw [bne,t10];rfl
         have hv:Hid (false=!x.q2):=by show _=_;simp [OpL.q2,t1,t2,t3,t4,t8,t9,t10]
         go_wp2_with fail;go_meet;exact ⟨rfl,hB hv⟩
        ·
         have ae:(x.kind !=2)=true:=by rw [bne,t10];rfl
         have hv:Hid (false=!x.q2):=by show _=_;simp [OpL.q2,t1,t2,t3,t4,t8,t9,t10]
         go_wp2_with fail;go_meet;exact ⟨rfl,hB hv⟩
       ·
        have hv:Hid (false=!x.q2):=by show _=_;simp [OpL.q2,t1,t2,t3,t4,t8,t9]
        go_wp2_with fail;go_meet;exact ⟨rfl,hB hv⟩
      ·
       have a1:(x.kind !=5)=true:=by rw [bne,t8];rfl
       have hv:Hid (true=!x.q2):=by show _=_;simp [OpL.q2,t1,t2,t3,t4,t8]
       go_wp2_with fail;go_meet;exact ⟨rfl,hB hv⟩
    ·
     rcases zb (x.role !=0) with t11|t11
     ·
      rcases zb (x.kind==2) with t12|t12
      ·
       have ar:(x.kind !=2)=false:=by rw [bne,t12];rfl
       have hv:Hid (false=!x.q2):=by show _=_;simp [OpL.q2,t1,t2,t3,t11,t12]
       go_wp2_with fail;go_meet;exact ⟨rfl,hB hv⟩
      ·
       have ar:(x.kind !=2)=true:=by rw [bne,t12];rfl
       rcases zb (x.kind==5) with t13|t13
       ·
        have ax:(x.kind !=5)=false:=by rw [bne,t13];rfl
        have hv:Hid (false=!x.q2):=by show _=_;simp [OpL.q2,t1,t2,t3,t11,t12,t13]
        go_wp2_with fail;go_meet;exact ⟨rfl,hB hv⟩
       ·
        have ax:(x.kind !=5)=true:=by rw [bne,t13];rfl
        have hv:Hid (true=!x.q2):=by show _=_;simp [OpL.q2,t1,t2,t3,t11,t12,t13]
        go_wp2_with fail;go_meet;exact ⟨rfl,hB hv⟩
     ·
      have hv:Hid (false=!x.q2):=by show _=_;simp [OpL.q2,t1,t2,t3,t11]
      go_wp2_with fail;go_meet;exact ⟨rfl,hB hv⟩
   ·
    have ac:(x.kind !=13)=true:=by rw [bne,t2];rfl
    have hv:Hid (true=!x.q2):=by show _=_;simp [OpL.q2,t1,t2]
    go_wp2_with fail;go_meet;exact ⟨rfl,hB hv⟩
  ·
   rcases zb (x.mem !=0) with t14|t14
   ·
    rcases zb (x.kind==3) with t15|t15
    ·
     have ay:(x.kind !=3)=false:=by rw [bne,t15];rfl
     rcases zb (x.role !=0) with t16|t16
     ·
      rcases zb (x.kind==2) with t17|t17
      ·
       have ak:(x.kind !=2)=false:=by rw [bne,t17];rfl
       have hv:Hid (false=!x.q2):=by show _=_;simp [OpL.q2,t1,t14,t15,t16,t17]
       go_wp2_with fail;go_meet;exact ⟨rfl,hB hv⟩
      ·
       have ak:(x.kind !=2)=true:=by rw [bne,t17];rfl
       rcases zb (x.kind==5) with t18|t18
       ·
        have ao:(x.kind !=5)=false:=by rw [bne,t18];rfl
        have hv:Hid (false=!x.q2):=by show _=_;simp [OpL.q2,t1,t14,t15,t16,t17,t18]
        go_wp2_with fail;go_meet;exact ⟨rfl,hB hv⟩
       ·
        have ao:(x.kind !=5)=true:=by rw [bne,t18];rfl
        have hv:Hid (true=!x.q2):=by show _=_;simp [OpL.q2,t1,t14,t15,t16,t17,t18]
        go_wp2_with fail;go_meet;exact ⟨rfl,hB hv⟩
     ·
      have hv:Hid (false=!x.q2):=by show _=_;simp [OpL.q2,t1,t14,t15,t16]
      go_wp2_with fail;go_meet;exact ⟨rfl,hB hv⟩
    ·
     have ay:(x.kind !=3)=true:=by rw [bne,t15];rfl
     rcases zb (x.kind==5) with t19|t19
     ·
      have ap:(x.kind !=5)=false:=by rw [bne,t19];rfl
      rcases zb (x.role !=0) with t20|t20
      ·
       rcases zb (x.kind==2) with t21|t21
       ·
        have aq:(x.kind !=2)=false:=by rw [bne,t21];rfl
        have hv:Hid (false=!x.q2):=by show _=_;simp [OpL.q2,t1,t14,t15,t19,t20,t21]
        go_wp2_with fail;go_meet;exact ⟨rfl,hB hv⟩
       ·
        have aq:(x.kind !=2)=true:=by rw [bne,t21];rfl
        have hv:Hid (false=!x.q2):=by show _=_;simp [OpL.q2,t1,t14,t15,t19,t20,t21]
        go_wp2_with fail;go_meet;exact ⟨rfl,hB hv⟩
      ·
       have hv:Hid (false=!x.q2):=by show _=_;simp [OpL.q2,t1,t14,t15,t19,t20]
       go_wp2_with fail;go_meet;exact ⟨rfl,hB hv⟩
     ·
      have ap:(x.kind !=5)=true:=by rw [bne,t19];rfl
      have hv:Hid (true=!x.q2):=by show _=_;simp [OpL.q2,t1,t14,t15,t19]
      go_wp2_with fail;go_meet;exact ⟨rfl,hB hv⟩
   ·
    rcases zb (x.role !=0) with t22|t22
    ·
     rcases zb (x.kind==2) with t23|t23
     ·
      have av:(x.kind !=2)=false:=by rw [bne,t23];rfl
      have hv:Hid (false=!x.q2):=by show _=_;simp [OpL.q2,t1,t14,t22,t23]
      go_wp2_with fail;go_meet;exact ⟨rfl,hB hv⟩
     ·
      have av:(x.kind !=2)=true:=by rw [bne,t23];rfl
      rcases zb (x.kind==5) with t24|t24
      ·
       have au:(x.kind !=5)=false:=by rw [bne,t24];rfl
       have hv:Hid (false=!x.q2):=by show _=_;simp [OpL.q2,t1,t14,t22,t23,t24]
       go_wp2_with fail;go_meet;exact ⟨rfl,hB hv⟩
      ·
       have au:(x.kind !=5)=true:=by rw [bne,t24];rfl
       have hv:Hid (true=!x.q2):=by show _=_;simp [OpL.q2,t1,t14,t22,t23,t24]
       go_wp2_with fail;go_meet;exact ⟨rfl,hB hv⟩
    ·
     have hv:Hid (false=!x.q2):=by show _=_;simp [OpL.q2,t1,t14,t22]
     go_wp2_with fail;go_meet;exact ⟨rfl,hB hv⟩
 case rest=>
 obtain ⟨rfl,rfl⟩:=hcut
 rcases zb x.q2 with hq|hq
 rotate_left
 ·
  have hv:Hid (false=LB):=by show _=_;rw [aa.out,hq];rfl
  rw [hq];clear aa hq
  as_aux_lemma=>
  go_wp2_with fail
  go_ret
  exact ⟨congrArg (fun z=>Ending.returned (.bool z)) hv.out,fz⟩
 rw [hq];replace aa:Hid (LB=(x.q3&&(x.q4&&(x.q5&&(x.q6&&(x.q7&&(x.q8))))))):=by show _=_;rw [aa.out,hq];rfl
 clear hq;go_upto_region 7 with (fail)
 go_cut [89] from 5 (fun s wc=>W=wc/\s=.bool (!x.q3))
 case first=>
  as_aux_lemma=>
  clear aa
  rcases zb (decide (0<x.path.length)) with t1|t1
  ·
   rcases zb (Cl x.kind) with t2|t2
   ·
    have hv:Hid (false=!x.q3):=by show _=_;simp [OpL.q3,t1,t2]
    go_wp2_with (go_at_call 49;(with_reducible refine (Gt _ _).mono ?_);rintro _ _ ⟨rfl,rfl⟩);go_meet;exact ⟨rfl,hB hv⟩
   ·
    have hv:Hid (true=!x.q3):=by show _=_;simp [OpL.q3,t1,t2]
    go_wp2_with (go_at_call 49;(with_reducible refine (Gt _ _).mono ?_);rintro _ _ ⟨rfl,rfl⟩);go_meet;exact ⟨rfl,hB hv⟩
  ·
   have hv:Hid (false=!x.q3):=by show _=_;simp [OpL.q3,t1]
   go_wp2_with (go_at_call 49;(with_reducible refine (Gt _ _).mono ?_);rintro _ _ ⟨rfl,rfl⟩);go_meet;exact ⟨rfl,hB hv⟩
 case rest=>
 obtain ⟨rfl,rfl⟩:=hcut
 rcases zb x.q3 with hq|hq
 rotate_left
 ·
  have hv:Hid (false=LB):=by show _=_;rw [aa.out,hq];rfl
  rw [hq];clear aa hq
  as_aux_lemma=>
  go_wp2_with fail
  go_ret
  exact ⟨congrArg (fun z=>Ending.returned (.bool z)) hv.out,fz⟩
 rw [hq];replace aa:Hid (LB=(x.q4&&(x.q5&&(x.q6&&(x.q7&&(x.q8)))))):=by show _=_;rw [aa.out,hq];rfl
 clear hq;go_upto_region 9 with (fail)
 go_cut [108] from 5 (fun s wc=>W=wc/\s=.bool (!x.q4))
 case first=>
  as_aux_lemma=>
  clear aa
  rcases zb (x.kind==6) with t1|t1
  ·
   have af:(x.kind !=6)=false:=by rw [bne,t1];rfl
   have hv:Hid (false=!x.q4):=by show _=_;simp [OpL.q4,t1]
   go_wp2_with fail;go_meet;exact ⟨rfl,hB hv⟩
  ·
   have af:(x.kind !=6)=true:=by rw [bne,t1];rfl
   rcases zb (!Id.eq x.epoch Id.zero) with t2|t2
   ·
    have hv:Hid (true=!x.q4):=by show _=_;simp [OpL.q4,t1,t2]
    go_wp2_with fail;go_meet;exact ⟨rfl,hB hv⟩
   ·
    rcases zb (x.n !=0) with t3|t3
    ·
     have hv:Hid (true=!x.q4):=by show _=_;simp [OpL.q4,t1,t2,t3]
     go_wp2_with fail;go_meet;exact ⟨rfl,hB hv⟩
    ·
     rcases zb (decide (0<x.refs.length)) with t4|t4
     ·
      have hv:Hid (true=!x.q4):=by show _=_;simp [OpL.q4,t1,t2,t3,t4]
      go_wp2_with fail;go_meet;exact ⟨rfl,hB hv⟩
     ·
      have hv:Hid (false=!x.q4):=by show _=_;simp [OpL.q4,t1,t2,t3,t4]
      go_wp2_with fail;go_meet;exact ⟨rfl,hB hv⟩
 case rest=>
 obtain ⟨rfl,rfl⟩:=hcut
 rcases zb x.q4 with hq|hq
 rotate_left
 ·
  have hv:Hid (false=LB):=by show _=_;rw [aa.out,hq];rfl
  rw [hq];clear aa hq
  as_aux_lemma=>
  go_wp2_with fail
  go_ret
  exact ⟨congrArg (fun z=>Ending.returned (.bool z)) hv.out,fz⟩
 rw [hq];replace aa:Hid (LB=(x.q5&&(x.q6&&(x.q7&&(x.q8))))):=by show _=_;rw [aa.out,hq];rfl
 clear hq;go_upto_region 11 with (fail)
 go_cut [130] from 5 (fun s wc=>W=wc/\s=.bool (!x.q5))
 case first=>
  as_aux_lemma=>
  clear aa
  rcases zb (decide (0<x.body.length)) with t1|t1
  ·
   rcases zb (x.kind==6) with t2|t2
   ·
    have ac:(x.kind !=6)=false:=by rw [bne,t2];rfl
    rcases zb (!Id.eq x.of Id.zero) with t3|t3
    ·
     rcases zb (Br x.kind) with t4|t4
     ·
      have hv:Hid (false=!x.q5):=by show _=_;simp [OpL.q5,t1,t2,t3,t4]
      go_wp2_with fail;go_meet;exact ⟨rfl,hB hv⟩
     ·
      have hv:Hid (true=!x.q5):=by show _=_;simp [OpL.q5,t1,t2,t3,t4]
      go_wp2_with fail;go_meet;exact ⟨rfl,hB hv⟩
    ·
     have hv:Hid (false=!x.q5):=by show _=_;simp [OpL.q5,t1,t2,t3]
     go_wp2_with fail;go_meet;exact ⟨rfl,hB hv⟩
   ·
    have ac:(x.kind !=6)=true:=by rw [bne,t2];rfl
    rcases zb (x.kind==7) with t5|t5
    ·
     have ai:(x.kind !=7)=false:=by rw [bne,t5];rfl
     rcases zb (!Id.eq x.of Id.zero) with t6|t6
     ·
      rcases zb (Br x.kind) with t7|t7
      ·
       have hv:Hid (false=!x.q5):=by show _=_;simp [OpL.q5,t1,t2,t5,t6,t7]
       go_wp2_with fail;go_meet;exact ⟨rfl,hB hv⟩
      ·
       have hv:Hid (true=!x.q5):=by show _=_;simp [OpL.q5,t1,t2,t5,t6,t7]
       go_wp2_with fail;go_meet;exact ⟨rfl,hB hv⟩
     ·
      have hv:Hid (false=!x.q5):=by show _=_;simp [OpL.q5,t1,t2,t5,t6]
      go_wp2_with fail;go_meet;exact ⟨rfl,hB hv⟩
    ·
     have ai:(x.kind !=7)=true:=by rw [bne,t5];rfl
     have hv:Hid (true=!x.q5):=by show _=_;simp [OpL.q5,t1,t2,t5]
     go_wp2_with fail;go_meet;exact ⟨rfl,hB hv⟩
  ·
   rcases zb (!Id.eq x.of Id.zero) with t8|t8
   ·
    rcases zb (Br x.kind) with t9|t9
    ·
     have hv:Hid (false=!x.q5):=by show _=_;simp [OpL.q5,t1,t8,t9]
     go_wp2_with fail;go_meet;exact ⟨rfl,hB hv⟩
    ·
     have hv:Hid (true=!x.q5):=by show _=_;simp [OpL.q5,t1,t8,t9]
     go_wp2_with fail;go_meet;exact ⟨rfl,hB hv⟩
   ·
    have hv:Hid (false=!x.q5):=by show _=_;simp [OpL.q5,t1,t8]
    go_wp2_with fail;go_meet;exact ⟨rfl,hB hv⟩
 case rest=>
 obtain ⟨rfl,rfl⟩:=hcut
 rcases zb x.q5 with hq|hq
 rotate_left
 ·
  have hv:Hid (false=LB):=by show _=_;rw [aa.out,hq];rfl
  rw [hq];clear aa hq
  as_aux_lemma=>
  go_wp2_with fail
  go_ret
  exact ⟨congrArg (fun z=>Ending.returned (.bool z)) hv.out,fz⟩
 rw [hq];replace aa:Hid (LB=(x.q6&&(x.q7&&(x.q8)))):=by show _=_;rw [aa.out,hq];rfl
 clear hq;go_upto_region 13 with (fail)
 go_cut [148] from 5 (fun s wc=>W=wc/\s=.bool (!x.q6))
 case first=>
  as_aux_lemma=>
  clear aa
  rcases zb (x.kind==9) with t1|t1
  ·
   have af:(x.kind !=9)=false:=by rw [bne,t1];rfl
   have hv:Hid (false=!x.q6):=by show _=_;simp [OpL.q6,t1]
   go_wp2_with fail;go_meet;exact ⟨rfl,hB hv⟩
  ·
   have af:(x.kind !=9)=true:=by rw [bne,t1];rfl
   rcases zb (decide (0<x.guards.length)) with t2|t2
   ·
    have hv:Hid (true=!x.q6):=by show _=_;simp [OpL.q6,t1,t2]
    go_wp2_with fail;go_meet;exact ⟨rfl,hB hv⟩
   ·
    rcases zb (x.wait !=0) with t3|t3
    ·
     have hv:Hid (true=!x.q6):=by show _=_;simp [OpL.q6,t1,t2,t3]
     go_wp2_with fail;go_meet;exact ⟨rfl,hB hv⟩
    ·
     rcases zb ((x.pub:Int) !=0) with t4|t4
     ·
      have hv:Hid (true=!x.q6):=by show _=_;simp [OpL.q6,t1,t2,t3,t4]
      go_wp2_with fail;go_meet;exact ⟨rfl,hB hv⟩
     ·
      have hv:Hid (false=!x.q6):=by show _=_;simp [OpL.q6,t1,t2,t3,t4]
      go_wp2_with fail;go_meet;exact ⟨rfl,hB hv⟩
 case rest=>
 obtain ⟨rfl,rfl⟩:=hcut
 rcases zb x.q6 with hq|hq
 rotate_left
 ·
  have hv:Hid (false=LB):=by show _=_;rw [aa.out,hq];rfl
  rw [hq];clear aa hq
  as_aux_lemma=>
  go_wp2_with fail
  go_ret
  exact ⟨congrArg (fun z=>Ending.returned (.bool z)) hv.out,fz⟩
 rw [hq];replace aa:Hid (LB=(x.q7&&(x.q8))):=by show _=_;rw [aa.out,hq];rfl
 clear hq;go_upto_region 15 with (fail)
 go_cut [177] from 5 (fun s wc=>W=wc/\s=.bool (!x.q7))
 case first=>
  as_aux_lemma=>
  clear aa
  rcases zb (x.need !=0) with t1|t1
  ·
   rcases zb (x.kind==9) with t2|t2
   ·
    have ac:(x.kind !=9)=false:=by rw [bne,t2];rfl
    rcases zb (decide (0<x.boxes.length)) with t3|t3
    ·
     have hv:Hid (false=!x.q7):=by show _=_;simp [OpL.q7,t1,t2,t3]
     go_wp2_with fail;go_meet;exact ⟨rfl,hB hv⟩
    ·
     have hv:Hid (false=!x.q7):=by show _=_;simp [OpL.q7,t1,t2,t3]
     go_wp2_with fail;go_meet;exact ⟨rfl,hB hv⟩
   ·
    have ac:(x.kind !=9)=true:=by rw [bne,t2];rfl
    rcases zb (x.kind==1) with t4|t4
    ·
     have ad:(x.kind !=1)=false:=by rw [bne,t4];rfl
     rcases zb (decide (0<x.boxes.length)) with t5|t5
     ·
      rcases zb (x.kind==10) with t6|t6
      ·
       have ag:(x.kind !=10)=false:=by rw [bne,t6];rfl
       have hv:Hid (false=!x.q7):=by show _=_;simp [OpL.q7,t1,t2,t4,t5,t6]
       go_wp2_with fail;go_meet;exact ⟨rfl,hB hv⟩
      ·
       have ag:(x.kind !=10)=true:=by rw [bne,t6];rfl
       rcases zb (x.kind==11) with t7|t7
       ·
        have al:(x.kind !=11)=false:=by rw [bne,t7];rfl
        have hv:Hid (false=!x.q7):=by show _=_;simp [OpL.q7,t1,t2,t4,t5,t6,t7]
        go_wp2_with fail;go_meet;exact ⟨rfl,hB hv⟩
       ·
        have al:(x.kind !=11)=true:=by rw [bne,t7];rfl
        have hv:Hid (true=!x.q7):=by show _=_;simp [OpL.q7,t1,t2,t4,t5,t6,t7]
        go_wp2_with fail;go_meet;exact ⟨rfl,hB hv⟩
     ·
      have hv:Hid (false=!x.q7):=by show _=_;simp [OpL.q7,t1,t2,t4,t5]
      go_wp2_with fail;go_meet;exact ⟨rfl,hB hv⟩
    ·
     have ad:(x.kind !=1)=true:=by rw [bne,t4];rfl
     have hv:Hid (true=!x.q7):=by show _=_;simp [OpL.q7,t1,t2,t4]
     go_wp2_with fail;go_meet;exact ⟨rfl,hB hv⟩
  ·
   rcases zb (decide (0<x.boxes.length)) with t8|t8
   ·
    rcases zb (x.kind==9) with t9|t9
    ·
     have a0:(x.kind !=9)=false:=by rw [bne,t9];rfl
     have hv:Hid (false=!x.q7):=by show _=_;simp [OpL.q7,t1,t8,t9]
     go_wp2_with fail;go_meet;exact ⟨rfl,hB hv⟩
    ·
     have a0:(x.kind !=9)=true:=by rw [bne,t9];rfl
     rcases zb (x.kind==10) with t10|t10
     ·
      have ae:(x.kind !=10)=false:=by rw [bne,t10];rfl
      have hv:Hid (false=!x.q7):=by show _=_;simp [OpL.q7,t1,t8,t9,t10]
      go_wp2_with fail;go_meet;exact ⟨rfl,hB hv⟩
     ·
      have ae:(x.kind !=10)=true:=by rw [bne,t10];rfl
      rcases zb (x.kind==11) with t11|t11
      ·
       have aw:(x.kind !=11)=false:=by rw [bne,t11];rfl
       have hv:Hid (false=!x.q7):=by show _=_;simp [OpL.q7,t1,t8,t9,t10,t11]
       go_wp2_with fail;go_meet;exact ⟨rfl,hB hv⟩
      ·
       have aw:(x.kind !=11)=true:=by rw [bne,t11];rfl
       have hv:Hid (true=!x.q7):=by show _=_;simp [OpL.q7,t1,t8,t9,t10,t11]
       go_wp2_with fail;go_meet;exact ⟨rfl,hB hv⟩
   ·
    have hv:Hid (false=!x.q7):=by show _=_;simp [OpL.q7,t1,t8]
    go_wp2_with fail;go_meet;exact ⟨rfl,hB hv⟩
 case rest=>
 obtain ⟨rfl,rfl⟩:=hcut
 rcases zb x.q7 with hq|hq
 rotate_left
 ·
  have hv:Hid (false=LB):=by show _=_;rw [aa.out,hq];rfl
  rw [hq];clear aa hq
  as_aux_lemma=>
  go_wp2_with fail
  go_ret
  exact ⟨congrArg (fun z=>Ending.returned (.bool z)) hv.out,fz⟩
 rw [hq];replace aa:Hid (LB=(x.q8)):=by show _=_;rw [aa.out,hq];rfl
 clear hq
 rcases zb ((nh:Int)==0) with t1|t1
 ·
  have hv:Hid (x.q8=LB):=aa.out.symm;have hq:Hid (x.q8=true):=by show _=_;rw [OpL.q8,ah.out];simp [t1]
  rw [hq.out] at hv;clear aa hq;go_wp2_with fail
  go_ret
  exact ⟨congrArg (fun z=>Ending.returned (.bool z)) hv.out,fz⟩
 ·
  rcases zb (x.kind==2) with t2|t2
  ·
   have ac:(x.kind !=2)=false:=by rw [bne,t2];rfl
   have hv:Hid (x.q8=LB):=aa.out.symm;have hq:Hid (x.q8=true):=by show _=_;rw [OpL.q8,ah.out];simp [t1,t2]
   rw [hq.out] at hv;clear aa hq;go_wp2_with fail
   go_ret
   exact ⟨congrArg (fun z=>Ending.returned (.bool z)) hv.out,fz⟩
  ·
   have ac:(x.kind !=2)=true:=by rw [bne,t2];rfl
   rcases zb (x.kind==13) with t3|t3
   ·
    have aj:(x.kind !=13)=false:=by rw [bne,t3];rfl
    have hv:Hid (x.q8=LB):=aa.out.symm;have hq:Hid (x.q8=true):=by show _=_;rw [OpL.q8,ah.out];simp [t1,t2,t3]
    rw [hq.out] at hv;clear aa hq;go_wp2_with fail
    go_ret
    exact ⟨congrArg (fun z=>Ending.returned (.bool z)) hv.out,fz⟩
   ·
    have aj:(x.kind !=13)=true:=by rw [bne,t3];rfl
    have hv:Hid (x.q8=LB):=aa.out.symm;have hq:Hid (x.q8=false):=by show _=_;rw [OpL.q8,ah.out];simp [t1,t2,t3]
    rw [hq.out] at hv;clear aa hq;go_wp2_with fail
    go_ret
    exact ⟨congrArg (fun z=>Ending.returned (.bool z)) hv.out,fz⟩
end Oq
end
end Go.Proofs.YtihfebhfgliojaaGreatDoor
