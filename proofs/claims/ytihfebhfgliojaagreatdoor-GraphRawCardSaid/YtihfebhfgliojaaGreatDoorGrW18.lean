/-
  Contracts of the functions that the claim's statement reaches, walked one by one (part 18).
  Conditions: as each theorem says.
-/
import Derived.Test.YtihfebhfgliojaaGreatDoorGrW17
set_option maxRecDepth 100000
set_option maxHeartbeats 16000000
open Bool renaming not_eq_true->An5
open Int renaming eq_ofNat_of_zero_le->An7,toNat_of_nonneg->An8
open List renaming flatMap_append->An6,flatMap_cons->An9,flatMap_nil->Ao0
open Nat renaming le_of_lt->An3,lt_succ_of_lt->Ao1
open Go.World renaming size_alloc->An4
open Go.Proofs.Tryz
open Go.Proofs.Tryz renaming prog->zp
open Go.Lib renaming hid->lh
open List renaming set->zl
open Go.Ending renaming returned->ze
namespace Go.Proofs.YtihfebhfgliojaaGreatDoor
open Go.RowKit
section
attribute [local go_sem ↓] Go.wp_at_zero Go.wp_at_succ
namespace Oq
attribute [local go_sem] Bool.not_false Bool.not_true
def genA:PSigma (fun P:Prop=>PLift P->∀(B0 n c:Nat) (A:Option Addr) (l:List Int) (w:World) (_:Hid (l.length=n)) (_:Rd w B0 1 A n (l.map Iv)) (_:n<=c) (_:c<=9223372036854775807) (_:Hid (∀x∈l,I64 x)),Calls zp 14 #[.slice A n c] w (Hr (l.take 60) w)):=PSigma.mk _ (by
 intro hP B0 n c A l w hn hr hc hc' hok;go_enter func14,ntmps14;go_wp2_with fail;refine (Vd B0 n c A l 60 _ hn (hr.alloc _) hc hc' (by omega)).mono ?_;rintro _ w1 ⟨A1,c1,rfl,own1,hf1⟩;have hL:Hid ((l.take 60).length<=60/\∀x∈l.take 60,I64 x):=⟨by rw [List.length_take];omega,fun x hx=>hok.out x (List.mem_of_mem_take hx)⟩;generalize hLL:l.take 60=L at*;clear hLL;have hres:=(Blk.new w 44 OpL.zero.cells).fr hf1 zq;have fr1:Fr Non w w1:=((Fr.refl Non w).alloc (.cells OpL.zero.cells 44)).trans hf1 zr;have hsz:=hf1.size;rw [An4] at hsz
 have tk0:Tk (w1.alloc (.cells #[.slice A1 L.length c1,.int .i64 0] 87)) w1.heap.size w1.heap.size L 0:=
  ⟨A1,c1,Blk.new w1 _ _,own1.rd.alloc _,Nat.le_refl _,hL.out.1,hL.out.2⟩
 have fr2:Fr Non w1 (w1.alloc (.cells #[.slice A1 L.length c1,.int .i64 0] 87)):=(Fr.refl _ _).alloc _;clear own1 hf1 hr;go_wp2_with fail;generalize w1.alloc (.cells #[.slice A1 L.length c1,.int .i64 0] 87)=w2 at*;obtain ⟨g,hg⟩:∃g,Hid (w1.heap.size=g):=⟨_,rfl⟩;have hgo:=hg.out;rw [hgo] at tk0 ⊢;clear hgo;refine (Bc g g L 0 13 _ tk0 (by omega) (by omega) (by omega)).mono ?_;rintro _ w3 ⟨k,k0,k1,rfl,tk3,f3⟩;obtain ⟨b,hb⟩:=Aa (nx L 1 6);have hb6:=Gn L 1 (m:=6) (by omega);rw [hb.out] at hb6;obtain ⟨s,hs⟩:=Aa (nx L 2 20);have hs20:=Gn L 2 (m:=20) (by omega);rw [hs.out] at hs20;go_wp2_with fail;refine (Jt g g L 1 6 _ tk3 (by omega) (by omega) (by omega)).mono ?_;rw [hb.out];rintro _ w4 ⟨rfl,tk4,f4⟩;go_wp2_with fail;refine (Jt g g L 2 20 _ tk4 (by omega) (by omega) (by omega)).mono ?_;rw [hs.out];rintro _ w5 ⟨rfl,tk5,f5⟩;go_wp2_with fail;refine (Bc g g L _ 500 _ tk5 (by omega) (by omega) (by omega)).mono ?_;rintro _ w6 ⟨a,a0,a1,rfl,tk6,f6⟩;have fr6:=(((fr2.trans f3 (fun k hk e=>absurd hk (by have e':k=g:=e;have:=hg.out;omega))).trans f4 (fun k hk e=>absurd hk (by have e':k=g:=e;have:=hg.out;omega))).trans f5 (fun k hk e=>absurd hk (by have e':k=g:=e;have:=hg.out;omega))).trans f6 (fun k hk e=>absurd hk (by have e':k=g:=e;have:=hg.out;omega));clear tk0 tk3 tk4 tk5 f3 f4 f5 f6 fr2;have hi:(zp.info? 44).map (·.size)=some 27:=by kernel_rfl
 have co:=Blk.new w6 44 OpL.zero.cells;go_upto_region 3 with (first|(refine Ei rfl 44 (.tmp 4) (.tmp 26) rfl rfl rfl rfl co hi rfl (by simp [Value.oneCell']) ?_))
 have br:Gs w1 ((w6.alloc (.cells zO 44)).setRow w6.heap.size #[.int .i64 (1+b),.int .i64 (1+s),.int .i64 (1+k),.int .i64 a,.slice none 0 0,.int .i64 0,.int .i64 0,.int .i64 0,.int .i64 0,.slice none 0 0,.int .i64 0,.int .i64 0,.int .u64 0,.int .i64 0,.slice none 0 0,.slice none 0 0,.int .i64 0,.int .i64 0,.int .u64 0,.slice none 0 0,.int .i64 0,.int .i64 0,.slice none 0 0,.int .u64 0,.slice none 0 0,.int .u64 0,.int .u64 0]) g g w6.heap.size L 4 (OpL.base (1+b) (1+s) (1+k) a none 0 [] none 0 []):=by
  have h6:=fr6.size;have er:=tk6.lt;have e3:=hg.out;have dl:=(Fr.refl (One w6.heap.size) (w6.alloc (.cells zO 44))).setRow (g:=w6.heap.size) (fun _=>rfl) #[.int .i64 (1+b),.int .i64 (1+s),.int .i64 (1+k),.int .i64 a,.slice none 0 0,.int .i64 0,.int .i64 0,.int .i64 0,.int .i64 0,.slice none 0 0,.int .i64 0,.int .i64 0,.int .u64 0,.int .i64 0,.slice none 0 0,.slice none 0 0,.int .i64 0,.int .i64 0,.int .u64 0,.slice none 0 0,.int .i64 0,.int .i64 0,.slice none 0 0,.int .u64 0,.slice none 0 0,.int .u64 0,.int .u64 0];exact ⟨co.setRow,(tk6.alloc _).fr dl (by unfold One;omega) (fun j hj=>One.not (by omega) hj),⟨RowAt.nil _ _ _ _,RowAt.nil _ _ _ _,(fun y hy=>by cases hy),RowAt.nil _ _ _ _,RowAt.nil _ _ _ _,RowAt.nil _ _ _ _,RowAt.nil _ _ _ _,RowAt.nil _ _ _ _,(fun y hy=>by cases hy)⟩,⟨by omega,by omega⟩,(fr6.alloc _).trans dl (fun j hj e=>absurd hj (by have e':j=w6.heap.size:=e;omega))⟩
 generalize (w6.alloc (.cells zO 44)).setRow w6.heap.size #[.int .i64 (1+b),.int .i64 (1+s),.int .i64 (1+k),.int .i64 a,.slice none 0 0,.int .i64 0,.int .i64 0,.int .i64 0,.int .i64 0,.slice none 0 0,.int .i64 0,.int .i64 0,.int .u64 0,.int .i64 0,.slice none 0 0,.slice none 0 0,.int .i64 0,.int .i64 0,.int .u64 0,.slice none 0 0,.int .i64 0,.int .i64 0,.slice none 0 0,.int .u64 0,.slice none 0 0,.int .u64 0,.int .u64 0]=W3 at br ⊢;clear co tk6 fr6;generalize w6.heap.size=go at*;obtain ⟨kk,cs⟩:=Aa (1+k);have kb:1<=kk/\kk<=13:=by rw [<- cs.out];omega
 rw [cs.out] at br;obtain ⟨bb,cu⟩:=Aa (1+b);have dd:1<=bb/\bb<=6:=by rw [<- cu.out];omega
 obtain ⟨ss,cy⟩:=Aa (1+s);have b2:1<=ss/\ss<=20:=by rw [<- cy.out];omega
 rw [cu.out,cy.out] at br;have lk:W3.cell? ⟨go,2,none⟩=some (.int .i64 kk):=br.blk.cell 2
 go_upto_if 29 with (fail)
 clear lk
 go_cut [] (fun wc=>P1 w1 wc g g go L bb ss kk a)
 case first=>
  clear hP
  by_cases hk1:kk=1
  ·
   have hp:Hq kk []:=⟨by simp,(fun x hx=>by cases hx),List.Pairwise.nil,by simp [hk1]⟩;have f1:(kk !=1)=false:=by simp [hk1]
   clear hk1;go_wp2;go_meet;exact ⟨4,none,0,[],br,by omega,hp⟩
  ·
   have f1:(kk !=1)=true:=by simp [hk1]
   go_wp2_with fail;refine (Bc g g L 4 3 _ br.tk (by omega) (by omega) (by omega)).mono ?_;rintro _ w4 ⟨v,v0,v1,rfl,tk4,f4⟩;have ba:=br.one f4 tk4;clear tk4 f4 f1;obtain ⟨M,hM⟩:∃M:Nat,1+v=(M:Int):=⟨(1+v).toNat,by omega⟩;have eb:1<=M/\M<=3:=by omega
   have db:=lh hM;clear hM;go_wp2_with fail
   go_loopw [5] (fun v wr=>∃(m i:Nat) (pA:Option Addr) (pC:Nat) (past:List Id),v=.int .i64 (m:Int)/\m<=M/\i+3*m<=5+3*M/\Gs w1 wr g g go L i (OpL.base bb ss kk a pA pC past none 0 [])/\Own wr g 38 3 pA past.length pC (past.flatMap Id.cells)/\Hid (past.length+m<=M/\(∀x∈past,x.gen)/\past.Nodup/\(m<M->past≠[]))) (fun v _=>(intOf v).toNat)
   case atStart=>exact ⟨M,5,none,0,[],by rw [<- db.out],by omega,by omega,ba,Own.nil _ _ _ _,by simp,(fun x hx=>by cases hx),List.nodup_nil,by omega⟩
   case round=>
    obtain ⟨m,i,pA,pC,past,rfl,hm,em,gs,own,ad⟩:=hrel
    by_cases hm0:m=0
    ·
     subst hm0;have df:=ad.out.1;have c4:wr.cell? ⟨go,4,none⟩=some (.slice pA past.length pC):=gs.blk.cell 4;go_wp2_with fail;refine (Fm _ past.length pC pA past _ rfl own.rd (by omega)).mono ?_;rintro _ w5 ⟨A5,c5,rfl,a6,f5⟩;have a9:=gs.non f5;have e3:=gs.tk.lt;have z4:w5.cell? ⟨go,4,none⟩=some _:=a9.blk.cell 4;have q4:=a9.blk.frozen 4;clear c4;go_wp2;go_meet;exact ⟨i,A5,c5,An past,a9.past (An past) A5 past.length c5 ((C3 past).length_eq) ((RowAt.of_own a6).lower (by omega)),by omega,Vf hk1 ad.out.1 eb.2 ad.out.2.1 ad.out.2.2.1 (ad.out.2.2.2 (by omega))⟩
    ·
     obtain ⟨m,rfl⟩:∃j,m=j+1:=⟨m-1,by omega⟩;have df:=ad.out.1;go_wp2_with fail;refine (El g g L i _ gs.tk (by omega)).mono ?_;rintro _ w5 ⟨x,xg,rfl,tk5,f5⟩;have ay:=gs.tk;obtain ⟨_,_,ay,_⟩:=ay;have a9:=gs.one f5 tk5;have a6:=own.fr f5 (fun j hj e=>own.ne ay (by decide) (by rw [hj];exact congrArg some e));clear gs own tk5 f5 ay;go_upto_region 8 with (fail)
     have bq:=a9.alloc (.cells x.V 38);have bf:=a6.alloc (.cells x.V 38);have cj:=Blk.new w5 38 x.V;generalize w5.alloc (.cells x.V 38)=w6 at*;clear a9 a6;generalize w5.heap.size=gx at*;have c4:w6.cell? ⟨go,4,none⟩=some (.slice pA past.length pC):=bq.blk.cell 4;have x0:=cj.cell 0;have x1:=cj.cell 1;have x2:=cj.cell 2;go_wp2_with fail;refine (Hk _ past.length pC pA past x _ rfl bf.rd (by omega)).mono ?_;rintro _ w7 ⟨rfl,f7⟩;have a4:=bq.non f7;have a7:=bf.fr f7 zr;have bv:=cj.fr f7 zq;clear c4 x0 x1 x2 bq bf cj f7
     by_cases hh:Bi past x=true
     ·
      have d5:past≠[]:=fun e=>by rw [e] at hh;cases hh
      have e5:=lh d5;clear d5;go_wp2;go_roundw
      case rel=>exact ⟨m,i+3,pA,pC,past,by go_num,by omega,by omega,a4,a7,by have:=ad.out.1;omega,ad.out.2.1,ad.out.2.2.1,fun _=>e5.out⟩
      case measure=>first|(simp [intOf];done)|(simp [intOf];omega)
     ·
      have eu:Hid (x∉past):=fun hx=>hh ((Hj _ _).2 hx);have hh:=An5 _▸hh;have c4:w7.cell? ⟨go,4,none⟩=some (.slice pA past.length pC):=a4.blk.cell 4;have x0:=bv.cell 0;have x1:=bv.cell 1;have x2:=bv.cell 2;have fi:=a4.tk.lt;go_wp2_with (first|(at_builtin;go_loud (refine Aw (base:=g) (.tmp 45) (.tmp 47) 28 rfl rfl rfl rfl C1 (a7.alloc (.cells x.V 38)) (Rd.blk (n:=1) (size:=3) (Blk.new w7 38 x.V) rfl) (by simp [Value.oneCell']) (by omega) (by omega) (by rw [An4];omega) ?_);intro A9 c9 w9 ch dx es;have cw:=(a4.alloc (.cells x.V 38)).blk.fr dx (fun e=>a7.ne a4.blk (by decide) e);have z4:w9.cell? ⟨go,4,none⟩=some _:=cw.cell 4;have q4:=cw.frozen 4));go_roundw
      case rel=>
       have bt:Own w9 g 38 3 A9 (past.length+1) c9 ((past++[x]).flatMap Id.cells):=by rw [An6];exact ch
       have ah:(past++[x]).length=past.length+1:=by simp
       have eh:=(a4.alloc (.cells x.V 38)).past_app (a7.alloc _) dx (past++[x]) A9 (past.length+1) c9 ah bt;refine ⟨m,i+3,A9,c9,past++[x],by go_num,by omega,by omega,eh,?_,?_,?_,?_,by simp⟩
       ·
        rw [ah];exact bt.setOne (ch.ne cw (by decide))
       · rw [ah];have:=ad.out.1;omega
       ·
        intro y hy
        rcases List.mem_append.1 hy with hy|hy
        · exact ad.out.2.1 y hy
        · rw [List.mem_singleton.1 hy];exact xg
       ·
        rw [List.nodup_append];exact ⟨ad.out.2.2.1,by simp,fun a ha b hb e=>by rw [List.mem_singleton.1 hb] at e;exact eu.out (e▸ha)⟩
      case measure=>first|(simp [intOf];done)|(simp [intOf];omega)
 case rest=>
 clear br;obtain ⟨i,pA,pC,past,gs,dg,b0⟩:=hcut;generalize wc=W4 at*;have lk:W4.cell? ⟨go,2,none⟩=some (.int .i64 kk):=gs.blk.cell 2;go_wp2_with fail;refine (Gt kk _).mono ?_;rintro _ _ ⟨rfl,rfl⟩;clear lk
 go_upto_if 56 with (fail)
 go_cut [] (fun wc=>P2 w1 wc g g go L bb ss kk a)
 case first=>
  clear hP
  by_cases hc:Cl kk=true
  ·
   have e4:=lh hc;rw [hc];clear hc;go_wp2_with fail;refine (Bc g g L i 3 _ gs.tk (by omega) (by omega) (by omega)).mono ?_;rintro _ w4 ⟨v,v0,v1,rfl,tk4,f4⟩;have ba:=gs.one f4 tk4;clear tk4 f4 gs;obtain ⟨M,hM⟩:∃M:Nat,1+v=(M:Int):=⟨(1+v).toNat,by omega⟩;have eb:1<=M/\M<=3:=by omega
   have db:=lh hM;clear hM;go_wp2_with fail
   go_loopw [7] (fun v wr=>∃(m i:Nat) (qA:Option Addr) (qC:Nat) (ac:List NdL),v=.int .i64 (m:Int)/\m<=M/\i+10*m<=41+10*M/\ac.length+m<=M/\Gs w1 wr g g go L i (OpL.base bb ss kk a pA pC past qA qC ac)/\Own wr g 94 2 qA ac.length qC (ac.flatMap NdL.cells)/\Hid (∀y∈ac,y.gen)) (fun v _=>(intOf v).toNat)
   case atStart=>exact ⟨M,i+1,none,0,[],by rw [<- db.out],by omega,by omega,by simp,ba,Own.nil _ _ _ _,(fun x hx=>by cases hx)⟩
   case round=>
    obtain ⟨m,i,qA,qC,ac,rfl,hm,em,fe,gs,own,bn⟩:=hrel
    as_aux_lemma=>
    by_cases hm0:m=0
    ·
     subst hm0;go_wp2_with fail;go_meet;exact ⟨i,pA,pC,past,qA,qC,ac,gs,by omega,N1 b0 kb dd b2 ⟨a0,a1⟩ (by omega) bn.out (.inr e4.out)⟩
    ·
     obtain ⟨m,rfl⟩:∃j,m=j+1:=⟨m-1,by omega⟩
     go_upto_block 3 with (fail)
     go_cut [] (fun wc=>∃(j:Nat) (qA:Option Addr) (qC:Nat) (ao:List NdL),Gs w1 wc g g go L j (OpL.base bb ss kk a pA pC past qA qC ao)/\Own wc g 94 2 qA ao.length qC (ao.flatMap NdL.cells)/\j<=i+10/\ao.length=ac.length+1/\Hid (∀y∈ao,y.gen))
     case first=>
      as_aux_lemma=>
      go_upto_region 15 with (fail)
      have cg:=gs.drew;have b6:Own wr.drew g 94 2 qA ac.length qC (ac.flatMap NdL.cells):=own;have ay:=gs.tk;obtain ⟨_,_,ay,_⟩:=ay;have bg:∀j,Ab qA=some j->¬One g j:=fun j hj e=>own.ne ay (by decide) (by rw [hj];exact congrArg some e);have z0:wr.drew.cell? ⟨go,9,none⟩=some (.slice qA ac.length qC):=gs.blk.cell 9;have dm:=gs.tk.lt;have de:(ac.length+1)*32<=140737488355328:=by omega
      have cq:ac.length+1<=9223372036854775807:=by omega
      have e0:i+1<=1000000:=by omega
      have et:i+1+1<=900000:=by omega
      go_region_law (first
       |(go_simp;go_at_call 46;(with_reducible refine (Bc g g L i 1000 _ cg.tk (by omega) (by omega) (by omega)).mono ?_);rintro _ w5 ⟨v1,p1,q1,rfl,tk5,f5⟩;have e1:IntKind.u64.wrap v1=v1:=IntWalk.u64_in _ (by omega);have e2:IntKind.u64.wrap (1+v1)=1+v1:=IntWalk.u64_in _ (by omega);have a9:=cg.one f5 tk5;have a6:=b6.fr f5 bg;have z1:w5.cell? ⟨go,9,none⟩=some (.slice qA ac.length qC):=a9.blk.cell 9;clear f5 tk5)
       |(go_simp;go_at_call 46;(with_reducible refine (Bc g g L (i+1) 3 _ a9.tk e0 (by decide) (by decide)).mono ?_);rintro _ w6 ⟨v2,p2,q2,rfl,tk6,f6⟩;clear e1 e2;obtain ⟨nb,rfl⟩:=An7 p2;have ew:nb<=1000:=(by omega);have bq:=a9.one f6 tk6;have bf:=a6.fr f6 bg;have z2:w6.cell? ⟨go,9,none⟩=some (.slice qA ac.length qC):=bq.blk.cell 9;clear f6 tk6)
       |(go_simp;go_at_call 50;(with_reducible refine (Hh g g L (i+1+1) nb _ bq.tk ew et).mono ?_);rintro _ w7 ⟨bx,A7,c7,rfl,rfl,el,a7,dt,f7⟩;have a4:=bq.one f7 dt;have bw:=bf.fr f7 bg;have z3:w7.cell? ⟨go,9,none⟩=some (.slice qA ac.length qC):=a4.blk.cell 9;have z4:=Fk z3 (.cells #[.int .u64 (1+v1),.slice A7 bx.length c7] 94);clear dt;have bi:=Rd.blk (n:=1) (size:=2) (Blk.new w7 94 #[.int .u64 (1+v1),.slice A7 bx.length c7]) rfl;have b1:∀u∈[Value.int .u64 (1+v1),Value.slice A7 bx.length c7],u.oneCell'=true:=(by simp [Value.oneCell']);have be:g<=(w7.alloc (.cells #[.int .u64 (1+v1),.slice A7 bx.length c7] 94)).heap.size:=(by rw [An4];have:=a4.tk.lt;omega))
       |(refine Fg (base:=g) (.tmp 65) (.tmp 75) 36 (by rfl) (by rfl) (by rfl) (by rfl) slNd (bw.alloc (.cells #[.int .u64 (1+v1),.slice A7 bx.length c7] 94)) bi b1 de cq be ?_;intro A8 c8 w8 av bp ca;have bc:=(a4.alloc (.cells #[.int .u64 (1+v1),.slice A7 bx.length c7] 94)).blk.fr bp (fun e=>bw.ne a4.blk (by decide) e);have z8:w8.cell? ⟨go,9,none⟩=some _:=bc.cell 9;have q8:=bc.frozen 9))
      all_goals
       as_aux_lemma=>
       go_wp2_with fail;go_meet
       have ak:Own w8 g 94 2 A8 (ac.length+1) c8 ((ac++[(⟨(1+v1).toNat,A7,c7,bx⟩:NdL)]).flatMap NdL.cells):=by
        rw [An6,An9,Ao0,List.append_nil];have e:NdL.cells ⟨(1+v1).toNat,A7,c7,bx⟩=[.int .u64 (1+v1),.slice A7 bx.length c7]:=by unfold NdL.cells;rw [An8 (by omega)]
        rw [e];exact av
       have ah:(ac++[(⟨(1+v1).toNat,A7,c7,bx⟩:NdL)]).length=ac.length+1:=by simp
       have e9:=bq.tk.lt
       have ci:=(a4.alloc (.cells #[.int .u64 (1+v1),.slice A7 bx.length c7] 94)).path_app (bw.alloc _) bp (ac++[(⟨(1+v1).toNat,A7,c7,bx⟩:NdL)]) A8 (ac.length+1) c8 ah ak (by
        intro y hy
        rcases List.mem_append.1 hy with hy|hy
        · exact (a4.alloc _).own.nodes y hy
        ·
         rw [List.mem_singleton.1 hy];exact ((RowAt.of_own a7).lower (An3 e9)).keepT ((Fr.refl Non w7).alloc _) (fun _ _ _ _ e=>e))
       refine ⟨i+1+1+4*bx.length,A8,c8,_,ci,?_,by omega,ah,?_⟩
       ·
        rw [ah];exact ak.setOne (av.ne bc (by decide))
       ·
        intro y hy
        rcases List.mem_append.1 hy with hy|hy
        · exact bn.out y hy
        ·
         rw [List.mem_singleton.1 hy];exact ⟨by unfold FP;simp;omega,by simp;omega,fun b hb=>(el b hb).may⟩
     case rest=>
      obtain ⟨j,fb,ef,ao,ai,b4,hj,df,c6⟩:=hcut;go_wp2_with fail;go_roundw
      case rel=>exact ⟨m,j,fb,ef,ao,by go_num,by omega,by omega,by omega,ai,b4,c6⟩
      case measure=>first|(simp [intOf];done)|(simp [intOf];omega)
  ·
   have hc':Cl kk=false:=An5 _▸hc;rw [hc'];clear hc hc';go_wp2_with fail;go_meet;exact ⟨i,pA,pC,past,none,0,[],gs,by omega,N1 b0 kb dd b2 ⟨a0,a1⟩ (by simp) (fun y hy=>by cases hy) (.inl rfl)⟩
 case rest=>
 clear gs;obtain ⟨i,pA,pC,past,qA,qC,ac,gs,b9,ag⟩:=hcut;generalize wc=W5 at*;have lk:W5.cell? ⟨go,2,none⟩=some (.int .i64 kk):=gs.blk.cell 2
 go_upto_block 4 with (fail)
 clear lk
 go_cut [] (fun wc=>P3 w1 wc g g go L bb ss kk)
 case first=>
  clear hP;have cp:kk=1\/kk=2\/kk=3\/kk=4\/kk=5\/kk=6\/kk=7\/kk=8\/kk=9\/kk=10\/kk=11\/kk=12\/kk=13:=by omega
  rcases cp with rfl|rfl|rfl|rfl|rfl|rfl|rfl|rfl|rfl|rfl|rfl|rfl|rfl
  ·
   as_aux_lemma=>
    go_wp2_with fail;refine (Bc g g L i 21 _ gs.tk (by omega) (by omega) (by omega)).mono ?_;rintro _ x1 ⟨v1,cn,cm,rfl,al,f1⟩;have aa:=gs.one f1 al;have cb:x1.cell? ⟨go,20,none⟩=some _:=aa.blk.cell 20;have ce:=aa.blk.frozen 20;have ab:=aa.need v1;go_wp2;go_meet;exact ⟨i+1,_,ab,(by omega),rfl,rfl,rfl,rfl,rfl,rfl,J6 ag (Ao (n:=v1) (by omega)),rfl,rfl⟩
  ·
   as_aux_lemma=>
    go_wp2_with fail;refine (Bc g g L i 12 _ gs.tk (by omega) (by omega) (by omega)).mono ?_;rintro _ x1 ⟨v1,cn,cm,rfl,al,f1⟩;have aa:=gs.one f1 al;have dj:x1.cell? ⟨go,5,none⟩=some _:=aa.blk.cell 5;have cr:=aa.blk.frozen 5;have ab:=aa.dev (1+v1);go_wp2_with fail;refine (Bc g g L (i+1) 3 _ ab.tk (by omega) (by omega) (by omega)).mono ?_;rintro _ x2 ⟨v2,bl,bs,rfl,aq,f2⟩;have af:=ab.one f2 aq;have cv:x2.cell? ⟨go,8,none⟩=some _:=af.blk.cell 8;have di:=af.blk.frozen 8;have ae:=af.role (1+v2);go_wp2;go_meet;exact ⟨i+1+1,_,ae,(by omega),rfl,rfl,rfl,rfl,rfl,rfl,Ul ag (Ao (n:=1+v1) (by omega)) (Ao (n:=1+v2) (by omega)),rfl,rfl⟩
  ·
   as_aux_lemma=>
    go_wp2_with fail;refine (Bc g g L i 7 _ gs.tk (by omega) (by omega) (by omega)).mono ?_;rintro _ x1 ⟨v1,cn,cm,rfl,al,f1⟩;have aa:=gs.one f1 al;have dj:x1.cell? ⟨go,5,none⟩=some _:=aa.blk.cell 5;have cr:=aa.blk.frozen 5;have ab:=aa.dev v1;have zd:(x1.setCell ⟨go,5,none⟩ (.int .i64 v1)).cell? ⟨go,5,none⟩=some (.int .i64 v1):=ab.blk.cell 5
    by_cases hd0:v1=0
    ·
     subst hd0;go_wp2_with fail;refine (Bc g g L (i+1) 8 _ ab.tk (by omega) (by omega) (by omega)).mono ?_;rintro _ x2 ⟨v2,bl,bs,rfl,aq,f2⟩;have af:=ab.one f2 aq;have ez:x2.cell? ⟨go,7,none⟩=some _:=af.blk.cell 7;have ek:=af.blk.frozen 7;have ae:=af.mem (1+v2);go_wp2;go_meet;exact ⟨i+1+1,_,ae,(by omega),rfl,rfl,rfl,rfl,rfl,rfl,Um ag (Ao (n:=1+v2) (by omega)),rfl,rfl⟩
    ·
     have hf:(v1==0)=false:=Cf hd0;go_wp2;go_meet;exact ⟨i+1,_,ab,(by omega),rfl,rfl,rfl,rfl,rfl,rfl,Un ag (Ao (n:=v1) (by omega)),rfl,rfl⟩
  ·
   as_aux_lemma=>
    go_wp2;go_meet;exact ⟨i,_,gs,(by omega),rfl,rfl,rfl,rfl,rfl,rfl,Uo ag,rfl,rfl⟩
  ·
   as_aux_lemma=>
    go_wp2_with fail;refine (Bc g g L i 8 _ gs.tk (by omega) (by omega) (by omega)).mono ?_;rintro _ x1 ⟨v1,cn,cm,rfl,al,f1⟩;have aa:=gs.one f1 al;have ee:x1.cell? ⟨go,7,none⟩=some _:=aa.blk.cell 7;have ev:=aa.blk.frozen 7;have ab:=aa.mem (1+v1);go_wp2_with fail;refine (Bc g g L (i+1) 3 _ ab.tk (by omega) (by omega) (by omega)).mono ?_;rintro _ x2 ⟨v2,bl,bs,rfl,aq,f2⟩;have af:=ab.one f2 aq;have cv:x2.cell? ⟨go,8,none⟩=some _:=af.blk.cell 8;have di:=af.blk.frozen 8;have ae:=af.role (1+v2);go_wp2;go_meet;exact ⟨i+1+1,_,ae,(by omega),rfl,rfl,rfl,rfl,rfl,rfl,Up ag (Ao (n:=1+v1) (by omega)) (Ao (n:=1+v2) (by omega)),rfl,rfl⟩
  ·
   as_aux_lemma=>
    go_wp2_with fail;refine (El g g L i _ gs.tk (by omega)).mono ?_;rintro _ x1 ⟨y1,a5,rfl,al,f1⟩;have aa:=gs.one f1 al;have d8:x1.cell? ⟨go,10,none⟩=some _:=aa.blk.cell 10;have dv:=aa.blk.frozen 10;have ec:x1.cell? ⟨go,11,none⟩=some _:=aa.blk.cell 11;have d1:=aa.blk.frozen 11;have dz:x1.cell? ⟨go,12,none⟩=some _:=aa.blk.cell 12;have d9:=aa.blk.frozen 12;have ab:=aa.epoch y1;go_wp2_with fail;refine (Bc g g L (i+3) 5 _ ab.tk (by omega) (by omega) (by omega)).mono ?_;rintro _ x2 ⟨v2,bl,bs,rfl,aq,f2⟩;have af:=ab.one f2 aq;have dn:x2.cell? ⟨go,13,none⟩=some _:=af.blk.cell 13;have d6:=af.blk.frozen 13;have ae:=af.n v2
    as_aux_lemma=>
    go_wp2_with fail;refine (Bc g g L (i+3+1) 9 _ ae.tk (by omega) (by omega) (by omega)).mono ?_;rintro _ x3 ⟨v3,ea,d3,rfl,tk3,f3⟩;have ap:=ae.one f3 tk3;obtain ⟨k3,d7⟩:∃k:Nat,8+v3=(k:Int):=⟨(8+v3).toNat,by omega⟩;have dc:=lh d7;have ey:k3<=16/\8<=k3:=by omega
    clear d7;go_wp2_with fail;rw [dc.out];refine (Ju g g L (i+3+1+1) k3 _ ap.tk (by omega) (by omega)).mono ?_;rintro _ x4 ⟨y4,A4,c4,rfl,cl,b5,tk4,f4⟩;have ba:=ap.one f4 tk4;have ct:=ap.tk.lt;have ed:x4.cell? ⟨go,14,none⟩=some _:=ba.blk.cell 14;have dk:=ba.blk.frozen 14;have bk:=ba.body y4 A4 k3 c4 cl ((RowAt.of_own b5).lower (An3 ct))
    as_aux_lemma=>
    go_wp2_with fail;refine (Bc g g L (i+3+1+1+k3) 3 _ bk.tk (by omega) (by omega) (by omega)).mono ?_;rintro _ x5 ⟨v5,ep,fc,rfl,tk5,f5⟩;have a9:=bk.one f5 tk5;obtain ⟨M,rfl⟩:=An7 ep;go_wp2_with fail
    go_loopw [8] (fun v wr=>∃(m j:Nat) (A:Option Addr) (c:Nat) (rf:List Nat),v=.int .i64 (m:Int)/\rf.length+m<=M/\j+m<=i+3+1+1+k3+1+M/\Gs w1 wr g g go L j {OpL.base bb ss 6 a pA pC past qA qC ac with epoch:=y1,n:=v2,bodyA:=A4,bodyC:=c4,body:=y4,refsA:=A,refsC:=c,refs:=rf}/\Own wr g 23 1 A rf.length c (rf.map Uv)/\Hid (∀x∈rf,fOk x=true)) (fun v _=>(intOf v).toNat)
    case atStart=>exact ⟨M,i+3+1+1+k3+1,none,0,[],rfl,by simp,by omega,a9,Own.nil _ _ _ _,(fun x hx=>by cases hx)⟩
    case round=>
     obtain ⟨m,j,A,c,rf,rfl,hm,fg,a8,own,du⟩:=hrel
     as_aux_lemma=>
     by_cases hm0:m=0
     ·
      subst hm0;go_wp2_with fail;go_meet;exact ⟨j,_,a8,by omega,rfl,rfl,rfl,rfl,rfl,rfl,Uq (y:=y4) (rf:=rf) ag a5.named (Ao (n:=v2) (by omega)) (by rw [cl];omega) (by omega) du.out,rfl,rfl⟩
     ·
      obtain ⟨m,rfl⟩:∃j,m=j+1:=⟨m-1,by omega⟩
      go_upto_block 6 with (fail)
      go_cut [] (fun wc=>∃(A:Option Addr) (c:Nat) (bu:List Nat),Gs w1 wc g g go L (j+1) {OpL.base bb ss 6 a pA pC past qA qC ac with epoch:=y1,n:=v2,bodyA:=A4,bodyC:=c4,body:=y4,refsA:=A,refsC:=c,refs:=bu}/\Own wc g 23 1 A bu.length c (bu.map Uv)/\bu.length=rf.length+1/\Hid (∀x∈bu,fOk x=true))
      case first=>
       as_aux_lemma=>
       go_upto_region 36 with (fail)
       have cg:=a8.drew;have b6:Own wr.drew g 23 1 A rf.length c (rf.map Uv):=own;have ay:=a8.tk;obtain ⟨_,_,ay,_⟩:=ay;have bg:∀j,Ab A=some j->¬One g j:=fun j hj e=>own.ne ay (by decide) (by rw [hj];exact congrArg some e);have s0:wr.drew.cell? ⟨go,15,none⟩=some (.slice A rf.length c):=a8.blk.cell 15;have dm:=a8.tk.lt;have de:(rf.length+1)*8<=140737488355328:=by omega
       have cq:rf.length+1<=9223372036854775807:=by omega
       go_region_law (first
        |(go_simp;go_at_call 46;(with_reducible refine (Bc g g L j 1000 _ cg.tk (by omega) (by omega) (by omega)).mono ?_);rintro _ u1 ⟨r1,eo,ei,rfl,b7,fr⟩;have bz:=b7.lt;have e1:IntKind.u64.wrap r1=r1:=IntWalk.u64_in _ (by omega);have bj:=cg.one fr b7;have au:=b6.fr fr bg;have s1:u1.cell? ⟨go,15,none⟩=some (.slice A rf.length c):=bj.blk.cell 15;have s2:=Fk s1 (.cells #[.int .u64 r1] 23);clear b7;have bi:=Rd.blk (n:=1) (size:=1) (Blk.new u1 23 #[.int .u64 r1]) rfl;have b1:∀u∈[Value.int .u64 r1],u.oneCell'=true:=(by simp [Value.oneCell']);have be:g<=(u1.alloc (.cells #[.int .u64 r1] 23)).heap.size:=(by rw [An4];exact An3 (Ao1 bz)))
        |(refine Fg (base:=g) (.tmp 138) (.tmp 142) 40 (by rfl) (by rfl) (by rfl) (by rfl) Jr (au.alloc (.cells #[.int .u64 r1] 23)) bi b1 de cq be ?_;intro A8 c8 w8 av bp ca;have bc:=(bj.alloc (.cells #[.int .u64 r1] 23)).blk.fr bp (fun e=>au.ne bj.blk (by decide) e);have s8:w8.cell? ⟨go,15,none⟩=some _:=bc.cell 15;have t8:=bc.frozen 15))
       all_goals
        clear e1;go_wp2_with fail;go_meet
        have ak:Own w8 g 23 1 A8 (rf.length+1) c8 ((rf++[r1.toNat]).map Uv):=by
         rw [List.map_append,List.map_cons,List.map_nil];have e:Uv r1.toNat=.int .u64 r1:=by unfold Uv;rw [An8 (by omega)]
         rw [e];exact av
        have ah:(rf++[r1.toNat]).length=rf.length+1:=by simp
        have ci:=(bj.alloc (.cells #[.int .u64 r1] 23)).refs_app (au.alloc _) bp (rf++[r1.toNat]) A8 (rf.length+1) c8 ah ak;refine ⟨A8,c8,_,ci,?_,ah,?_⟩
        ·
         rw [ah];exact ak.setOne (av.ne bc (by decide))
        ·
         intro y hy
         rcases List.mem_append.1 hy with hy|hy
         · exact du.out y hy
         ·
          rw [List.mem_singleton.1 hy];unfold fOk FP;simp;omega
      case rest=>
       obtain ⟨A',c',bu,ai,b4,df,c6⟩:=hcut;go_wp2_with fail;go_roundw
       case rel=>exact ⟨m,j+1,A',c',bu,by go_num,by omega,by omega,ai,b4,c6⟩
       case measure=>first|(simp [intOf];done)|(simp [intOf];omega)
  ·
   as_aux_lemma=>
    go_wp2_with fail;refine (El g g L i _ gs.tk (by omega)).mono ?_;rintro _ x1 ⟨y1,a5,rfl,al,f1⟩;have aa:=gs.one f1 al;have a2:x1.cell? ⟨go,16,none⟩=some _:=aa.blk.cell 16;have az:=aa.blk.frozen 16;have ax:x1.cell? ⟨go,17,none⟩=some _:=aa.blk.cell 17;have aw:=aa.blk.frozen 17;have a3:x1.cell? ⟨go,18,none⟩=some _:=aa.blk.cell 18;have ar:=aa.blk.frozen 18;have ab:=aa.of y1;go_wp2_with fail;refine (Bc g g L (i+3) 4 _ ab.tk (by omega) (by omega) (by omega)).mono ?_;rintro _ x2 ⟨v2,bl,bs,rfl,aq,f2⟩;have af:=ab.one f2 aq;obtain ⟨k2,cf⟩:∃k:Nat,1+v2=(k:Int):=⟨(1+v2).toNat,by omega⟩;have b3:=lh cf;have c0:k2<=4/\1<=k2:=by omega
    clear cf;go_wp2_with fail;rw [b3.out];refine (Ju g g L (i+3+1) k2 _ af.tk (by omega) (by omega)).mono ?_;rintro _ x3 ⟨y3,A3,c3,rfl,bm,bh,tk3,f3⟩;have ap:=af.one f3 tk3;have cc:=af.tk.lt;have dw:x3.cell? ⟨go,14,none⟩=some _:=ap.blk.cell 14;have ds:=ap.blk.frozen 14;have aj:=ap.body y3 A3 k2 c3 bm ((RowAt.of_own bh).lower (An3 cc));go_wp2;go_meet;exact ⟨i+3+1+k2,_,aj,(by omega),rfl,rfl,rfl,rfl,rfl,rfl,Ur ag a5.named (by rw [bm];omega),rfl,rfl⟩
  ·
   as_aux_lemma=>
    go_wp2_with fail;refine (El g g L i _ gs.tk (by omega)).mono ?_;rintro _ x1 ⟨y1,a5,rfl,al,f1⟩;have aa:=gs.one f1 al;have a2:x1.cell? ⟨go,16,none⟩=some _:=aa.blk.cell 16;have az:=aa.blk.frozen 16;have ax:x1.cell? ⟨go,17,none⟩=some _:=aa.blk.cell 17;have aw:=aa.blk.frozen 17;have a3:x1.cell? ⟨go,18,none⟩=some _:=aa.blk.cell 18;have ar:=aa.blk.frozen 18;have ab:=aa.of y1;go_wp2;go_meet;exact ⟨i+3,_,ab,(by omega),rfl,rfl,rfl,rfl,rfl,rfl,Nn ag a5.named,rfl,rfl⟩
  ·
   as_aux_lemma=>
    go_wp2_with fail
    go_loopw [9] (fun v wr=>∃(n j:Nat) (A:Option Addr) (c:Nat) (ai:List Int),v=.int .i64 (n:Int)/\1<=n/\n<=7/\ai.length+1<=n/\j+1<=i+n/\Gs w1 wr g g go L j {OpL.base bb ss 9 a pA pC past qA qC ac with guardsA:=A,guardsC:=c,guards:=ai}/\Own wr g 3 1 A ai.length c (ai.map Iv)/\Hid (ai.Pairwise (· < ·)/\(∀x∈ai,1<=x/\x<n)/\(n=7->ai≠[]))) (fun v _=>7-(intOf v).toNat)
    case atStart=>exact ⟨1,i,none,0,[],rfl,by omega,by omega,by simp,by omega,gs,Own.nil _ _ _ _,List.Pairwise.nil,(fun x hx=>by cases hx),by omega⟩
    case round=>
     obtain ⟨n,j,A,c,ai,rfl,ff,fh,er,fj,a8,own,bo⟩:=hrel
     by_cases hn0:n=7
     ·
      subst hn0;have fd:ai.length≠0:=fun e=>bo.out.2.2 rfl (List.eq_nil_of_length_eq_zero e);have d2:wr.cell? ⟨go,19,none⟩=some (.slice A ai.length c):=a8.blk.cell 19;obtain ⟨nl,b8⟩:=Aa ai.length;have eg:1<=nl/\nl<=6:=by rw [<- b8.out];omega
      rw [b8.out] at d2;go_wp2_with fail;refine (Bc g g L j (nl:Int) _ a8.tk (by omega) (by omega) (by omega)).mono ?_;rintro _ x1 ⟨v1,cn,cm,rfl,al,f1⟩;have aa:=a8.one f1 al;have cb:x1.cell? ⟨go,20,none⟩=some _:=aa.blk.cell 20;have ce:=aa.blk.frozen 20;have ab:=aa.need (1+v1);go_wp2_with fail;refine (Bc g g L (j+1) 50 _ ab.tk (by omega) (by omega) (by omega)).mono ?_;rintro _ x2 ⟨v2,bl,bs,rfl,aq,f2⟩;have af:=ab.one f2 aq;have dp:x2.cell? ⟨go,21,none⟩=some _:=af.blk.cell 21;have dy:=af.blk.frozen 21;have ae:=af.wait v2;go_wp2_with fail;refine (Bc g g L (j+1+1) 1000 _ ae.tk (by omega) (by omega) (by omega)).mono ?_;rintro _ x3 ⟨v3,ea,d3,rfl,tk3,f3⟩;have ap:=ae.one f3 tk3;have d0:x3.cell? ⟨go,23,none⟩=some _:=ap.blk.cell 23;have dq:=ap.blk.frozen 23;have aj:=ap.pub (1+v3).toNat;rw [An8 (by omega)] at aj;have fk:(x3.setCell ⟨go,23,none⟩ (.int .u64 (1+v3))).cell? ⟨go,19,none⟩=some (.slice A nl c):=by rw [<- b8.out];exact aj.blk.cell 19
      go_wp2_with fail;refine (Hh g g L (j+1+1+1) nl _ aj.tk (by omega) (by omega)).mono ?_;rintro _ x4 ⟨e8,A4,c4,rfl,cl,ej,b5,tk4,f4⟩;have ba:=aj.one f4 tk4;have ct:=aj.tk.lt;have dr:x4.cell? ⟨go,22,none⟩=some _:=ba.blk.cell 22;have d4:=ba.blk.frozen 22;have bk:=ba.boxes e8 A4 nl c4 cl ((RowAt.of_own b5).lower (An3 ct));go_wp2;go_meet;exact ⟨j+1+1+1+4*nl,_,bk,by omega,rfl,rfl,rfl,rfl,rfl,rfl,Us ag ⟨by rw [b8.out];omega,fun x hx=>Ao (n:=x) (by have:=bo.out.2.1 x hx;omega)⟩ (Ve bo.out.1) (Ao (n:=1+v1) (by rw [b8.out];omega)) (Ao (n:=v2) (by omega)) (J5 (n:=(1+v3).toNat) (by unfold FP;omega)) ⟨by rw [cl,b8.out],fun x hx=>(ej x hx).may⟩,rfl,rfl⟩
     ·
      have fl:n<7:=by omega
      have en:((n:Int)==7)=false:=Cf (by omega);go_wp2_with fail;refine (Bc g g L j 2 _ a8.tk (by omega) (by omega) (by omega)).mono ?_;rintro _ u1 ⟨r1,eo,ei,rfl,b7,fr⟩;have ay:=a8.tk;obtain ⟨_,_,ay,_⟩:=ay;have bj:=a8.one fr b7;have au:=own.fr fr (fun j hj e=>own.ne ay (by decide) (by rw [hj];exact congrArg some e));have d2:u1.cell? ⟨go,19,none⟩=some (.slice A ai.length c):=bj.blk.cell 19;have dm:=bj.tk.lt;clear a8 own b7 fr ay
      by_cases hadd:r1=0\/(n=6/\ai.length=0)
      ·
       have bi:=Rd.blk (n:=1) (size:=1) (Blk.new u1 3 #[.int .i64 (n:Int)]) rfl
       have bd:(r1==0)=true\/((r1==0)=false/\((n:Int)==6)=true/\((ai.length:Int)==0)=true):=by
        simp only [beq_iff_eq,beq_eq_false_iff_ne,ne_eq];omega
       clear hadd
       rcases bd with t1|⟨t1,t2,t3⟩
       all_goals
        go_wp2_with (first|(at_builtin;go_loud (refine Aw (base:=g) (.tmp 176) (.tmp 178) 22 rfl rfl rfl rfl Fi (au.alloc (.cells #[.int .i64 (n:Int)] 3)) bi (by simp [Value.oneCell']) (by omega) (by omega) (by rw [An4];omega) ?_);intro A8 c8 w8 av bp ca;have bc:=(bj.alloc (.cells #[.int .i64 (n:Int)] 3)).blk.fr bp (fun e=>au.ne bj.blk (by decide) e);have s8:w8.cell? ⟨go,19,none⟩=some _:=bc.cell 19;have t8:=bc.frozen 19));go_roundw
        case rel=>
         have ak:Own w8 g 3 1 A8 (ai.length+1) c8 ((ai++[(n:Int)]).map Iv):=by
          rw [List.map_append];exact av
         have ah:(ai++[(n:Int)]).length=ai.length+1:=by simp
         have ci:=(bj.alloc (.cells #[.int .i64 (n:Int)] 3)).guards_app (au.alloc _) bp (ai++[(n:Int)]) A8 (ai.length+1) c8 ah ak;refine ⟨n+1,j+1,A8,c8,ai++[(n:Int)],by go_num,by omega,by omega,by omega,by omega,ci,?_,?_,?_,by simp⟩
         ·
          rw [ah];exact ak.setOne (av.ne bc (by decide))
         ·
          rw [List.pairwise_append];exact ⟨bo.out.1,by simp,fun x hx y hy=>by rw [List.mem_singleton.1 hy];exact (bo.out.2.1 x hx).2⟩
         ·
          intro x hx
          rcases List.mem_append.1 hx with hx|hx
          · have:=bo.out.2.1 x hx;omega
          · rw [List.mem_singleton.1 hx];omega
        case measure=>first|(simp [intOf];done)|(simp [intOf];omega)
      ·
       have bd:(r1==0)=false/\(((n:Int)==6)=false\/(((n:Int)==6)=true/\((ai.length:Int)==0)=false)):=by
        simp only [beq_iff_eq,beq_eq_false_iff_ne,ne_eq];omega
       have cz:Hid (n+1=7->ai≠[]):=by
        intro e h;subst h;exact hadd (.inr ⟨by omega,rfl⟩)
       clear hadd;obtain ⟨t1,bd⟩:=bd
       rcases bd with t2|⟨t2,t3⟩
       all_goals
        go_wp2_with fail;go_roundw
        case rel=>exact ⟨n+1,j+1,A,c,ai,by go_num,by omega,by omega,by omega,by omega,bj,au,bo.out.1,(fun x hx=>by have:=bo.out.2.1 x hx;omega),cz.out⟩
        case measure=>first|(simp [intOf];done)|(simp [intOf];omega)
  ·
   as_aux_lemma=>
    go_wp2_with fail;refine (El g g L i _ gs.tk (by omega)).mono ?_;rintro _ x1 ⟨y1,a5,rfl,al,f1⟩;have aa:=gs.one f1 al;have a2:x1.cell? ⟨go,16,none⟩=some _:=aa.blk.cell 16;have az:=aa.blk.frozen 16;have ax:x1.cell? ⟨go,17,none⟩=some _:=aa.blk.cell 17;have aw:=aa.blk.frozen 17;have a3:x1.cell? ⟨go,18,none⟩=some _:=aa.blk.cell 18;have ar:=aa.blk.frozen 18;have ab:=aa.of y1;go_wp2_with fail;refine (Bc g g L (i+3) 6 _ ab.tk (by omega) (by omega) (by omega)).mono ?_;rintro _ x2 ⟨v2,bl,bs,rfl,aq,f2⟩;have af:=ab.one f2 aq;obtain ⟨k2,cf⟩:∃k:Nat,1+v2=(k:Int):=⟨(1+v2).toNat,by omega⟩;have b3:=lh cf;have c0:k2<=6/\1<=k2:=by omega
    clear cf;go_wp2_with fail;rw [b3.out];refine (Hh g g L (i+3+1) k2 _ af.tk (by omega) (by omega)).mono ?_;rintro _ x3 ⟨dh,A3,c3,rfl,bm,da,bh,tk3,f3⟩;have ap:=af.one f3 tk3;have cc:=af.tk.lt;have cd:x3.cell? ⟨go,22,none⟩=some _:=ap.blk.cell 22;have ck:=ap.blk.frozen 22;have aj:=ap.boxes dh A3 k2 c3 bm ((RowAt.of_own bh).lower (An3 cc));go_wp2;go_meet;exact ⟨i+3+1+4*k2,_,aj,(by omega),rfl,rfl,rfl,rfl,rfl,rfl,Ut ag a5.named ⟨by rw [bm];omega,fun x hx=>(da x hx).may⟩,rfl,rfl⟩
  ·
   as_aux_lemma=>
    go_wp2_with fail;refine (El g g L i _ gs.tk (by omega)).mono ?_;rintro _ x1 ⟨y1,a5,rfl,al,f1⟩;have aa:=gs.one f1 al;have a2:x1.cell? ⟨go,16,none⟩=some _:=aa.blk.cell 16;have az:=aa.blk.frozen 16;have ax:x1.cell? ⟨go,17,none⟩=some _:=aa.blk.cell 17;have aw:=aa.blk.frozen 17;have a3:x1.cell? ⟨go,18,none⟩=some _:=aa.blk.cell 18;have ar:=aa.blk.frozen 18;have ab:=aa.of y1;go_wp2_with fail;refine (Bc g g L (i+3) 12 _ ab.tk (by omega) (by omega) (by omega)).mono ?_;rintro _ x2 ⟨v2,bl,bs,rfl,aq,f2⟩;have af:=ab.one f2 aq;have cx:x2.cell? ⟨go,5,none⟩=some _:=af.blk.cell 5;have c2:=af.blk.frozen 5;have ae:=af.dev (1+v2);have e7:Hid ((1:Int)=((1:Nat):Int)):=rfl;go_wp2_with fail;refine (Hh g g L (i+3+1) 1 _ ae.tk (by omega) (by omega)).mono ?_;rintro _ x3 ⟨dh,A3,c3,rfl,bm,da,bh,tk3,f3⟩;have ap:=ae.one f3 tk3;have cc:=ae.tk.lt;have cd:x3.cell? ⟨go,22,none⟩=some _:=ap.blk.cell 22;have ck:=ap.blk.frozen 22;have aj:=ap.boxes dh A3 1 c3 bm ((RowAt.of_own bh).lower (An3 cc));go_wp2;go_meet;exact ⟨i+3+1+4*1,_,aj,(by omega),rfl,rfl,rfl,rfl,rfl,rfl,Uu ag a5.named (Ao (n:=1+v2) (by omega)) ⟨bm,fun x hx=>(da x hx).may⟩,rfl,rfl⟩
  ·
   as_aux_lemma=>
    go_wp2_with fail;refine (El g g L i _ gs.tk (by omega)).mono ?_;rintro _ x1 ⟨y1,a5,rfl,al,f1⟩;have aa:=gs.one f1 al;have a2:x1.cell? ⟨go,16,none⟩=some _:=aa.blk.cell 16;have az:=aa.blk.frozen 16;have ax:x1.cell? ⟨go,17,none⟩=some _:=aa.blk.cell 17;have aw:=aa.blk.frozen 17;have a3:x1.cell? ⟨go,18,none⟩=some _:=aa.blk.cell 18;have ar:=aa.blk.frozen 18;have ab:=aa.of y1;go_wp2;go_meet;exact ⟨i+3,_,ab,(by omega),rfl,rfl,rfl,rfl,rfl,rfl,Ux ag a5.named,rfl,rfl⟩
  ·
   as_aux_lemma=>
    go_wp2_with fail;refine (El g g L i _ gs.tk (by omega)).mono ?_;rintro _ x1 ⟨y1,a5,rfl,al,f1⟩;have aa:=gs.one f1 al;have a2:x1.cell? ⟨go,16,none⟩=some _:=aa.blk.cell 16;have az:=aa.blk.frozen 16;have ax:x1.cell? ⟨go,17,none⟩=some _:=aa.blk.cell 17;have aw:=aa.blk.frozen 17;have a3:x1.cell? ⟨go,18,none⟩=some _:=aa.blk.cell 18;have ar:=aa.blk.frozen 18;have ab:=aa.of y1;go_wp2_with fail;refine (Bc g g L (i+3) 12 _ ab.tk (by omega) (by omega) (by omega)).mono ?_;rintro _ x2 ⟨v2,bl,bs,rfl,aq,f2⟩;have af:=ab.one f2 aq;have cx:x2.cell? ⟨go,5,none⟩=some _:=af.blk.cell 5;have c2:=af.blk.frozen 5;have ae:=af.dev (1+v2);go_wp2_with fail;refine (Bc g g L (i+3+1) 12 _ ae.tk (by omega) (by omega) (by omega)).mono ?_;rintro _ x3 ⟨v3,ea,d3,rfl,tk3,f3⟩;have ap:=ae.one f3 tk3;have fa:x3.cell? ⟨go,6,none⟩=some _:=ap.blk.cell 6;have e6:=ap.blk.frozen 6;have aj:=ap.old (1+v3);go_wp2;go_meet;exact ⟨i+3+1+1,_,aj,(by omega),rfl,rfl,rfl,rfl,rfl,rfl,Uw ag a5.named (Ao (n:=1+v2) (by omega)) (Ao (n:=1+v3) (by omega)),rfl,rfl⟩
 case rest=>
 rename_i K hK;refine hK _ _ ?_;clear hK K gs ag b9 b0 dg hn hc hc' hok hL hb6 hs20 k0 k1 a0 a1 cs kb dd b2 hi;revert u5 u6 u7 u8 u9 u11 u12 u13 u14 u15 u16 u17 u18 u19 u20 u21 u22 u23 u24 u25 u26 u27 u28 u29 u30 u31 u32 u33 u34 u35 u36 u37 u38 u39 u40 u41 u42 u43 u44 u45 u46 u47 u48 u49 u50 u51 u52 u53 u54 u55 u56 u57 u58 u59 u60 u61 u62 u63 u64 u65 u66 u67 u68 u69 u70 u71 u72 u73 u74 u75 u76 u77 u78 u80 u81 u82 u83 u84 u85 u86 u87 u88 u89 u90 u91 u92 u93 u94 u95 u96 u97 u98 u99 u100 u101 u102 u103 u104 u105 u106 u107 u108 u109 u110 u111 u112 u113 u114 u115 u116 u117 u118 u119 u120 u121 u122 u123 u124 u125 u126 u127 u128 u129 u130 u131 u132 u133 u134 u135 u136 u137 u138 u139 u140 u141 u142 u143 u144 u145 u146 u147 u148 u149 u150 u151 u152 u153 u154 u155 u156 u157 u158 u159 u160 u161 u162 u163 u164 u165 u166 u167 u168 u169 u170 u171 u172 u173 u174 u175 u176 u177 u178 u179 u180 u181 u182 u183 u184 u185 u186 u187 u188 u189 u190 u191 u192 u193 u194 u195 u196 u197 u198 u199 u200 u201 u202 u203 u204 u205 u206 u207 u208 u209 u210 u211 u212 u213 u214 u215 u216 u217 u218 u219 u220 u221 u222 u223 u224 u225 u226 u227 u228 u229 u230 u231 u232 u233 u234 u235 u236 u237 u238 u239 u240 u241 u242 u243 u244 u245 u246 u247 u248 u249 u250 u251 u252 u253 u254 u255 u256 u257 u258 u259 u260 u261 u262 u263 u264 u265 u266 u267 u268 u269 u270 u271;revert A n c hcut cu cy hg hb hs hres fr1 hsz;revert w w1 wc g go L bb ss b s kk;exact hP.down)
def genB:PSigma (fun P:Prop=>PLift P->genA.1):=PSigma.mk _ (by
 intro hP;conv=>whnf
 intro w w1 L g b s go kk bb ss wc n c A hres fr1 hsz hg hb hs hbb hss hcut u5 u6 u7 u8 u9 u11 u12 u13 u14 u15 u16 u17 u18 u19 u20 u21 u22 u23 u24 u25 u26 u27 u28 u29 u30 u31 u32 u33 u34 u35 u36 u37 u38 u39 u40 u41 u42 u43 u44 u45 u46 u47 u48 u49 u50 u51 u52 u53 u54 u55 u56 u57 u58 u59 u60 u61 u62 u63 u64 u65 u66 u67 u68 u69 u70 u71 u72 u73 u74 u75 u76 u77 u78 u80 u81 u82 u83 u84 u85 u86 u87 u88 u89 u90 u91 u92 u93 u94 u95 u96 u97 u98 u99 u100 u101 u102 u103 u104 u105 u106 u107 u108 u109 u110 u111 u112 u113 u114 u115 u116 u117 u118 u119 u120 u121 u122 u123 u124 u125 u126 u127 u128 u129 u130 u131 u132 u133 u134 u135 u136 u137 u138 u139 u140 u141 u142 u143 u144 u145 u146 u147 u148 u149 u150 u151 u152 u153 u154 u155 u156 u157 u158 u159 u160 u161 u162 u163 u164 u165 u166 u167 u168 u169 u170 u171 u172 u173 u174 u175 u176 u177 u178 u179 u180 u181 u182 u183 u184 u185 u186 u187 u188 u189 u190 u191 u192 u193 u194 u195 u196 u197 u198 u199 u200 u201 u202 u203 u204 u205 u206 u207 u208 u209 u210 u211 u212 u213 u214 u215 u216 u217 u218 u219 u220 u221 u222 u223 u224 u225 u226 u227 u228 u229 u230 u231 u232 u233 u234 u235 u236 u237 u238 u239 u240 u241 u242 u243 u244 u245 u246 u247 u248 u249 u250 u251 u252 u253 u254 u255 u256 u257 u258 u259 u260 u261 u262 u263 u264 u265 u266 u267 u268 u269 u270 u271;obtain ⟨i,x,gs,hi400,xb,xs,xk,xhA,xhC,xh,xchk,xr,xs0⟩:=hcut;generalize wc=W6 at*;have Xb:=lh xb;have Xs:=lh xs;have Xh:=lh (And.intro xhA (And.intro xhC xh));have Xc:=lh xchk;have Xr:=lh (And.intro xr xs0);clear xb xs xk xhA xhC xh xchk xr xs0;have lk:W6.cell? ⟨go,2,none⟩=some (.int .i64 x.kind):=gs.blk.cell 2;go_upto_region 64 with (fail)
 rename_i K hK K2 hK2
 go_cut [251] (fun s wc=>W6=wc/\s=.bool (x.kind==2||x.kind==13))
 case first=>
  clear hP
  as_aux_lemma=>
  by_cases k2:x.kind=2
  ·
   have f2:=Cq k2;clear k2;go_wp2_with fail;go_meet;exact ⟨rfl,by rw [f2];rfl⟩
  ·
   have f2:=Cf k2;clear k2
   by_cases k3:x.kind=13
   ·
    have f3:=Cq k3;clear k3;go_wp2_with fail;go_meet;exact ⟨rfl,by rw [f2,f3];rfl⟩
   ·
    have f3:=Cf k3;clear k3;go_wp2_with fail;go_meet;exact ⟨rfl,by rw [f2,f3];rfl⟩
 case rest=>
 obtain ⟨rfl,rfl⟩:=hcut;clear lk
 go_upto_if 251 with (fail)
 go_cut [] (fun wc=>P4 w1 wc g g go L bb ss)
 case first=>
  clear hP
  by_cases hh:(x.kind==2||x.kind==13)=true
  ·
   rw [hh]
   have hk2:Hid (x.op.kind=2\/x.op.kind=13):=by
    show x.kind=2\/x.kind=13;rw [Bool.or_eq_true,beq_iff_eq,beq_iff_eq] at hh;exact hh
   clear hh
   as_aux_lemma=>
   go_wp2_with fail;refine (Bc g g L i 3 _ gs.tk (by omega) (by omega) (by omega)).mono ?_;rintro _ w4 ⟨v,v0,v1,rfl,a8,f4⟩;have a2:=gs.one f4 a8
   have a1:Gs w1 w4 g g go L (i+1) {x with histA:=none,histC:=0,hist:=[]}:=by
    have e:{x with histA:=none,histC:=0,hist:=[]}=x:=by
     obtain ⟨e1,e2,e3⟩:=Xh.out
     cases x
     simp at e1 e2 e3;subst e1 e2 e3;rfl
    rw [e];exact a2
   clear a8 f4 gs a2;obtain ⟨M,rfl⟩:=An7 v0;go_wp2_with fail
   go_loopw [10] (fun v wr=>∃(m j:Nat) (A:Option Addr) (c:Nat) (hs:List SlL),v=.int .i64 (m:Int)/\hs.length+m<=M/\j+20*m<=i+1+20*M/\Gs w1 wr g g go L j {x with histA:=A,histC:=c,hist:=hs}/\Own wr g 97 4 A hs.length c (hs.flatMap SlL.cells)/\Hid (∀y∈hs,y.f.named=true/\y.y.length<=208)) (fun v _=>(intOf v).toNat)
   case atStart=>exact ⟨M,i+1,none,0,[],rfl,by simp,by omega,a1,Own.nil _ _ _ _,(fun x hx=>by cases hx)⟩
   case round=>
    obtain ⟨m,j,A,c,aa,rfl,hm,bo,ak,own,a3⟩:=hrel
    as_aux_lemma=>
    by_cases hm0:m=0
    ·
     subst hm0;go_wp2_with fail;go_meet;exact ⟨j,_,ak,Xb.out,Xs.out,Uy (o:=x.op) (l:=aa.map SlL.sl) Xc.out hk2.out (by rw [List.length_map];omega) (fun y hy=>by obtain ⟨z,hz,rfl⟩:=List.mem_map.1 hy;exact a3.out z hz),Xr.out.1,Xr.out.2⟩
    ·
     obtain ⟨m,rfl⟩:∃j,m=j+1:=⟨m-1,by omega⟩
     go_upto_block 10 with (fail)
     go_cut [] (fun wc=>∃(j':Nat) (A:Option Addr) (c:Nat) (ab:List SlL),Gs w1 wc g g go L j' {x with histA:=A,histC:=c,hist:=ab}/\Own wc g 97 4 A ab.length c (ab.flatMap SlL.cells)/\j'<=j+20/\ab.length=aa.length+1/\Hid (∀y∈ab,y.f.named=true/\y.y.length<=208))
     case first=>
      as_aux_lemma=>
      go_upto_region 68 with (fail)
      have a5:=ak.drew;have az:Own wr.drew g 97 4 A aa.length c (aa.flatMap SlL.cells):=own;have ay:=ak.tk;obtain ⟨_,_,ay,_⟩:=ay;have ad:∀j,Ab A=some j->¬One g j:=fun j hj e=>own.ne ay (by decide) (by rw [hj];exact congrArg some e);have z0:wr.drew.cell? ⟨go,24,none⟩=some (.slice A aa.length c):=ak.blk.cell 24;have be:(aa.length+1)*48<=140737488355328:=by omega
      have bf:aa.length+1<=9223372036854775807:=by omega
      have bg:j<=900000:=by omega
      have bh:j+3<=1000000:=by omega
      have bi:j+3+1<=900000:=by omega
      go_region_law (first
       |(go_simp;go_at_call 47;(with_reducible refine (El g g L j _ a5.tk bg).mono ?_);rintro _ w5 ⟨y,yg,rfl,a6,f5⟩;have al:=a5.one f5 a6;have ax:=az.fr f5 ad;have z1:w5.cell? ⟨go,24,none⟩=some (.slice A aa.length c):=al.blk.cell 24;clear f5 a6)
       |(go_simp;go_at_call 46;(with_reducible refine (Bc g g L (j+3) 5 _ al.tk bh (by decide) (by decide)).mono ?_);rintro _ w6 ⟨v2,p2,q2,rfl,a7,f6⟩;obtain ⟨nb,ba⟩:∃n:Nat,8+v2=(n:Int):=⟨(8+v2).toNat,(by omega)⟩;have bl:nb<=12:=(by omega);have ap:nb<=1000:=(by omega);have e1:IntKind.i64.wrap (8+v2)=(nb:Int):=(by rw [ba];exact IntWalk.i64_in _ (by omega));clear ba;have aj:=al.one f6 a7;have aq:=ax.fr f6 ad;have z2:w6.cell? ⟨go,24,none⟩=some (.slice A aa.length c):=aj.blk.cell 24;clear f6 a7)
       |(go_simp;go_at_call 51;(with_reducible refine (Ju g g L (j+3+1) nb _ aj.tk ap bi).mono ?_);rintro _ w7 ⟨bs,A7,c7,rfl,rfl,a0,ar,f7⟩;clear e1;have ag:=aj.one f7 ar;have ae:=aq.fr f7 ad;have z3:w7.cell? ⟨go,24,none⟩=some (.slice A aa.length c):=ag.blk.cell 24;have z4:=Fk z3 (.cells #[.int .i64 y.b,.int .i64 y.s,.int .u64 (y.u:Int),.slice A7 bs.length c7] 97);have aw:=Rd.blk (n:=1) (size:=4) (Blk.new w7 97 #[.int .i64 y.b,.int .i64 y.s,.int .u64 (y.u:Int),.slice A7 bs.length c7]) rfl;have av:∀u∈[Value.int .i64 y.b,Value.int .i64 y.s,Value.int .u64 (y.u:Int),Value.slice A7 bs.length c7],u.oneCell'=true:=(by simp [Value.oneCell']);have ai:g<=(w7.alloc (.cells #[.int .i64 y.b,.int .i64 y.s,.int .u64 (y.u:Int),.slice A7 bs.length c7] 97)).heap.size:=(by rw [An4];exact An3 (Ao1 ar.lt));clear ar)
       |(refine Fg (base:=g) (.tmp 259) (.tmp 268) 42 (by rfl) (by rfl) (by rfl) (by rfl) slSl (ae.alloc (.cells #[.int .i64 y.b,.int .i64 y.s,.int .u64 (y.u:Int),.slice A7 bs.length c7] 97)) aw av be bf ai ?_;intro A8 c8 w8 ah a4 bd;have au:=(ag.alloc (.cells #[.int .i64 y.b,.int .i64 y.s,.int .u64 (y.u:Int),.slice A7 bs.length c7] 97)).blk.fr a4 (fun e=>ae.ne ag.blk (by decide) e);have z8:w8.cell? ⟨go,24,none⟩=some _:=au.cell 24;have q8:=au.frozen 24))
      all_goals
       as_aux_lemma=>
       go_wp2_with fail;go_meet
       have ac:Own w8 g 97 4 A8 (aa.length+1) c8 ((aa++[(⟨y,A7,c7,bs⟩:SlL)]).flatMap SlL.cells):=by
        rw [An6,An9,Ao0,List.append_nil];exact ah
       have af:(aa++[(⟨y,A7,c7,bs⟩:SlL)]).length=aa.length+1:=by simp
       have bk:=aj.tk.lt
       have bj:=(ag.alloc (.cells #[.int .i64 y.b,.int .i64 y.s,.int .u64 (y.u:Int),.slice A7 bs.length c7] 97)).hist_app (ae.alloc _) a4 (aa++[(⟨y,A7,c7,bs⟩:SlL)]) A8 (aa.length+1) c8 af ac (by
        intro z hz
        rcases List.mem_append.1 hz with hz|hz
        · exact (ag.alloc _).own.seals z hz
        ·
         rw [List.mem_singleton.1 hz];exact ((RowAt.of_own a0).lower (An3 bk)).keepT ((Fr.refl Non w7).alloc _) (fun _ _ _ _ e=>e))
       refine ⟨j+3+1+bs.length,A8,c8,_,bj,?_,by omega,af,?_⟩
       ·
        rw [af];exact ac.setOne (ah.ne au (by decide))
       ·
        intro z hz
        rcases List.mem_append.1 hz with hz|hz
        · exact a3.out z hz
        ·
         rw [List.mem_singleton.1 hz];exact ⟨yg.named,by show bs.length<=208;omega⟩
     case rest=>
      obtain ⟨j',A',c',ab,bc,ao,hj,bn,bm⟩:=hcut;go_wp2_with fail;go_roundw
      case rel=>exact ⟨m,j',A',c',ab,by go_num,by omega,by omega,bc,ao,bm⟩
      case measure=>first|(simp [intOf];done)|(simp [intOf];omega)
  ·
   have a9:(x.kind==2||x.kind==13)=false:=An5 _▸hh;rw [a9];clear hh a9;go_wp2_with fail;go_meet;exact ⟨i,x,gs,Xb.out,Xs.out,Xc.out,Xr.out.1,Xr.out.2⟩
 case rest=>
 refine hK _ _ ?_;clear hK K gs Xh Xc Xr Xb Xs hi400;revert u5 u6 u7 u8 u9 u10 u11 u12 u13 u14 u15 u16 u17 u18 u19 u20 u21 u22 u23 u24 u25 u26 u27 u28 u29 u30 u31 u32 u33 u34 u35 u36 u37 u38 u39 u40 u41 u42 u43 u44 u45 u46 u47 u48 u49 u50 u51 u52 u53 u54 u55 u56 u57 u58 u59 u60 u61 u62 u63 u64 u65 u66 u67 u68 u69 u70 u71 u72 u73 u74 u75 u76 u77 u78 u80 u81 u82 u83 u84 u85 u86 u87 u88 u89 u90 u91 u92 u93 u94 u95 u96 u97 u98 u99 u100 u101 u102 u103 u104 u105 u106 u107 u108 u109 u110 u111 u112 u113 u114 u115 u116 u117 u118 u119 u120 u121 u122 u123 u124 u125 u126 u127 u128 u129 u130 u131 u132 u133 u134 u135 u136 u137 u138 u139 u140 u141 u142 u143 u144 u145 u146 u147 u148 u149 u150 u151 u152 u153 u154 u155 u156 u157 u158 u159 u160 u161 u162 u163 u164 u165 u166 u167 u168 u169 u170 u171 u172 u173 u174 u175 u176 u177 u178 u179 u180 u181 u182 u183 u184 u185 u186 u187 u188 u189 u190 u191 u192 u193 u194 u195 u196 u197 u198 u199 u200 u201 u202 u203 u204 u205 u206 u207 u208 u209 u210 u211 u212 u213 u214 u215 u216 u217 u218 u219 u220 u221 u222 u223 u224 u225 u226 u227 u228 u229 u230 u231 u232 u233 u234 u235 u236 u237 u238 u239 u240 u241 u242 u243 u244 u245 u246 u247 u248 u249 u250 u251 u252 u253 u254 u255 u256 u257 u258 u259 u260 u261 u262 u263 u264 u265 u266 u267 u268 u269 u270 u271;revert A n c hcut hbb hss hg hb hs hres fr1 hsz;revert w w1 wc g go L kk bb ss b s;exact hP.down)
theorem Am3:genB.1:=by
 conv=>whnf
 intro w w1 L g b s go kk bb ss wc n c A hres fr1 hsz hg hb hs hbb hss hcut u5 u6 u7 u8 u9 u10 u11 u12 u13 u14 u15 u16 u17 u18 u19 u20 u21 u22 u23 u24 u25 u26 u27 u28 u29 u30 u31 u32 u33 u34 u35 u36 u37 u38 u39 u40 u41 u42 u43 u44 u45 u46 u47 u48 u49 u50 u51 u52 u53 u54 u55 u56 u57 u58 u59 u60 u61 u62 u63 u64 u65 u66 u67 u68 u69 u70 u71 u72 u73 u74 u75 u76 u77 u78 u80 u81 u82 u83 u84 u85 u86 u87 u88 u89 u90 u91 u92 u93 u94 u95 u96 u97 u98 u99 u100 u101 u102 u103 u104 u105 u106 u107 u108 u109 u110 u111 u112 u113 u114 u115 u116 u117 u118 u119 u120 u121 u122 u123 u124 u125 u126 u127 u128 u129 u130 u131 u132 u133 u134 u135 u136 u137 u138 u139 u140 u141 u142 u143 u144 u145 u146 u147 u148 u149 u150 u151 u152 u153 u154 u155 u156 u157 u158 u159 u160 u161 u162 u163 u164 u165 u166 u167 u168 u169 u170 u171 u172 u173 u174 u175 u176 u177 u178 u179 u180 u181 u182 u183 u184 u185 u186 u187 u188 u189 u190 u191 u192 u193 u194 u195 u196 u197 u198 u199 u200 u201 u202 u203 u204 u205 u206 u207 u208 u209 u210 u211 u212 u213 u214 u215 u216 u217 u218 u219 u220 u221 u222 u223 u224 u225 u226 u227 u228 u229 u230 u231 u232 u233 u234 u235 u236 u237 u238 u239 u240 u241 u242 u243 u244 u245 u246 u247 u248 u249 u250 u251 u252 u253 u254 u255 u256 u257 u258 u259 u260 u261 u262 u263 u264 u265 u266 u267 u268 u269 u270 u271;have hi:(zp.info? 44).map (·.size)=some 27:=by kernel_rfl
 obtain ⟨i,x,gs,xb,xs,xchk,xr,xs0⟩:=hcut;generalize wc=W7 at*;have hres7:=hres.fr gs.fr zq;have hone:x.cells.all (·.oneCell')=true:=by unfold OpL.cells;simp [Value.oneCell']
 have fin:Hid (∀wz,Fr (One w.heap.size) W7 wz->Hr L w (.returned (.agg x.cells)) wz):=by
  intro wz hf;have hlo:=gs.lo;have hw:=fr1.size;refine ⟨x,rfl,?_,?_,xchk,xr,xs0,((gs.own.keep hf ((Types.one hres7).mono (fun t e=> .inl e))).lower (by omega)),(fr1.trans gs.fr zr).trans hf (fun k hk e=>absurd hk (by have e':k=w.heap.size:=e;omega))⟩
  · rw [xb,hb.out,hbb.out]
  · rw [xs,hs.out,hss.out]
 clear xb xs xchk xr xs0 hb hbb hs hss;have blk7:=gs.blk;clear gs
 as_aux_lemma=>
 have tok1:True:=trivial
 go_wp2_with (first
  |(have _t:=tok1;refine Jq rfl 44 (.tmp 4) rfl rfl blk7 underlying44 rfl hi ?_;clear tok1 _t)
  |(refine Ei rfl 44 (.tmp 2) (.tmp 271) rfl rfl rfl rfl hres7 hi rfl hone ?_;have hfz:=(Fr.refl (One w.heap.size) W7).setRow (g:=w.heap.size) (fun _=>rfl) x.cells;have hz2:=hres7.setRow (cs:=x.cells);generalize W7.setRow w.heap.size x.cells=wz at hfz hz2 ⊢;(repeat (first|go_values|go_skip|go_guarded|go_step));exact C8 (t:=44) rfl rfl hz2 rfl underlying44 (by kernel_rfl) rfl (fin.out wz hfz)))
theorem Am4 (B0 n c:Nat) (A:Option Addr) (l:List Int) (w:World) (hn:Hid (l.length=n)) (hr:Rd w B0 1 A n (l.map Iv)) (hc:n<=c) (hc':c<=9223372036854775807) (hok:Hid (∀x∈l,I64 x)):
  Calls zp 14 #[.slice A n c] w (Hr (l.take 60) w):=
 genA.2 ⟨genB.2 ⟨Am3⟩⟩ B0 n c A l w hn hr hc hc' hok
end Oq
end
namespace Oq
theorem RowAt.lt {w:World} {base size n c:Nat} {t:TypeId} {A:Option Addr} {xs:List Value} (h:RowAt w base t size A n c xs) (h0:n≠0) {k:Nat} (hk:Ab A=some k):base<=k/\k<w.heap.size:=by
 rcases h.2 with h1|⟨k',cs,fr,e,hb,hh,_⟩
 · exact absurd h1 h0
 ·
  subst e;have e':k'=k:=by have h2:some k'=some k:=hk;exact Option.some.inj h2
  subst e';exact ⟨hb,(Array.getElem?_eq_some_iff.1 hh).1⟩
theorem RowAt.over {S:Nat->Prop} {w w':World} {base size n c:Nat} {t:TypeId} {A:Option Addr} {xs:List Value} (h:RowAt w base t size A n c xs) (hf:Fr S w w') (hS:∀k,base<=k->¬S k):RowAt w' base t size A n c xs:=
 h.fr hf (fun h0 k hk=>hS k (h.lt h0 hk).1)
theorem OpL.own.over {S:Nat->Prop} {w w':World} {base:Nat} {x:OpL} (h:x.own w base) (hf:Fr S w w') (hS:∀k,base<=k->¬S k):x.own w' base where
 past:=h.past.over hf hS
 path:=h.path.over hf hS
 nodes y hy:=(h.nodes y hy).over hf hS
 body:=h.body.over hf hS
 refs:=h.refs.over hf hS
 guards:=h.guards.over hf hS
 boxes:=h.boxes.over hf hS
 hist:=h.hist.over hf hS
 seals y hy:=(h.seals y hy).over hf hS
theorem GAt.over {S:Nat->Prop} {w w':World} {base:Nat} {g:Gph} (h:GAt w base g) (hf:Fr S w w') (hS:∀k,base<=k->¬S k):GAt w' base g where
 blk:=h.blk.fr hf (hS _ h.gbase)
 pos:=h.pos
 gbase:=h.gbase
 mbase:=h.mbase
 crow:=h.crow.fr hf (fun k hk=>hS k (h.crow.row k hk).1)
 own:=h.own.fr hf (fun k hk=>hS k (h.own.row k hk).1)
 few:=h.few
 mfew:=h.mfew
 levs:=h.levs
 cfew:=h.cfew
 cok:=h.cok
 map:=h.map.fr hf (hS _ h.mbase)
 node:=fun n hn=>by
  have k:=h.node n hn;exact ⟨k.own.over hf hS,k.ok,k.id,k.set⟩
def RgAt (w:World) (b o:Nat) (l:List Value):Prop:=World.rangeAt w b o l
theorem RgAt.fr {S:Nat->Prop} {w w':World} {b o:Nat} {l:List Value} (h:RgAt w b o l) (hf:Fr S w w') (hb:¬S b):RgAt w' b o l:=fun k v hv=>hf.cell (h k v hv) hb
end Oq
end Go.Proofs.YtihfebhfgliojaaGreatDoor
