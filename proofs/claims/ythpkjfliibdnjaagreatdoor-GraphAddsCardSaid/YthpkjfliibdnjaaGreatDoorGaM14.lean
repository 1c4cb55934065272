/-
  Contracts of the functions that the claim's statement reaches, walked one by one (part 14).
  Conditions: as each theorem says.
-/
import Derived.Test.YthpkjfliibdnjaaGreatDoorGaM1
import Derived.Test.YthpkjfliibdnjaaGreatDoorGaM3
import Derived.Test.YthpkjfliibdnjaaGreatDoorGaM6
import Derived.Test.YthpkjfliibdnjaaGreatDoorGaM9
import Derived.Test.YthpkjfliibdnjaaGreatDoorGaM10
import Derived.Test.YthpkjfliibdnjaaGreatDoorGaM12
import Derived.Test.YthpkjfliibdnjaaGreatDoorGaM13
import Derived.Test.YthpkjfliibdnjaaGreatDoorGaM19
set_option maxRecDepth 100000
set_option maxHeartbeats 16000000
open Bool renaming not_eq_true→Am9,eq_iff_iff→An1,not_false→An2,not_true→An3,or_false→An5,true_and→An7,and_eq_true→Ao2
open List renaming getElem?_eq_getElem→Am6,take_of_length_le→Am7,getElem?_map→Am8,mem_of_getElem?→An0,contains_iff_mem→An4,take_succ_cons→An9,getElem?_eq_none→Ao0,find?_append→Ao1
open Nat renaming lt_or_ge→An8
open Go.World renaming size_alloc→An6
namespace Go.Proofs.YthpkjfliibdnjaaGreatDoor
namespace Oq
theorem Af5 (x:OpL):x.bareR=x.op.bareB:=by
 rw [Qk];unfold OpL.bareR OpL.q1 OpL.q2 OpL.q3 OpL.q4 OpL.q5 OpL.q6 OpL.q7 OpL.q8;simp only [OpL.presB,Be];generalize (x.dev !=0)=a0;generalize (x.old !=0)=a1;generalize (x.mem !=0)=a2;generalize (x.role !=0)=a3;generalize decide (0<x.path.length)=a4;generalize (!Id.eq x.epoch Id.zero)=a5;generalize (x.n !=0)=a6;generalize decide (0<x.body.length)=a7;generalize decide (0<x.refs.length)=a8;generalize (!Id.eq x.of Id.zero)=a9;generalize decide (0<x.guards.length)=a10;generalize (x.need !=0)=a11;generalize (x.wait !=0)=a12;generalize decide (0<x.boxes.length)=a13;generalize ((x.pub:Int) !=0)=a14;have e15:((x.hist.length:Int)==0)=!decide (0<x.hist.length):=by rw [An1];simp
 rw [e15];generalize decide (0<x.hist.length)=a15;generalize Dz x.kind=kc;generalize Cm x.kind=ko;generalize (x.kind==1)=k1';generalize (x.kind==2)=k2;generalize (x.kind==3)=k3;generalize (x.kind==5)=k5;generalize (x.kind==6)=k6;generalize (x.kind==7)=k7;generalize (x.kind==9)=k9;generalize (x.kind==10)=k10;generalize (x.kind==11)=k11;generalize (x.kind==13)=k13;have r1:∀a b c d e:Bool,(!(a&& !b&& !c&& !d&& !e))=(!a||(b||c||d||e)):=by decide
 have r2:∀a b c d e f g:Bool,(!((a&& !b)||(c&& !d&& !e)||(f&& !g&& !e)))=((!a||b)&&((!c||(d||e))&&(!f||(g||e)))):=by decide
 have r3:∀a b:Bool,(!(a&& !b))=(!a||b):=by decide
 have r4:∀a b c d:Bool,(!(!a&&(b||c||d)))=((!b||a)&&((!c||a)&&(!d||a))):=by decide
 have r5:∀a b c d e:Bool,(!((a&& !b&& !c)||(d&& !e)))=((!a||(b||c))&&(!d||e)):=by decide
 have r7:∀a b c d e f:Bool,(!((a&& !b&& !c)||(d&& !b&& !e&& !f)))=((!a||(b||c))&&(!d||(b||e||f))):=by decide
 have r8:∀a b c:Bool,(!a||b||c)=(!a||(b||c)):=by decide
 rw [r1,r2,r3,r4,r5,r4,r7,r8]
 ac_rfl
end Oq
section
open Go.RowKit
attribute [local go_sem ↓] Go.wp_at_zero Go.wp_at_succ
namespace Oq
attribute [local go_sem] An2 An3
theorem Lt {l:List Nat} {k q:Nat} {x:Nat} (h:l[k]? =some x):(l.take (k+1)).contains q=((l.take k).contains q||decide (q=x)):=by
 rw [Dq h,An1,Bool.or_eq_true,An4,An4,List.mem_append,List.mem_singleton,decide_eq_true_eq]
theorem Af6 (B n c:Nat) (A:Option Addr) (l:List Nat) (x:Nat) (w:World) (hn:Hid (l.length=n)) (hr:Rd w B 1 A n (l.map Qv)) (hnm:n≤1000000):
  Calls Tryz.prog 70 #[.slice A n c,.int .i64 (x:Int)] w fun e w'=>e=.returned (.bool (l.contains x))∧w=w':=by
 go_enter Tryz.func70,Tryz.ntmps70;go_wp2
 go_loopw [5] (fun v wr=>∃k:Nat,v=.int .i64 (k:Int)∧k≤n∧Hid ((l.take k).contains x=false)∧w=wr) (fun v _=>n-(intOf v).toNat)
 case atStart=>exact ⟨0,rfl,by omega,rfl,rfl⟩
 case round=>
  obtain ⟨k,rfl,hk,hh,rfl⟩:=hrel
  by_cases hlt:k<n
  ·
   obtain ⟨y,hy⟩:∃y,l[k]? =some y:=⟨_,Am6 (by rw [hn.out];exact hlt)⟩;obtain ⟨b,off,u,rfl,hbB,hu,c0⟩:=hr.at hlt;rw [Am8,hy] at hu;injection hu with hu
   subst hu;have c0':w.cell? ⟨b,off+k,none⟩=some (.int .i64 (y:Int)):=c0;clear c0;have hsn:=Lib.hid (Lt (q:=x) hy);have i1:(0:Int)≤k:=by omega
   have i2:(k:Int)<n:=by omega
   have i3:(k:Int).toNat=k:=by omega
   by_cases he:y=x
   ·
    have hb:((y:Int)==(x:Int))=true:=Cx (by omega)
    have hfin:Hid (l.contains x=true):=by
     show _=_;rw [An4];exact he▸An0 hy
    clear hy;go_wp2
    go_ret
    exact ⟨by rw [hfin.out];rfl,rfl⟩
   ·
    have hb:((y:Int)==(x:Int))=false:=Cv (by omega)
    have hfin:Hid ((l.take (k+1)).contains x=false):=by
     show _=_;rw [hsn.out,hh.out,decide_eq_false (fun e=>he e.symm)];rfl
    clear hy;go_wp2;go_roundw
    case rel=>exact ⟨k+1,by go_num,by omega,hfin,by first|rfl|trivial⟩
    case measure=>first|(simp [intOf];done)|(simp [intOf];omega)
  ·
   obtain rfl:k=n:=by omega
   have hfin:Hid (l.contains x=false):=by have h:=hh.out;rw [Am7 (by rw [hn.out];omega)] at h;exact h
   go_wp2
   go_ret
   exact ⟨by rw [hfin.out];rfl,rfl⟩
def Cs (n:Nat) (s:Nat→Bool):List Value:=(Bo n s).map Value.bool
theorem Jc {n i:Nat} (s:Nat→Bool) (h:i<n):(Cs n s)[i]? =some (.bool (s i)):=by
 unfold Cs;rw [Am8,Ro h];rfl
theorem Af7 {n i:Nat} (s:Nat→Bool):(Cs n s).set i (.bool true)=Cs n (fun q=>s q||decide (q=i)):=by
 apply List.ext_getElem?;intro j
 by_cases hj:j<n
 ·
  rw [Jc _ hj,List.getElem?_set]
  split
  ·
   rename_i e;subst e;rw [if_pos (by simp [Cs,Gh];exact hj)];simp
  ·
   rename_i e;rw [Jc _ hj,decide_eq_false (fun h=>e h.symm),An5]
 · rw [Ao0 (by simp [Cs,Gh];omega),Ao0 (by simp [Cs,Gh];omega)]
theorem Af8 (n:Nat):Cs n (fun _=>false)=(madeCells (Value.bool false).cells (n*1)).toList:=by
 rw [Sa (Value.bool false).cells (.bool false) (n*1) (by decide) (fun i hi=>by have:i=0:=by {have:(Value.bool false).cells.size=1:=rfl;omega};subst this;rfl),Nat.mul_one];unfold Cs Bo;rw [List.map_map,List.eq_replicate_iff];exact ⟨by simp,fun b hb=>by obtain ⟨x,_,rfl⟩:=List.mem_map.1 hb;rfl⟩
theorem Jd:SlT Tryz.prog 81 4 (.bool false) 1 1:=⟨Tryz.underlying81,by kernel_rfl,rfl,by decide⟩
def Je (n:Nat) (s:Nat→Bool) (w:World) (e:Ending) (w':World):Prop:=
 ∃A c,e=.returned (.slice A n c)∧Own w' w.heap.size 4 1 A n c (Cs n s)∧Fr Non w w'
structure Ct (w wr:World) (CS:Array Value) (n:Nat) (s:Nat→Bool):Prop where
 bg:Blk wr w.heap.size 29 CS
 own:Own wr (w.heap.size+1) 4 1 (some ⟨w.heap.size+1,0,none⟩) n n (Cs n s)
 fr:Fr Non w wr
theorem Ct.set {w wr:World} {CS:Array Value} {n:Nat} {s:Nat→Bool} (h:Ct w wr CS n s) {i:Nat} (hi:i<n):
  w.heap.size+1<wr.heap.size∧wr.cell? ⟨w.heap.size+1,i,none⟩=some (.bool (s i))∧wr.frozen? ⟨w.heap.size+1,i,none⟩=false∧Ct w (wr.setCell ⟨w.heap.size+1,i,none⟩ (.bool true)) CS n (fun q=>s q||decide (q=i)):=by
 obtain ⟨g,e,_,h2,h3,h4,h5⟩:=h.own.setAt (j:=i) (by omega) (.bool true);injection e with e
 injection e with e
 subst e;exact ⟨h2,h3 _ (Jc s hi),h4,h.bg.far (p:=⟨_,_,_⟩) (fun e=>by have e':w.heap.size=w.heap.size+1:=e;omega) _,by rw [Af7] at h5;exact h5,h.fr.setNew (by omega) _ _⟩
theorem Ct.is {w wr:World} {CS:Array Value} {n:Nat} {s t:Nat→Bool} (h:Ct w wr CS n s) (e:∀q,s q=t q):Ct w wr CS n t:=by
 have:s=t:=funext e;subst this;exact h
theorem Ct.post {w wr:World} {CS:Array Value} {n:Nat} {s:Nat→Bool} (h:Ct w wr CS n s):Je n s w (.returned (.slice (some ⟨w.heap.size+1,0,none⟩) n n)) wr:=⟨_,_,rfl,h.own.lower (by omega),h.fr⟩
theorem Sf (base:Nat) (r:RG) (B n c:Nat) (A:Option Addr) (up:List Nat) (w:World) (h:r.own w base) (hn:Hid (up.length=n)) (hr:Rd w B 1 A n (up.map Qv)) (hnm:n≤1000000):
  Calls Tryz.prog 36 #[.agg r.cells,.slice A n c] w (Je r.l.length (C8 (De r.l) up r.l.length (fun _=>false)) w):=by
 have a9:=h.few;have bg:=Blk.new w 29 r.cells;have f0:Fr Non w (w.alloc (.cells r.cells 29)):=(Fr.refl Non w).alloc _;have bb:(w.alloc (.cells r.cells 29)).heap.size=w.heap.size+1:=An6 _ _;have g1:Hid (r.cells[1]? =some (.slice r.lA r.l.length r.lC)):=rfl;have g3:Hid (r.cells[3]? =some (.slice r.uA r.l.length r.uC)):=rfl;have ao:=Lib.hid (fun (x:Nat) (w':World) (hf:Fr Non w w')=>Af6 B n c A up x w' hn (hr.fr hf zr) hnm)
 have al:Hid (∀i,i<r.l.length→∃(us:List Nat) (A2:Option Addr) (c2 b ak:Nat),r.uA=some ⟨b,ak,none⟩∧w.cell? ⟨b,ak+i,none⟩=some (.slice A2 us.length c2)∧De r.l i=us∧us.length≤1000∧Rd w w.heap.size 1 A2 us.length (us.map Qv)∧∀q∈us,q<r.l.length):=by
  intro i hi;obtain ⟨x,b,ak,h1,h2,h3,_,h4⟩:=h.uAt (Am6 hi);have a5:=h.rows.ok i _ (Am6 hi);refine ⟨x.xs,x.A,x.c,b,ak,h3,h4,by rw [h1];exact Ll (Am6 hi),?_,h2.sl.rd,?_⟩
  ·
   rw [h1,Gi];exact (h.ok _ (List.getElem_mem hi)).1.past.1
  ·
   rw [h1];exact Lk a5.placed
 clear h hr;generalize De r.l=US at*;generalize r.l.length=N at*;generalize r.uA=UA at*;generalize r.uC=UC at*;generalize r.lA=LA at*;generalize r.lC=LC at*;generalize r.cells=CS at*;have c1:(w.alloc (.cells CS 29)).cell? ⟨w.heap.size,1,none⟩=some (.slice LA N LC):=(bg.cell 1).trans g1.out;go_enter Tryz.func36,Tryz.ntmps36;go_wp2_with (first|(refine Sb rfl (.tmp 10) 81 rfl Jd (n:=N) rfl rfl (by omega) (by omega) ?_;intro w1 aj au;have av:=bg.fr au zq;have be:=au.size;have c1:w1.cell? ⟨w.heap.size,1,none⟩=some (.slice LA N LC):=(av.cell 1).trans g1.out));have a3:Ct w w1 CS N (fun _=>false):=⟨av,by rw [Af8,← bb];exact aj,f0.trans au zr⟩;clear aj au av bg f0
 go_loopw [6] (fun v wr=>∃(k:Nat) (s:Nat→Bool),v=.int .i64 ((k:Int)-1)∧k≤N∧Hid (C8 US up k s=C8 US up N (fun _=>false))∧Ct w wr CS N s) (fun v _=>(intOf v+1).toNat)
 case atStart=>exact ⟨N,fun _=>false,by go_num,by omega,rfl,a3⟩
 case round=>
  obtain ⟨k,s,rfl,hk,ay,st⟩:=hrel;clear a3 c1
  rcases Nat.eq_zero_or_pos k with h0|h0
  ·
   subst h0;have ap:=st.post;have hs:s=C8 US up N (fun _=>false):=ay.out;rw [hs] at ap;have e0:((((0:Nat):Int))-1)= -1:=by omega
   rw [e0];go_wp2
   go_ret
   exact ap
  ·
   obtain ⟨i,rfl⟩:∃i,k=i+1:=⟨k-1,by omega⟩;have ei:(((i+1:Nat):Int)-1)=(i:Int):=by omega
   rw [ei];have i1:(0:Int)≤i:=by omega
   have i2:(i:Int)<N:=by omega
   have i3:(i:Int).toNat=i:=by omega
   obtain ⟨us,A2,c2,b,ak,rfl,cu,a2,a7,a0,a1⟩:=al.out i (by omega);have ab:Hid (C8 US up i (Dd US up i s)=C8 US up N (fun _=>false)):=ay.out;obtain ⟨hz,ci,fz,ar⟩:=st.set (i:=i) (by omega);obtain ⟨M,hM⟩:=Aa us.length;rw [hM.out] at a0 cu a7;have ag:∀q,C2 up i s q=(s q||(decide (q=i)&&up.contains i)):=fun q=>rfl;clear ay al
   by_cases hc:up.contains i=true
   ·
    have ac:Ct w (wr.setCell ⟨w.heap.size+1,i,none⟩ (.bool true)) CS N (C2 up i s):=ar.is (fun q=>by rw [ag,hc,Bool.and_true]);have aq:C2 up i s i=true:=by rw [ag,hc,decide_eq_true rfl];simp
    have c3:(wr.setCell ⟨w.heap.size+1,i,none⟩ (.bool true)).cell? ⟨w.heap.size+1,i,none⟩=some (.bool true):=by
     have:=(ac.set (i:=i) (by omega)).2.1;rwa [aq] at this
    have kh:=Lib.hid (ao.out i wr st.fr);rw [hc] at kh;have ae:=Lib.hid ac;clear ar ag ac;go_wp2_with (first|(go_at_call 70;(with_reducible refine (kh.out).mono ?_);rintro _ w5 ⟨rfl,rfl⟩));have ax:us.length=us.length:=rfl;go_wp2
    go_loopw [7] (fun v wi=>∃j:Nat,v=.int .i64 (j:Int)∧j≤M∧Ct w wi CS N (fun q=>C2 up i s q||(us.take j).contains q)) (fun v _=>M-(intOf v).toNat)
    case atStart=>exact ⟨0,rfl,by omega,ae.out.is (fun q=>by rw [List.take_zero];simp)⟩
    case round=>
     obtain ⟨j,rfl,hj,aa⟩:=hrel;have d3:=(aa.bg.cell 3).trans g3.out;have a4:=aa.fr.cell cu zq
     by_cases hjm:j<M
     ·
      obtain ⟨y,hy⟩:∃y,us[j]? =some y:=⟨_,Am6 (by rw [hM.out];exact hjm)⟩;have az:y<N:=a1 y (An0 hy);obtain ⟨b2,af,u,aw,a8,hu,cy⟩:=a0.at hjm;rw [Am8,hy] at hu;injection hu with hu
      subst hu;subst aw;have ba:wr.cell? ⟨b2,af+j,none⟩=some (.int .i64 (y:Int)):=aa.fr.cell cy zq;obtain ⟨bd,bc,a6,ac⟩:=aa.set (i:=y) az;have ad:Hid (Ct w (wr.setCell ⟨w.heap.size+1,y,none⟩ (.bool true)) CS N (fun q=>C2 up i s q||(us.take (j+1)).contains q)):=ac.is (fun q=>by rw [Lt hy,Bool.or_assoc]);clear hy ac cy;have j1:(0:Int)≤j:=by omega
      have j2:(j:Int)<M:=by omega
      have j3:(j:Int).toNat=j:=by omega
      have y1:(0:Int)≤y:=by omega
      have y2:(y:Int)<N:=by omega
      have y3:(y:Int).toNat=y:=by omega
      go_wp2;go_roundw
      case rel=>exact ⟨j+1,by go_num,by omega,ad.out⟩
      case measure=>first|(simp [intOf];done)|(simp [intOf];omega)
     ·
      obtain rfl:j=M:=by omega
      have ad:Hid (Ct w wr CS N (Dd US up i s)):=aa.is (fun q=>by rw [Am7 (by rw [hM.out];omega),← a2];unfold Dd;rw [aq,An7]);clear aa;go_wp2;go_roundw
      case rel=>exact ⟨i,Dd US up i s,by first|go_num|(congr 1;done)|(congr 1;omega),by omega,ab,ad.out⟩
      case measure=>first|(simp [intOf];done)|(simp [intOf];omega)
   ·
    have hc:=Am9 _▸hc;have ai:∀q,C2 up i s q=s q:=fun q=>by rw [ag,hc,Bool.and_false,An5]
    have kh:=Lib.hid (ao.out i wr st.fr);rw [hc] at kh
    by_cases ah:s i=true
    ·
     have aq:C2 up i s i=true:=by rw [ai];exact ah
     have ci:wr.cell? ⟨w.heap.size+1,i,none⟩=some (.bool true):=by rw [← ah];exact ci
     have ae:=Lib.hid (st.is (fun q=>(ai q).symm));clear ar ag ai;go_wp2_with (first|(go_at_call 70;(with_reducible refine (kh.out).mono ?_);rintro _ w5 ⟨rfl,rfl⟩));have ax:us.length=us.length:=rfl;go_wp2
     go_loopw [7] (fun v wi=>∃j:Nat,v=.int .i64 (j:Int)∧j≤M∧Ct w wi CS N (fun q=>C2 up i s q||(us.take j).contains q)) (fun v _=>M-(intOf v).toNat)
     case atStart=>exact ⟨0,rfl,by omega,ae.out.is (fun q=>by rw [List.take_zero];simp)⟩
     case round=>
      obtain ⟨j,rfl,hj,aa⟩:=hrel;have d3:=(aa.bg.cell 3).trans g3.out;have a4:=aa.fr.cell cu zq
      by_cases hjm:j<M
      ·
       obtain ⟨y,hy⟩:∃y,us[j]? =some y:=⟨_,Am6 (by rw [hM.out];exact hjm)⟩;have az:y<N:=a1 y (An0 hy);obtain ⟨b2,af,u,aw,a8,hu,cy⟩:=a0.at hjm;rw [Am8,hy] at hu;injection hu with hu
       subst hu;subst aw;have ba:wr.cell? ⟨b2,af+j,none⟩=some (.int .i64 (y:Int)):=aa.fr.cell cy zq;obtain ⟨bd,bc,a6,ac⟩:=aa.set (i:=y) az;have ad:Hid (Ct w (wr.setCell ⟨w.heap.size+1,y,none⟩ (.bool true)) CS N (fun q=>C2 up i s q||(us.take (j+1)).contains q)):=ac.is (fun q=>by rw [Lt hy,Bool.or_assoc]);clear hy ac cy;have j1:(0:Int)≤j:=by omega
       have j2:(j:Int)<M:=by omega
       have j3:(j:Int).toNat=j:=by omega
       have y1:(0:Int)≤y:=by omega
       have y2:(y:Int)<N:=by omega
       have y3:(y:Int).toNat=y:=by omega
       go_wp2;go_roundw
       case rel=>exact ⟨j+1,by go_num,by omega,ad.out⟩
       case measure=>first|(simp [intOf];done)|(simp [intOf];omega)
      ·
       obtain rfl:j=M:=by omega
       have ad:Hid (Ct w wr CS N (Dd US up i s)):=aa.is (fun q=>by rw [Am7 (by rw [hM.out];omega),← a2];unfold Dd;rw [aq,An7]);clear aa;go_wp2;go_roundw
       case rel=>exact ⟨i,Dd US up i s,by first|go_num|(congr 1;done)|(congr 1;omega),by omega,ab,ad.out⟩
       case measure=>first|(simp [intOf];done)|(simp [intOf];omega)
    ·
     have ah:=Am9 _▸ah;have ci:wr.cell? ⟨w.heap.size+1,i,none⟩=some (.bool false):=by rw [← ah];exact ci
     have ad:Hid (Ct w wr CS N (Dd US up i s)):=st.is (fun q=>by unfold Dd;rw [ai,ai,ah,Bool.false_and,An5]);clear ar ag ai st;go_wp2_with (first|(go_at_call 70;(with_reducible refine (kh.out).mono ?_);rintro _ w5 ⟨rfl,rfl⟩));go_roundw
     case rel=>exact ⟨i,Dd US up i s,by first|go_num|(congr 1;done)|(congr 1;omega),by omega,ab,ad.out⟩
     case measure=>first|(simp [intOf];done)|(simp [intOf];omega)
theorem Af9 (base:Nat) (r:RG) (x:OpL) (B c:Nat) (A:Option Addr) (p:Nat→Bool) (w:World) (h:r.own w base) (h1:1≤x.sq) (h2:x.sq≤9223372036854775807) (hr:Rd w B 1 A r.l.length (Cs r.l.length p)):
  Calls Tryz.prog 69 #[.agg r.cells,.agg x.cells,.slice A r.l.length c] w (Ad (!Ay r.l p x.op) w):=by
 have aq:=h.few;have bg:=(Blk.new w 29 r.cells).alloc (.cells x.cells 44);have bx:=Blk.new (w.alloc (.cells r.cells 29)) 44 x.cells;rw [An6] at bx;have f0:Fr Non w ((w.alloc (.cells r.cells 29)).alloc (.cells x.cells 44)):=((Fr.refl Non w).alloc _).alloc _;have g1:r.cells[1]? =some (.slice r.lA r.l.length r.lC):=rfl;have c1:=(bg.cell 1).trans g1;have x0:((w.alloc (.cells r.cells 29)).alloc (.cells x.cells 44)).cell? ⟨w.heap.size+1,0,none⟩=some (.int .i64 x.by_):=bx.cell 0;have x1:((w.alloc (.cells r.cells 29)).alloc (.cells x.cells 44)).cell? ⟨w.heap.size+1,1,none⟩=some (.int .i64 x.sq):=bx.cell 1
 have ak:Hid (∀k,k<r.l.length→∃(m:Pn) (b ao:Nat),r.l[k]? =some m∧r.lA=some ⟨b,ao,none⟩∧w.cell? ⟨b,ao+k*27,none⟩=some (.int .i64 m.o.by_)∧w.cell? ⟨b,ao+k*27+1,none⟩=some (.int .i64 m.o.sq)):=by
  intro k hk;obtain ⟨y,b,ao,_,h1,_,h3,_,h4⟩:=h.xAt (Am6 hk);refine ⟨_,b,ao,Am6 hk,h3,?_,?_⟩
  · rw [← h1];exact h4 0 (by omega) _ rfl
  · rw [← h1];exact h4 1 (by omega) _ rfl
 have aj:Hid (∀k m,r.l[k]? =some m→(m.o.by_==x.by_)=true→p k=true→x.sq≤m.o.sq→(!Ay r.l p x.op)=false):=fun k m hm hb hp hs=>by
  rw [Ac2 (o:=x.op) hm (beq_iff_eq.1 hb) hp hs];rfl
 have ad:Hid ((∀k m,k<r.l.length→r.l[k]? =some m→m.o.by_=x.by_→p k=true→m.o.sq<x.sq)→(!Ay r.l p x.op)=((x.sq==1)||Bu r.l p x.by_ x.sq r.l.length)):=fun hh=>by
  rw [Ac3 (o:=x.op) h1 (fun k m hm=>hh k m (List.getElem?_eq_some_iff.1 hm).1 hm),Bool.not_not];rfl
 have al:=hr;clear h g1 bg bx;generalize (!Ay r.l p x.op)=R at*;generalize r.l=l at*;generalize hN:l.length=N at*;generalize r.lA=LA at*;generalize r.lC=LC at*;generalize r.cells=CS at*;generalize x.cells=XS at*;generalize x.by_=d at*;generalize x.sq=sq at*;clear hr hN;have ew:IntKind.i64.wrap (sq-1)=sq-1:=IntWalk.i64_in _ (by omega);go_enter Tryz.func69,Tryz.ntmps69;go_wp2;generalize hw0:(w.alloc (.cells CS 29)).alloc (.cells XS 44)=w0 at*;clear hw0
 go_loopw [7,8] (fun o v wr=>∃(k:Nat) (ai:Bool),o=.bool ai∧v=.int .i64 (k:Int)∧k≤N∧Hid (∀(j:Nat) (m:Pn),j<k→l[j]? =some m→m.o.by_=d→p j=true→m.o.sq<sq)∧Hid (ai=Bu l p d sq k)∧Fr Non w0 wr) (fun _ v _=>N-(intOf v).toNat)
 case atStart=>exact ⟨0,false,rfl,rfl,by omega,fun j m hj=>absurd hj (Nat.not_lt_zero _),rfl,Fr.refl _ _⟩
 case round=>
  obtain ⟨k,ai,rfl,rfl,hk,aa,af,hf⟩:=hrel;have d1:=hf.cell c1 zq;have y0:=hf.cell x0 zq;have y1:=hf.cell x1 zq;have ah:Fr Non w wr:=f0.trans hf zr;clear c1 x0 x1
  by_cases hlt:k<N
  ·
   obtain ⟨m,b,ao,hm,rfl,m0,m1⟩:=ak.out k hlt;have m0:=ah.cell m0 zq;have m1:=ah.cell m1 zq;obtain ⟨b3,ap,u,rfl,ar,hu,cp⟩:=al.at hlt;rw [Jc p hlt] at hu;injection hu with hu
   subst hu;have cp:=ah.cell cp zq;have ab:=Lib.hid (Q9 (p:=p) (d:=d) (s:=sq) hm);have i1:(0:Int)≤k:=by omega
   have i2:(k:Int)<N:=by omega
   have i3:(k:Int).toNat=k:=by omega
   have ac:Hid ((m.o.by_=d→p k=true→m.o.sq<sq)→∀(j:Nat) (n:Pn),j<k+1→l[j]? =some n→n.o.by_=d→p j=true→n.o.sq<sq):=by
    intro hh j n hj hn
    rcases An8 j k with h1|h1
    · exact aa.out j n h1 hn
    ·
     have e:j=k:=by omega
     subst e;rw [hm] at hn;injection hn with hn
     subst hn;exact hh
   have ag:=Lib.hid (aj.out k m hm);clear hm ak aj aa
   by_cases hp:p k=true
   ·
    rw [hp] at cp
    by_cases hb:m.o.by_=d
    ·
     have f1:(m.o.by_ !=d)=false:=by simp [hb]
     by_cases hs:sq≤m.o.sq
     ·
      have hR:Hid (R=false):=ag.out (Cx hb) hp hs;have f2:decide (m.o.sq≥sq)=true:=decide_eq_true hs;have f3:decide (sq≤m.o.sq)=true:=decide_eq_true hs;clear ac ab af ag ad al;generalize m.o.by_=mb at*;generalize m.o.sq=ms at*;go_wp2
      go_quiet (fail)
      go_wp2
      go_quiet (fail)
      go_wp2
      go_ret
      exact ⟨by rw [hR.out];rfl,by first|exact ah.drewN _|exact (ah.drewN _).drewN _⟩
     ·
      have f2:decide (m.o.sq≥sq)=false:=decide_eq_false hs;have f3:decide (sq≤m.o.sq)=false:=decide_eq_false hs;have aa:=Lib.hid (ac.out (fun _ _=>Int.not_le.1 hs))
      have ae:Hid ((ai||(m.o.sq==sq-1))=Bu l p d sq (k+1)):=by
       show _=_;rw [ab.out,af.out,hp,Cx hb];rfl
      clear ac ab af ag ad al;generalize m.o.by_=mb at*;generalize m.o.sq=ms at*
      cases ai with
      |true=>
       go_wp2
       go_quiet (fail)
       go_wp2
       go_quiet (fail)
       go_wp2
       go_quiet (fail)
       go_wp2;go_roundw
       case rel=>exact ⟨k+1,_,rfl,by go_num,by omega,aa.out,ae,hf.drewN _⟩
       case measure=>first|(simp [intOf];done)|(simp [intOf];omega)
      |false=>
       generalize hq:(ms==sq-1)=q at*;go_wp2
       go_quiet (fail)
       go_wp2
       go_quiet (fail)
       go_wp2
       go_quiet (fail)
       go_wp2;go_roundw
       case rel=>exact ⟨k+1,_,rfl,by go_num,by omega,aa.out,ae,hf.drewN _⟩
       case measure=>first|(simp [intOf];done)|(simp [intOf];omega)
    ·
     have f1:(m.o.by_ !=d)=true:=by simp [hb]
     have aa:=Lib.hid (ac.out (fun h=>absurd h hb))
     have ae:Hid (ai=Bu l p d sq (k+1)):=by
      show _=_;rw [ab.out,af.out,Cv hb];simp
     clear ac ab af ag ad al;generalize m.o.by_=mb at*;generalize m.o.sq=ms at*;go_wp2
     go_quiet (fail)
     go_wp2;go_roundw
     case rel=>exact ⟨k+1,_,rfl,by go_num,by omega,aa.out,ae,hf.drewN _⟩
     case measure=>first|(simp [intOf];done)|(simp [intOf];omega)
   ·
    have hp:=Am9 _▸hp;rw [hp] at cp;have aa:=Lib.hid (ac.out (fun _ h=>absurd h (by rw [hp];simp)))
    have ae:Hid (ai=Bu l p d sq (k+1)):=by
     show _=_;rw [ab.out,af.out,hp];simp
    clear ac ab af ag ad al;generalize m.o.by_=mb at*;generalize m.o.sq=ms at*;go_wp2
    go_quiet (fail)
    go_wp2;go_roundw
    case rel=>exact ⟨k+1,_,rfl,by go_num,by omega,aa.out,ae,hf.drewN _⟩
    case measure=>first|(simp [intOf];done)|(simp [intOf];omega)
  ·
   obtain rfl:k=N:=by omega
   have hR:Hid (R=((sq==1)||ai)):=by
    show _=_;rw [af.out];exact ad.out aa.out
   clear ad aa af aj ak al
   by_cases hs:sq=1
   ·
    have f1:(sq==1)=true:=Cx hs;rw [f1] at hR;clear hs;go_wp2
    go_ret
    exact ⟨by rw [hR.out];rfl,ah⟩
   ·
    have f1:(sq==1)=false:=Cv hs;rw [f1] at hR;clear hs;go_wp2
    go_ret
    exact ⟨by rw [hR.out];rfl,ah⟩
theorem Ag0 (base:Nat) (r:RG) (d:Int) (w:World) (h:r.own w base):Calls Tryz.prog 67 #[.agg r.cells,.int .i64 d] w (Er ((Bj r.cards d).getD Cd.zero) (Bj r.cards d).isSome w):=by
 have hr:=h.cards.sl.rd;have hn:=h.cfew;have g0:r.cells[0]? =some (.slice r.cA r.cards.length r.cC):=rfl;have ab:Hid (Bj r.cards d=r.cards.find? (fun c=>c.d==d)):=rfl;generalize Bj r.cards d=R at*;clear h;generalize r.cells=CS at*;generalize r.cA=CA at*;generalize r.cC=CC at*;generalize hl:r.cards=l at*;clear hl;obtain ⟨n,ac⟩:=Aa l.length;rw [ac.out] at hr g0 hn;have f0:Fr Non w ((w.alloc (.cells CS 29)).alloc (.cells zC 95)):=((Fr.refl Non w).alloc _).alloc _;have bg:=(Blk.new w 29 CS).alloc (.cells zC 95);have b0:=Blk.new (w.alloc (.cells CS 29)) 95 zC;rw [An6] at b0;have c0:=(bg.cell 0).trans g0;replace hr:=hr.fr f0 zr;clear bg g0;go_enter Tryz.func67,Tryz.ntmps67;go_upto_region 1 with (fail)
 generalize (w.alloc (.cells CS 29)).alloc (.cells zC 95)=w0 at*;go_wp2_with (fail)
 go_loopw [5,6] (fun r v wr=>∃k:Nat,r=.bool false∧v=.int .i64 (k:Int)∧k≤n∧Hid ((l.take k).find? (fun c=>c.d==d)=none)∧Fr Non w0 wr) (fun _ v _=>n-(intOf v).toNat)
 case atStart=>exact ⟨0,rfl,rfl,by omega,rfl,Fr.refl _ _⟩
 case round=>
  obtain ⟨k,rfl,rfl,hk,hh,hf⟩:=hrel;have b1:=b0.fr hf zq;have f1:=f0.trans hf zr;replace c0:=hf.cell c0 zq
  by_cases hlt:k<n
  ·
   have i1:(0:Int)≤k:=by omega
   have i2:(k:Int)<n:=by omega
   have i3:(k:Int).toNat=k:=by omega
   obtain ⟨c,hc⟩:∃c,l[k]? =some c:=⟨_,Am6 (by rw [ac.out];exact hlt)⟩;obtain ⟨b,ad,hA,ah,aa⟩:=Ey (f:=Cd.cells) (fun _=>rfl) (by omega) (hr.fr hf zr) hc;have d0:wr.cell? ⟨b,ad+k*5,none⟩=some (.int .i64 c.d):=aa 0 (by omega) _ rfl;have d1:wr.cell? ⟨b,ad+k*5+1,none⟩=some (.int .i64 c.m):=aa 1 (by omega) _ rfl;have d2:wr.cell? ⟨b,ad+k*5+2,none⟩=some (.int .u64 (c.l:Int)):=aa 2 (by omega) _ rfl;have d3:wr.cell? ⟨b,ad+k*5+3,none⟩=some (.int .u64 (c.k:Int)):=aa 3 (by omega) _ rfl;have d4:wr.cell? ⟨b,ad+k*5+4,none⟩=some (.int .u64 (c.s:Int)):=aa 4 (by omega) _ rfl;clear aa ah;subst hA
   rcases zb (c.d==d) with hcd|hcd
   ·
    have hR:Hid (R=some c):=by
     show _=_;rw [ab.out,← List.take_append_drop k l,Ao1,hh.out,List.drop_eq_getElem_cons (by rw [ac.out];exact hlt)];rw [Am6 (by rw [ac.out];exact hlt)] at hc;rw [Option.some.inj hc];simp [hcd]
    have af:Hid (∀wz,Fr (One (w.heap.size+1)) wr wz→Er (R.getD Cd.zero) R.isSome w (.returned (.tuple #[.agg #[.int .i64 c.d,.int .i64 c.m,.int .u64 (c.l:Int),.int .u64 (c.k:Int),.int .u64 (c.s:Int)],.bool true])) wz):=by
     intro wz hz;refine ⟨?_,f1.trans hz (fun k hk e=>absurd hk (by have e':k=w.heap.size+1:=e;omega))⟩;rw [hR.out];rfl
    clear ab hc hh f1;generalize R.getD Cd.zero=RC at*;generalize R.isSome=RS at*;have e0:wr.cell? ⟨w.heap.size+1,0,none⟩=some (.int .i64 0):=b1.cell 0;have z0:wr.frozen? ⟨w.heap.size+1,0,none⟩=false:=b1.frozen 0;have e1:wr.cell? ⟨w.heap.size+1,1,none⟩=some (.int .i64 0):=b1.cell 1;have z1:wr.frozen? ⟨w.heap.size+1,1,none⟩=false:=b1.frozen 1;have e2:wr.cell? ⟨w.heap.size+1,2,none⟩=some (.int .u64 0):=b1.cell 2;have z2:wr.frozen? ⟨w.heap.size+1,2,none⟩=false:=b1.frozen 2;have e3:wr.cell? ⟨w.heap.size+1,3,none⟩=some (.int .u64 0):=b1.cell 3;have z3:wr.frozen? ⟨w.heap.size+1,3,none⟩=false:=b1.frozen 3;have e4:wr.cell? ⟨w.heap.size+1,4,none⟩=some (.int .u64 0):=b1.cell 4;have z4:wr.frozen? ⟨w.heap.size+1,4,none⟩=false:=b1.frozen 4;have ae:=(((((b1.set 0 (.int .i64 c.d)).set 1 (.int .i64 c.m)).set 2 (.int .u64 (c.l:Int))).set 3 (.int .u64 (c.k:Int))).set 4 (.int .u64 (c.s:Int)));have fz:=((((((Fr.refl (One (w.heap.size+1)) wr).setCell (p:=⟨w.heap.size+1,0,none⟩) (fun _=>rfl) (.int .i64 c.d)).setCell (p:=⟨w.heap.size+1,1,none⟩) (fun _=>rfl) (.int .i64 c.m)).setCell (p:=⟨w.heap.size+1,2,none⟩) (fun _=>rfl) (.int .u64 (c.l:Int))).setCell (p:=⟨w.heap.size+1,3,none⟩) (fun _=>rfl) (.int .u64 (c.k:Int))).setCell (p:=⟨w.heap.size+1,4,none⟩) (fun _=>rfl) (.int .u64 (c.s:Int)));clear b1;go_wp2_with (fail)
    (try simp only [Exit.inBlock,Exit.then])
    refine E0 (t:=95) rfl rfl ae rfl Tryz.underlying95 (by kernel_rfl) rfl ?_;exact af.out _ fz
   ·
    have ag:Hid ((l.take (k+1)).find? (fun c=>c.d==d)=none):=by
     show _=_;rw [List.take_add_one,Ao1,hh.out,hc];simp [hcd]
    clear ab hc hh b1;go_wp2_with (fail);go_roundw
    case rel=>exact ⟨k+1,rfl,by go_num,by omega,ag,hf⟩
    case measure=>simp [intOf];omega
  ·
   obtain rfl:n=k:=by omega
   have hR:Hid (R=none):=by
    show _=_;rw [ab.out];have h:=hh.out;rwa [Am7 (by rw [ac.out];omega)] at h
   have af:Hid (∀wz,Fr (One (w.heap.size+1)) wr wz→Er (R.getD Cd.zero) R.isSome w (.returned (.tuple #[.agg zC,.bool false])) wz):=by
    intro wz hz;refine ⟨?_,f1.trans hz (fun k hk e=>absurd hk (by have e':k=w.heap.size+1:=e;omega))⟩;rw [hR.out];rfl
   clear ab hh;generalize R.getD Cd.zero=RC at*;generalize R.isSome=RS at*;have e0:wr.cell? ⟨w.heap.size+1,0,none⟩=some (.int .i64 0):=b1.cell 0;have z0:wr.frozen? ⟨w.heap.size+1,0,none⟩=false:=b1.frozen 0;have e1:wr.cell? ⟨w.heap.size+1,1,none⟩=some (.int .i64 0):=b1.cell 1;have z1:wr.frozen? ⟨w.heap.size+1,1,none⟩=false:=b1.frozen 1;have e2:wr.cell? ⟨w.heap.size+1,2,none⟩=some (.int .u64 0):=b1.cell 2;have z2:wr.frozen? ⟨w.heap.size+1,2,none⟩=false:=b1.frozen 2;have e3:wr.cell? ⟨w.heap.size+1,3,none⟩=some (.int .u64 0):=b1.cell 3;have z3:wr.frozen? ⟨w.heap.size+1,3,none⟩=false:=b1.frozen 3;have e4:wr.cell? ⟨w.heap.size+1,4,none⟩=some (.int .u64 0):=b1.cell 4;have z4:wr.frozen? ⟨w.heap.size+1,4,none⟩=false:=b1.frozen 4;have ae:=(((((b1.set 0 (.int .i64 0)).set 1 (.int .i64 0)).set 2 (.int .u64 0)).set 3 (.int .u64 0)).set 4 (.int .u64 0));have fz:=((((((Fr.refl (One (w.heap.size+1)) wr).setCell (p:=⟨w.heap.size+1,0,none⟩) (fun _=>rfl) (.int .i64 0)).setCell (p:=⟨w.heap.size+1,1,none⟩) (fun _=>rfl) (.int .i64 0)).setCell (p:=⟨w.heap.size+1,2,none⟩) (fun _=>rfl) (.int .u64 0)).setCell (p:=⟨w.heap.size+1,3,none⟩) (fun _=>rfl) (.int .u64 0)).setCell (p:=⟨w.heap.size+1,4,none⟩) (fun _=>rfl) (.int .u64 0));go_wp2_with (fail)
   (try simp only [Exit.inBlock,Exit.then])
   refine E0 (t:=95) rfl rfl ae rfl Tryz.underlying95 (by kernel_rfl) rfl ?_;exact af.out _ fz
end Oq
def Sg.In (M pub R S:Int):Prop:=1≤pub∧pub≤M∧1≤R∧R≤M∧S<M
theorem Sg.in_ways (M pub R S:Int) (h:¬Sg.In M pub R S):pub<1∨(1≤pub∧M<pub)∨(1≤pub∧pub≤M∧R<1)∨(1≤pub∧pub≤M∧1≤R∧M<R)∨(1≤pub∧pub≤M∧1≤R∧R≤M∧M≤S):=by
 unfold Sg.In at h;omega
theorem Sg.check_in (pub R S:Nat) (bs:List UInt8) (h:Sg.In 2305843009213693950 pub R S):Sg.check pub bs R S=(Fd.pow 37 S==Fd.mul R (Fd.pow pub (Sg.e R pub bs))):=by
 obtain ⟨h1,h2,h3,h4,h5⟩:=h;have e1:Sg.within pub 1 2305843009213693950=true:=Sg.within_yes (lo:=1) (hi:=2305843009213693950) (by omega) (by omega);have e2:Sg.within R 1 2305843009213693950=true:=Sg.within_yes (lo:=1) (hi:=2305843009213693950) (by omega) (by omega);have e3:Sg.within S 0 2305843009213693949=true:=Sg.within_yes (lo:=0) (hi:=2305843009213693949) (by omega) (by omega);show (Sg.within pub 1 2305843009213693950&&Sg.within R 1 2305843009213693950&&Sg.within S 0 2305843009213693949&&(Fd.pow 37 S==Fd.mul R (Fd.pow pub (Sg.e R pub bs))))=_;rw [e1,e2,e3];rfl
theorem Sg.check_out (pub R S:Nat) (bs:List UInt8) (h:¬Sg.In 2305843009213693950 pub R S):Sg.check pub bs R S=false:=by
 show (Sg.within pub 1 2305843009213693950&&Sg.within R 1 2305843009213693950&&Sg.within S 0 2305843009213693949&&(Fd.pow 37 S==Fd.mul R (Fd.pow pub (Sg.e R pub bs))))=false
 by_cases e1:Sg.within pub 1 2305843009213693950=true
 ·
  by_cases e2:Sg.within R 1 2305843009213693950=true
  ·
   by_cases e3:Sg.within S 0 2305843009213693949=true
   ·
    exfalso;apply h;unfold Sg.within at e1 e2 e3;simp only [Ao2,decide_eq_true_eq] at e1 e2 e3;exact ⟨e1.1,e1.2,e2.1,e2.2,Int.lt_of_le_of_lt e3.2 (by decide)⟩
   · simp only [Am9] at e3;rw [e3];simp
  · simp only [Am9] at e2;rw [e2];simp
 · simp only [Am9] at e1;rw [e1];simp
theorem Ag1 (pub R S n c:Nat) (A:Option Addr) (w:World) (hway:¬Sg.In 2305843009213693950 pub R S):
  Calls Tryz.prog 68 #[.int .u64 (pub:Int),.slice A n c,Ec R S] w (Ad false w):=by
 unfold Ec;have hb0:=Blk.new w 42 #[.int .u64 (R:Int),.int .u64 (S:Int)];have hf0:Fr Non w (w.alloc (.cells #[.int .u64 (R:Int),.int .u64 (S:Int)] 42)):=(Fr.refl _ _).alloc _;have c0:=hb0.cell 0;have c1:=hb0.cell 1;have hord:(∀w,Calls Tryz.prog 105 #[] w fun e w'=>e=.returned (.int .u64 2305843009213693950)∧w'=w):=fun w=>(Ia w).mono fun _ _ h=>⟨h.1,h.2.symm⟩;have hway:=Sg.in_ways _ _ _ _ hway
 rcases hway with t1|⟨t1,t2⟩|⟨t1,t2,t3⟩|⟨t1,t2,t3,t4⟩|⟨t1,t2,t3,t4,t5⟩
 all_goals
  go_enter Tryz.func68,Tryz.ntmps68;generalize (2305843009213693950:Int)=M at*;have hord':=Lib.hid hord;clear hord;go_wp2
  go_quiet (first|(go_at_call 105;exact Calls.quiet_of_same (hord'.out _)))
  go_wp2
  go_ret
  exact ⟨rfl,hf0.drewN _⟩
theorem Ag2 (pub R S B n c:Nat) (A:Option Addr) (bs:List UInt8) (w:World) (hp:pub<18446744073709551616) (hR:R<18446744073709551616) (hS:S<18446744073709551616) (hlen:Hid (bs.length=n)) (hn:n≤1099511627775) (hB:B≤w.heap.size) (hr:Rd w B 1 A n (bs.map Bv)) (hin:Sg.In 2305843009213693950 pub R S):
  Calls Tryz.prog 68 #[.int .u64 (pub:Int),.slice A n c,Ec R S] w (Ad (Sg.check pub bs R S) w):=by
 unfold Ec;have ah:=Blk.new w 42 #[.int .u64 (R:Int),.int .u64 (S:Int)];have ar:Fr Non w (w.alloc (.cells #[.int .u64 (R:Int),.int .u64 (S:Int)] 42)):=(Fr.refl _ _).alloc _;have c0:=ah.cell 0;have c1:=ah.cell 1;have ao:=hr.alloc (.cells #[.int .u64 (R:Int),.int .u64 (S:Int)] 42);have aw:B≤(w.alloc (.cells #[.int .u64 (R:Int),.int .u64 (S:Int)] 42)).heap.size:=by simp;omega
 have ae:(∀w,Calls Tryz.prog 105 #[] w fun e w'=>e=.returned (.int .u64 2305843009213693950)∧w'=w):=fun w=>(Ia w).mono fun _ _ h=>⟨h.1,h.2.symm⟩;have aa:=Lib.hid (Sg.check_in pub R S bs hin);obtain ⟨t1,t2,t3,t4,t5⟩:=hin;go_enter Tryz.func68,Tryz.ntmps68;generalize (2305843009213693950:Int)=M at*;have ad:=Lib.hid ae;clear ae;go_wp2
 go_quiet (first|(go_at_call 105;exact Calls.quiet_of_same (ad.out _)))
 have le:=Sg.e_lt R pub bs;have al:=Lib.hid (fun B w hB hr=>Oy R pub B n c A bs w hR hp hlen hn hB hr);obtain ⟨E,hE⟩:=Aa (Sg.e R pub bs);rw [hE.out] at le aa al;have p1:Hid (∀w,Calls Tryz.prog 98 #[.int .u64 37,.int .u64 (S:Int)] w (Ce (Fd.pow 37 S) w)):=fun w=>(Gt 37 S w (by omega) hS).mono fun _ _ ⟨h,k,e⟩=>⟨h,by rw [e];exact (Fr.refl _ _).drewN _⟩;have p2:Hid (∀w,Calls Tryz.prog 98 #[.int .u64 (pub:Int),.int .u64 (E:Int)] w (Ce (Fd.pow pub E) w)):=fun w=>(Gt pub E w hp (by omega)).mono fun _ _ ⟨h,k,e⟩=>⟨h,by rw [e];exact (Fr.refl _ _).drewN _⟩;have lq:=Fd.pow_lt pub E;obtain ⟨q,hq⟩:=Aa (Fd.pow pub E);obtain ⟨t,ht⟩:=Aa (Fd.pow 37 S);rw [hq.out] at p2 lq aa;rw [ht.out] at p1 aa;have p3:Hid (∀w,Calls Tryz.prog 110 #[.int .u64 (R:Int),.int .u64 (q:Int)] w (Ce (Fd.mul R q) w)):=fun w=>(H8 R q w hR (by omega)).mono fun _ _ ⟨h,k,e⟩=>⟨h,by rw [e];exact (Fr.refl _ _).drewN _⟩;obtain ⟨v,hv⟩:=Aa (Fd.mul R q);rw [hv.out] at p3 aa;have aq:=ah.drewN nq;have au:=ao.drewN nq;have ap:=ar.drewN nq;have av:=Nat.le_trans aw (Nat.le_of_eq (show (w.alloc (.cells #[.int .u64 (R:Int),.int .u64 (S:Int)] 42)).heap.size=((w.alloc (.cells #[.int .u64 (R:Int),.int .u64 (S:Int)] 42)).drewN nq).heap.size from rfl));generalize (w.alloc (.cells #[.int .u64 (R:Int),.int .u64 (S:Int)] 42)).drewN nq=w1 at*;have ab:Blk w1.drew w.heap.size 42 #[.int .u64 (R:Int),.int .u64 (S:Int)]:=aq;have d0:=ab.cell 0;have d1:=ab.cell 1;have ag:Rd w1.drew B 1 A n (bs.map Bv):=au;have ai:B≤w1.drew.heap.size:=av;clear c0 c1;go_wp2_with (fail)
 go_region_held3 (fun w'=>w'.cell? ⟨w.heap.size,0,none⟩=some (.int .u64 (R:Int))∧w'.cell? ⟨w.heap.size,1,none⟩=some (.int .u64 (S:Int))) (go_keep) (first
  |(go_at_call 98;(with_reducible refine (p1.out _).mono ?_);rintro _ w2 ⟨rfl,ac⟩;have g0:=ac.cell d0 zq;have g1:=ac.cell d1 zq)
  |(go_at_call 104;(with_reducible refine (al.out B _ (Nat.le_trans ai ac.size) (ag.fr ac zr)).mono ?_);rintro _ w3 ⟨rfl,ak⟩;have ga:=ak.cell g0 zq;have gb:=ak.cell g1 zq)
  |(go_at_call 98;(with_reducible refine (p2.out _).mono ?_);rintro _ w4 ⟨rfl,af⟩;have gc:=af.cell ga zq;have gd:=af.cell gb zq)
  |(go_at_call 110;(with_reducible refine (p3.out _).mono ?_);rintro _ w5 ⟨rfl,aj⟩;have ge:=aj.cell gc zq;have gf:=aj.cell gd zq))
 go_wp2
 go_ret
 refine ⟨congrArg (fun z=>Ending.returned (.bool z)) ?_,(((ap.drew.trans ac zr).trans ak zr).trans af zr).trans aj zr⟩;rw [aa.out,An1];simp only [beq_iff_eq];exact Int.ofNat_inj
set_option linter.unusedVariables false in
theorem Ag3 (pub R S B n c:Nat) (A:Option Addr) (bs:List UInt8) (w:World) (hp:pub<18446744073709551616) (hR:R<18446744073709551616) (hS:S<18446744073709551616) (hlen:Hid (bs.length=n)) (hnc:n≤c) (hn:n≤1099511627775) (hB:B≤w.heap.size) (hr:Rd w B 1 A n (bs.map Bv)):
  Calls Tryz.prog 68 #[.int .u64 (pub:Int),.slice A n c,Ec R S] w (Ad (Sg.check pub bs R S) w):=by
 by_cases h:Sg.In 2305843009213693950 pub R S
 · exact Ag2 pub R S B n c A bs w hp hR hS hlen hn hB hr h
 ·
  rw [Sg.check_out _ _ _ _ h];exact Ag1 pub R S n c A w h
namespace Oq
attribute [local go_sem] An2 An3
theorem Ag4 (x:OpL) (w:World) (hat:x.at w w.heap.size) (hok:x.op.ok):Calls Tryz.prog 109 #[.agg x.cells] w (Ad x.op.longB w):=by
 have af:=Blk.new w 44 x.cells;have f0:Fr Non w (w.alloc (.cells x.cells 44)):=(Fr.refl Non w).alloc _;have c2:(w.alloc (.cells x.cells 44)).cell? ⟨w.heap.size,2,none⟩=some (.int .i64 x.kind):=af.cell 2;have c4:(w.alloc (.cells x.cells 44)).cell? ⟨w.heap.size,4,none⟩=some (.slice x.pastA x.past.length x.pastC):=af.cell 4;have c9:(w.alloc (.cells x.cells 44)).cell? ⟨w.heap.size,9,none⟩=some (.slice x.pathA x.path.length x.pathC):=af.cell 9;have a1:(w.alloc (.cells x.cells 44)).cell? ⟨w.heap.size,14,none⟩=some (.slice x.bodyA x.body.length x.bodyC):=af.cell 14;have a3:(w.alloc (.cells x.cells 44)).cell? ⟨w.heap.size,15,none⟩=some (.slice x.refsA x.refs.length x.refsC):=af.cell 15;have a4:(w.alloc (.cells x.cells 44)).cell? ⟨w.heap.size,19,none⟩=some (.slice x.guardsA x.guards.length x.guardsC):=af.cell 19;have a2:(w.alloc (.cells x.cells 44)).cell? ⟨w.heap.size,22,none⟩=some (.slice x.boxesA x.boxes.length x.boxesC):=af.cell 22;have ar:(w.alloc (.cells x.cells 44)).cell? ⟨w.heap.size,24,none⟩=some (.slice x.histA x.hist.length x.histC):=af.cell 24;have ag:x.path.length≤1000000:=by have h:=hok.path.1;rw [show x.op.path=x.path.map NdL.nd from rfl,List.length_map] at h;omega
 have ah:x.hist.length≤1000000:=by have h:=hok.hist.1;rw [show x.op.hist=x.hist.map SlL.sl from rfl,List.length_map] at h;omega
 have rp:=hat.path.1.fr f0 zr;have rh:=hat.hist.1.fr f0 zr;have aq:=Lib.hid (fun w'=>Ge x.body.length 1 20 w');have av:=Lib.hid (fun w'=>Ge x.boxes.length 1 6 w');have aa:=Lib.hid (Qn x);generalize x.op.longB=LB at*;generalize inR (x.body.length:Int) 1 20=i7 at*;generalize inR (x.boxes.length:Int) 1 6=i10 at*;obtain ⟨n2,ao⟩:=Aa x.path.length;obtain ⟨n5,ap⟩:=Aa x.hist.length;rw [ao.out] at rp ag c9 aa;rw [ap.out] at rh ah ar aa;generalize x.past.length=n1 at*;generalize x.body.length=n3 at*;generalize x.refs.length=n4 at*;generalize x.guards.length=n6 at*;generalize x.boxes.length=n7 at*;generalize x.kind=kd at*;generalize x.cells=CS at*;clear af hat hok;go_enter Tryz.func109,Tryz.ntmps109;go_upto_region 1 with (fail)
 generalize w.alloc (.cells CS 44)=w0 at*;go_wp2
 go_loopw [3] (fun v wr=>∃k:Nat,v=.int .i64 (k:Int)∧k≤n2∧Hid (((x.path.take k).all fun y=>decide (y.xs.length≤12))=true)∧w0=wr) (fun v _=>n2-(intOf v).toNat)
 case atStart=>exact ⟨0,rfl,by omega,rfl,rfl⟩
 case round=>
  obtain ⟨k,rfl,hk,hh,rfl⟩:=hrel
  by_cases hlt:k<n2
  ·
   have i1:(0:Int)≤k:=by omega
   have i2:(k:Int)<n2:=by omega
   have i3:(k:Int).toNat=k:=by omega
   obtain ⟨y,hy⟩:∃y,x.path[k]? =some y:=⟨_,Am6 (by rw [ao.out];exact hlt)⟩;obtain ⟨b,a0,hA,az,k0,k1⟩:=NdL.el rp hy;rw [hA] at c9;have ae:=An0 hy;have ai:Hid (((x.path.take (k+1)).all fun y=>decide (y.xs.length≤12))=(((x.path.take k).all fun y=>decide (y.xs.length≤12))&&decide (y.xs.length≤12))):=E5 x.path (fun y=>decide (y.xs.length≤12)) hy;have ak:Hid (decide (y.xs.length≤12)=false→(x.path.all fun y=>decide (y.xs.length≤12))=false):=fun h=>List.all_eq_false.2 ⟨y,ae,by rw [h];simp⟩;clear hy ae
   rcases An8 12 y.xs.length with h|h
   ·
    have t:decide ((12:Int)<(y.xs.length:Int))=true:=decide_eq_true (by omega);have hv:Hid (true=LB):=by show _=_;rw [aa.out,ak.out (decide_eq_false (by omega))];simp
    clear aa ak ai h;go_wp2
    go_ret
    exact ⟨congrArg (fun z=>Ending.returned (.bool z)) hv.out,f0⟩
   ·
    have t:decide ((12:Int)<(y.xs.length:Int))=false:=decide_eq_false (by omega);have aj:Hid (((x.path.take (k+1)).all fun y=>decide (y.xs.length≤12))=true):=by show _=_;rw [ai.out,hh.out,decide_eq_true h];rfl
    clear ak ai h;go_wp2;go_roundw
    case rel=>exact ⟨k+1,by go_num,by omega,aj,by first|rfl|trivial⟩
    case measure=>simp [intOf];omega
  ·
   obtain rfl:n2=k:=by omega
   have au:(x.path.all fun y=>decide (y.xs.length≤12))=true:=by have h:=hh.out;rw [Am7 (by rw [ao.out];omega)] at h;exact h
   have ac:=aa.out;rw [au] at ac;have ab:=Lib.hid ac;clear aa ac au hh rp ag hlt ao;go_wp2
   go_loopw [4] (fun v wr=>∃k:Nat,v=.int .i64 (k:Int)∧k≤n5∧Hid (((x.hist.take k).all fun y=>decide (y.y.length≤208))=true)∧w0=wr) (fun v _=>n5-(intOf v).toNat)
   case atStart=>exact ⟨0,rfl,by omega,rfl,rfl⟩
   case round=>
    obtain ⟨k,rfl,hk,hh,rfl⟩:=hrel
    by_cases hlt:k<n5
    ·
     have i1:(0:Int)≤k:=by omega
     have i2:(k:Int)<n5:=by omega
     have i3:(k:Int).toNat=k:=by omega
     obtain ⟨y,hy⟩:∃y,x.hist[k]? =some y:=⟨_,Am6 (by rw [ap.out];exact hlt)⟩;obtain ⟨b,a0,hA,az,k0,k1,k2,k3⟩:=SlL.el rh hy;rw [hA] at ar;have ae:=An0 hy;have ai:Hid (((x.hist.take (k+1)).all fun y=>decide (y.y.length≤208))=(((x.hist.take k).all fun y=>decide (y.y.length≤208))&&decide (y.y.length≤208))):=E5 x.hist (fun y=>decide (y.y.length≤208)) hy;have ak:Hid (decide (y.y.length≤208)=false→(x.hist.all fun y=>decide (y.y.length≤208))=false):=fun h=>List.all_eq_false.2 ⟨y,ae,by rw [h];simp⟩;clear hy ae
     rcases An8 208 y.y.length with h|h
     ·
      have t:decide ((208:Int)<(y.y.length:Int))=true:=decide_eq_true (by omega);have hv:Hid (true=LB):=by show _=_;rw [ab.out,ak.out (decide_eq_false (by omega))];simp
      clear ab ak ai h;go_wp2
      go_ret
      exact ⟨congrArg (fun z=>Ending.returned (.bool z)) hv.out,f0⟩
     ·
      have t:decide ((208:Int)<(y.y.length:Int))=false:=decide_eq_false (by omega);have aj:Hid (((x.hist.take (k+1)).all fun y=>decide (y.y.length≤208))=true):=by show _=_;rw [ai.out,hh.out,decide_eq_true h];rfl
      clear ak ai h;go_wp2;go_roundw
      case rel=>exact ⟨k+1,by go_num,by omega,aj,by first|rfl|trivial⟩
      case measure=>simp [intOf];omega
    ·
     obtain rfl:n5=k:=by omega
     have aw:(x.hist.all fun y=>decide (y.y.length≤208))=true:=by have h:=hh.out;rw [Am7 (by rw [ap.out];omega)] at h;exact h
     have ad:=ab.out;rw [aw] at ad;have aa:=Lib.hid ad;clear ab ad aw hh rh ah hlt ap
     rcases zb (decide ((12:Int)<n1)) with h1|h1
     ·
      have hv:Hid (true=LB):=by show _=_;rw [aa.out];simp [h1]
      clear aa;go_wp2
      go_ret
      exact ⟨congrArg (fun z=>Ending.returned (.bool z)) hv.out,f0⟩
     rcases zb (decide ((5:Int)<n2)) with h2|h2
     ·
      have hv:Hid (true=LB):=by show _=_;rw [aa.out];simp [h1,h2]
      clear aa;go_wp2
      go_ret
      exact ⟨congrArg (fun z=>Ending.returned (.bool z)) hv.out,f0⟩
     rcases zb (decide ((208:Int)<n3)) with h3|h3
     ·
      have hv:Hid (true=LB):=by show _=_;rw [aa.out];simp [h1,h2,h3]
      clear aa;go_wp2
      go_ret
      exact ⟨congrArg (fun z=>Ending.returned (.bool z)) hv.out,f0⟩
     rcases zb (decide ((8:Int)<n4)) with h4|h4
     ·
      have hv:Hid (true=LB):=by show _=_;rw [aa.out];simp [h1,h2,h3,h4]
      clear aa;go_wp2
      go_ret
      exact ⟨congrArg (fun z=>Ending.returned (.bool z)) hv.out,f0⟩
     rcases zb (decide ((20:Int)<n5)) with h5|h5
     ·
      have hv:Hid (true=LB):=by show _=_;rw [aa.out];simp [h1,h2,h3,h4,h5]
      clear aa;go_wp2
      go_ret
      exact ⟨congrArg (fun z=>Ending.returned (.bool z)) hv.out,f0⟩
     rcases zb (decide ((6:Int)<n6)) with h6|h6
     ·
      have hv:Hid (true=LB):=by show _=_;rw [aa.out];simp [h1,h2,h3,h4,h5,h6]
      clear aa;go_wp2
      go_ret
      exact ⟨congrArg (fun z=>Ending.returned (.bool z)) hv.out,f0⟩
     rcases zb (kd==7) with k7|k7
     ·
      have hv:Hid ((!i7)=LB):=by show _=_;have p:kd=7:=(by simpa using k7);rw [aa.out];simp [h1,h2,h3,h4,h5,h6,p]
      clear aa
      cases i7
      all_goals
       go_wp2_with (first
        |(go_at_call 163;(with_reducible refine (aq.out _).mono ?_);rintro _ v3 ⟨rfl,f3⟩;have al:=f0.trans f3 zr)
        |(go_at_call 163;(with_reducible refine (av.out _).mono ?_);rintro _ v3 ⟨rfl,f3⟩;have al:=f0.trans f3 zr))
       go_ret
       exact ⟨congrArg (fun z=>Ending.returned (.bool z)) hv.out,al⟩
     rcases zb (kd==9) with k9|k9
     ·
      have hv:Hid ((((n7:Int) !=n6))=LB):=by show _=_;have p:kd=9:=(by simpa using k9);rw [aa.out];simp [h1,h2,h3,h4,h5,h6,p]
      clear aa;go_wp2
      go_ret
      exact ⟨congrArg (fun z=>Ending.returned (.bool z)) hv.out,f0⟩
     rcases zb (kd==10) with k10|k10
     ·
      have hv:Hid ((!i10)=LB):=by show _=_;have p:kd=10:=(by simpa using k10);rw [aa.out];simp [h1,h2,h3,h4,h5,h6,p]
      clear aa
      cases i10
      all_goals
       go_wp2_with (first
        |(go_at_call 163;(with_reducible refine (aq.out _).mono ?_);rintro _ v3 ⟨rfl,f3⟩;have al:=f0.trans f3 zr)
        |(go_at_call 163;(with_reducible refine (av.out _).mono ?_);rintro _ v3 ⟨rfl,f3⟩;have al:=f0.trans f3 zr))
       go_ret
       exact ⟨congrArg (fun z=>Ending.returned (.bool z)) hv.out,al⟩
     rcases zb (kd==11) with k11|k11
     ·
      have hv:Hid ((((n7:Int) !=1))=LB):=by show _=_;have p:kd=11:=(by simpa using k11);rw [aa.out];simp [h1,h2,h3,h4,h5,h6,p]
      clear aa;go_wp2
      go_ret
      exact ⟨congrArg (fun z=>Ending.returned (.bool z)) hv.out,f0⟩
     ·
      have hv:Hid ((false)=LB):=by show _=_;have q7:¬kd=7:=(by simpa using k7);have q9:¬kd=9:=(by simpa using k9);have ax:¬kd=10:=(by simpa using k10);have ay:¬kd=11:=(by simpa using k11);rw [aa.out];simp [h1,h2,h3,h4,h5,h6,q7,q9,ax,ay]
      clear aa;go_wp2
      go_ret
      exact ⟨congrArg (fun z=>Ending.returned (.bool z)) hv.out,f0⟩
end Oq
namespace Oq
attribute [local go_sem] An2 An3
attribute [local go_sem ↓] Ch
theorem Ag5 {α:Type} (r:α→α→Bool) (l:List α) (n:Nat) (h:An r l=true):An r (l.take n)=true:=by
 induction l generalizing n with
 |nil=>simp [An]
 |cons a t ih=>
  cases n with
  |zero=>rfl
  |succ n=>
   cases t with
   |nil=>cases n<;>rfl
   |cons b t=>
    have h2:(r a b&&An r (b::t))=true:=h;rw [Ao2] at h2
    cases n with
    |zero=>rfl
    |succ n=>
     have h3:=ih (n+1) h2.2;rw [An9] at h3;rw [An9,An9];show (r a b&&An r (b::t.take n))=true;rw [h2.1,h3];rfl
theorem Sh {α:Type} (r:α→α→Bool) (l:List α) {k:Nat} {x y:α} (hx:l[k]? =some x) (hy:l[k+1]? =some y) (h:r x y=false):An r l=false:=by
 cases hc:An r l with
 |false=>rfl
 |true=>
  have h1:=Ag5 r l (k+2) hc;rw [Gy r l hx hy,h,Bool.and_false] at h1
  cases h1
theorem Ag6 (x:OpL) (w:World) (hat:x.at w w.heap.size) (hok:x.op.ok):Calls Tryz.prog 66 #[.agg x.cells] w (Iu x.op.chk w):=by
 have a7:x.cells.size=27:=rfl;have a5:(Tryz.prog.info? 44).map (·.size)=some x.cells.size:=by rw [a7];kernel_rfl
 have ba:=Aq (P:=Tryz.prog) w.heap.size 44 Tryz.underlying44 rfl a5;have hb:=Blk.new w 44 x.cells;have fz:Fr Non w (w.alloc (.cells x.cells 44)):=(Fr.refl Non w).alloc _;have c2:(w.alloc (.cells x.cells 44)).cell? ⟨w.heap.size,2,none⟩=some (.int .i64 x.kind):=hb.cell 2;have c4:(w.alloc (.cells x.cells 44)).cell? ⟨w.heap.size,4,none⟩=some (.slice x.pastA x.past.length x.pastC):=hb.cell 4;have ad:(w.alloc (.cells x.cells 44)).cell? ⟨w.heap.size,19,none⟩=some (.slice x.guardsA x.guards.length x.guardsC):=hb.cell 19;have ah:x.guards.length≤1000000:=by have h:=hok.guards.1;rw [show x.op.guards=x.guards from rfl] at h;omega
 have av:x.past.length≤1000000:=by have h:=hok.past.1;rw [show x.op.past=x.past from rfl] at h;omega
 have ab:=hat.past.1.fr fz zr;have aa:=hat.guards.1.fr fz zr;have kb:=Lib.hid (fun (w':World)=>Zj x w');have kn:=Lib.hid (fun (w':World)=>Za x w');have ki:=Lib.hid (fun (w':World) (h:Fr Non w w')=>Y9 x w' ((hat.fr h zr).mono h.size) hok);have kl:=Lib.hid (fun (w':World) (h:Fr Non w w')=>Ag4 x w' ((hat.fr h zr).mono h.size) hok);rw [Af5] at kb;rw [Zg] at kn;rw [Zd] at ki;have ac:Hid (x.op.chk=if x.kind<1∨13<x.kind then 1 else if x.op.bareB=false then 1 else if x.op.numsB=false then 8 else if x.op.itemsB=false then 8 else if x.op.longB=true then 2 else if (An Id.less x.past&&An (fun a b=>decide (a<b)) x.guards)=false then 6 else if decide (x.past=[])≠decide (x.kind=1) then 10 else 0):=rfl;generalize x.op.chk=EC at*;clear hat hok a7 a5;have al:Hid (∀w',Calls Tryz.prog 106 #[.agg x.cells] w' (Ad x.op.bareB w')):=kb.out;have ao:Hid (∀w',Calls Tryz.prog 107 #[.agg x.cells] w' (Ad x.op.numsB w')):=kn.out;clear kb kn;generalize x.cells=CS at*;generalize x.op.bareB=bb at*;generalize x.op.numsB=nb at*;generalize x.op.itemsB=ib at*;generalize x.op.longB=lb at*;obtain ⟨kk,a6⟩:=Aa x.kind;rw [a6.out] at c2 ac;clear a6;obtain ⟨np,ag⟩:=Aa x.past.length;rw [ag.out] at ab av c4;obtain ⟨ng,ax⟩:=Aa x.guards.length;rw [ax.out] at aa ah ad
 rcases zb (decide (kk<1)) with k1|k1
 ·
  have hv:Hid (1=EC):=by show _=_;rw [ac.out,if_pos (Or.inl (of_decide_eq_true k1))]
  clear ac;go_enter Tryz.func66,Tryz.ntmps66;go_wp2_with (first|(go_at_call 106;(with_reducible refine (al.out _).mono ?_);rintro _ v ⟨rfl,f⟩;have fz:=fz.trans f zr;have hb:=hb.fr f zq;have c2:=f.cell c2 zq;have c4:=f.cell c4 zq;have ad:=f.cell ad zq;have ab:=ab.fr f zr;have aa:=aa.fr f zr)|(go_at_call 107;(with_reducible refine (ao.out _).mono ?_);rintro _ v ⟨rfl,f⟩;have fz:=fz.trans f zr;have hb:=hb.fr f zq;have c2:=f.cell c2 zq;have c4:=f.cell c4 zq;have ad:=f.cell ad zq;have ab:=ab.fr f zr;have aa:=aa.fr f zr)|(go_at_call 108;(with_reducible refine (ki.out _ fz).mono ?_);rintro _ v ⟨rfl,f⟩;have fz:=fz.trans f zr;have hb:=hb.fr f zq;have c2:=f.cell c2 zq;have c4:=f.cell c4 zq;have ad:=f.cell ad zq;have ab:=ab.fr f zr;have aa:=aa.fr f zr)|(go_at_call 109;(with_reducible refine (kl.out _ fz).mono ?_);rintro _ v ⟨rfl,f⟩;have fz:=fz.trans f zr;have hb:=hb.fr f zq;have c2:=f.cell c2 zq;have c4:=f.cell c4 zq;have ad:=f.cell ad zq;have ab:=ab.fr f zr;have aa:=aa.fr f zr))
  go_ret
  exact ⟨congrArg (fun z=>Ending.returned (.int .i64 z)) hv.out,fz⟩
 rcases zb (decide ((13:Int)<kk)) with k13|k13
 ·
  have hv:Hid (1=EC):=by show _=_;rw [ac.out,if_pos (Or.inr (of_decide_eq_true k13))]
  clear ac;go_enter Tryz.func66,Tryz.ntmps66;go_wp2_with (first|(go_at_call 106;(with_reducible refine (al.out _).mono ?_);rintro _ v ⟨rfl,f⟩;have fz:=fz.trans f zr;have hb:=hb.fr f zq;have c2:=f.cell c2 zq;have c4:=f.cell c4 zq;have ad:=f.cell ad zq;have ab:=ab.fr f zr;have aa:=aa.fr f zr)|(go_at_call 107;(with_reducible refine (ao.out _).mono ?_);rintro _ v ⟨rfl,f⟩;have fz:=fz.trans f zr;have hb:=hb.fr f zq;have c2:=f.cell c2 zq;have c4:=f.cell c4 zq;have ad:=f.cell ad zq;have ab:=ab.fr f zr;have aa:=aa.fr f zr)|(go_at_call 108;(with_reducible refine (ki.out _ fz).mono ?_);rintro _ v ⟨rfl,f⟩;have fz:=fz.trans f zr;have hb:=hb.fr f zq;have c2:=f.cell c2 zq;have c4:=f.cell c4 zq;have ad:=f.cell ad zq;have ab:=ab.fr f zr;have aa:=aa.fr f zr)|(go_at_call 109;(with_reducible refine (kl.out _ fz).mono ?_);rintro _ v ⟨rfl,f⟩;have fz:=fz.trans f zr;have hb:=hb.fr f zq;have c2:=f.cell c2 zq;have c4:=f.cell c4 zq;have ad:=f.cell ad zq;have ab:=ab.fr f zr;have aa:=aa.fr f zr))
  go_ret
  exact ⟨congrArg (fun z=>Ending.returned (.int .i64 z)) hv.out,fz⟩
 replace ac:Hid (EC=if bb=false then 1 else if nb=false then 8 else if ib=false then 8 else if lb=true then 2 else if (An Id.less x.past&&An (fun a b=>decide (a<b)) x.guards)=false then 6 else if decide (x.past=[])≠decide (kk=1) then 10 else 0):=by show _=_;rw [ac.out,if_neg (by have a:=of_decide_eq_false k1;have b:=of_decide_eq_false k13;omega)]
 cases bb
 ·
  have hv:Hid (1=EC):=ac.out.symm;clear ac;go_enter Tryz.func66,Tryz.ntmps66;go_wp2_with (first|(go_at_call 106;(with_reducible refine (al.out _).mono ?_);rintro _ v ⟨rfl,f⟩;have fz:=fz.trans f zr;have hb:=hb.fr f zq;have c2:=f.cell c2 zq;have c4:=f.cell c4 zq;have ad:=f.cell ad zq;have ab:=ab.fr f zr;have aa:=aa.fr f zr)|(go_at_call 107;(with_reducible refine (ao.out _).mono ?_);rintro _ v ⟨rfl,f⟩;have fz:=fz.trans f zr;have hb:=hb.fr f zq;have c2:=f.cell c2 zq;have c4:=f.cell c4 zq;have ad:=f.cell ad zq;have ab:=ab.fr f zr;have aa:=aa.fr f zr)|(go_at_call 108;(with_reducible refine (ki.out _ fz).mono ?_);rintro _ v ⟨rfl,f⟩;have fz:=fz.trans f zr;have hb:=hb.fr f zq;have c2:=f.cell c2 zq;have c4:=f.cell c4 zq;have ad:=f.cell ad zq;have ab:=ab.fr f zr;have aa:=aa.fr f zr)|(go_at_call 109;(with_reducible refine (kl.out _ fz).mono ?_);rintro _ v ⟨rfl,f⟩;have fz:=fz.trans f zr;have hb:=hb.fr f zq;have c2:=f.cell c2 zq;have c4:=f.cell c4 zq;have ad:=f.cell ad zq;have ab:=ab.fr f zr;have aa:=aa.fr f zr))
  go_ret
  exact ⟨congrArg (fun z=>Ending.returned (.int .i64 z)) hv.out,fz⟩
 cases nb
 ·
  have hv:Hid (8=EC):=ac.out.symm;clear ac;go_enter Tryz.func66,Tryz.ntmps66;go_wp2_with (first|(go_at_call 106;(with_reducible refine (al.out _).mono ?_);rintro _ v ⟨rfl,f⟩;have fz:=fz.trans f zr;have hb:=hb.fr f zq;have c2:=f.cell c2 zq;have c4:=f.cell c4 zq;have ad:=f.cell ad zq;have ab:=ab.fr f zr;have aa:=aa.fr f zr)|(go_at_call 107;(with_reducible refine (ao.out _).mono ?_);rintro _ v ⟨rfl,f⟩;have fz:=fz.trans f zr;have hb:=hb.fr f zq;have c2:=f.cell c2 zq;have c4:=f.cell c4 zq;have ad:=f.cell ad zq;have ab:=ab.fr f zr;have aa:=aa.fr f zr)|(go_at_call 108;(with_reducible refine (ki.out _ fz).mono ?_);rintro _ v ⟨rfl,f⟩;have fz:=fz.trans f zr;have hb:=hb.fr f zq;have c2:=f.cell c2 zq;have c4:=f.cell c4 zq;have ad:=f.cell ad zq;have ab:=ab.fr f zr;have aa:=aa.fr f zr)|(go_at_call 109;(with_reducible refine (kl.out _ fz).mono ?_);rintro _ v ⟨rfl,f⟩;have fz:=fz.trans f zr;have hb:=hb.fr f zq;have c2:=f.cell c2 zq;have c4:=f.cell c4 zq;have ad:=f.cell ad zq;have ab:=ab.fr f zr;have aa:=aa.fr f zr))
  go_ret
  exact ⟨congrArg (fun z=>Ending.returned (.int .i64 z)) hv.out,fz⟩
 cases ib
 ·
  have hv:Hid (8=EC):=ac.out.symm;clear ac;go_enter Tryz.func66,Tryz.ntmps66;go_wp2_with (first|(go_at_call 106;(with_reducible refine (al.out _).mono ?_);rintro _ v ⟨rfl,f⟩;have fz:=fz.trans f zr;have hb:=hb.fr f zq;have c2:=f.cell c2 zq;have c4:=f.cell c4 zq;have ad:=f.cell ad zq;have ab:=ab.fr f zr;have aa:=aa.fr f zr)|(go_at_call 107;(with_reducible refine (ao.out _).mono ?_);rintro _ v ⟨rfl,f⟩;have fz:=fz.trans f zr;have hb:=hb.fr f zq;have c2:=f.cell c2 zq;have c4:=f.cell c4 zq;have ad:=f.cell ad zq;have ab:=ab.fr f zr;have aa:=aa.fr f zr)|(go_at_call 108;(with_reducible refine (ki.out _ fz).mono ?_);rintro _ v ⟨rfl,f⟩;have fz:=fz.trans f zr;have hb:=hb.fr f zq;have c2:=f.cell c2 zq;have c4:=f.cell c4 zq;have ad:=f.cell ad zq;have ab:=ab.fr f zr;have aa:=aa.fr f zr)|(go_at_call 109;(with_reducible refine (kl.out _ fz).mono ?_);rintro _ v ⟨rfl,f⟩;have fz:=fz.trans f zr;have hb:=hb.fr f zq;have c2:=f.cell c2 zq;have c4:=f.cell c4 zq;have ad:=f.cell ad zq;have ab:=ab.fr f zr;have aa:=aa.fr f zr))
  go_ret
  exact ⟨congrArg (fun z=>Ending.returned (.int .i64 z)) hv.out,fz⟩
 cases lb
 rotate_left
 ·
  have hv:Hid (2=EC):=ac.out.symm;clear ac;go_enter Tryz.func66,Tryz.ntmps66;go_wp2_with (first|(go_at_call 106;(with_reducible refine (al.out _).mono ?_);rintro _ v ⟨rfl,f⟩;have fz:=fz.trans f zr;have hb:=hb.fr f zq;have c2:=f.cell c2 zq;have c4:=f.cell c4 zq;have ad:=f.cell ad zq;have ab:=ab.fr f zr;have aa:=aa.fr f zr)|(go_at_call 107;(with_reducible refine (ao.out _).mono ?_);rintro _ v ⟨rfl,f⟩;have fz:=fz.trans f zr;have hb:=hb.fr f zq;have c2:=f.cell c2 zq;have c4:=f.cell c4 zq;have ad:=f.cell ad zq;have ab:=ab.fr f zr;have aa:=aa.fr f zr)|(go_at_call 108;(with_reducible refine (ki.out _ fz).mono ?_);rintro _ v ⟨rfl,f⟩;have fz:=fz.trans f zr;have hb:=hb.fr f zq;have c2:=f.cell c2 zq;have c4:=f.cell c4 zq;have ad:=f.cell ad zq;have ab:=ab.fr f zr;have aa:=aa.fr f zr)|(go_at_call 109;(with_reducible refine (kl.out _ fz).mono ?_);rintro _ v ⟨rfl,f⟩;have fz:=fz.trans f zr;have hb:=hb.fr f zq;have c2:=f.cell c2 zq;have c4:=f.cell c4 zq;have ad:=f.cell ad zq;have ab:=ab.fr f zr;have aa:=aa.fr f zr))
  go_ret
  exact ⟨congrArg (fun z=>Ending.returned (.int .i64 z)) hv.out,fz⟩
 replace ac:Hid (EC=if (An Id.less x.past&&An (fun a b=>decide (a<b)) x.guards)=false then 6 else if decide (x.past=[])≠decide (kk=1) then 10 else 0):=ac;go_enter Tryz.func66,Tryz.ntmps66;go_wp2_with (first|(go_at_call 106;(with_reducible refine (al.out _).mono ?_);rintro _ v ⟨rfl,f⟩;have fz:=fz.trans f zr;have hb:=hb.fr f zq;have c2:=f.cell c2 zq;have c4:=f.cell c4 zq;have ad:=f.cell ad zq;have ab:=ab.fr f zr;have aa:=aa.fr f zr)|(go_at_call 107;(with_reducible refine (ao.out _).mono ?_);rintro _ v ⟨rfl,f⟩;have fz:=fz.trans f zr;have hb:=hb.fr f zq;have c2:=f.cell c2 zq;have c4:=f.cell c4 zq;have ad:=f.cell ad zq;have ab:=ab.fr f zr;have aa:=aa.fr f zr)|(go_at_call 108;(with_reducible refine (ki.out _ fz).mono ?_);rintro _ v ⟨rfl,f⟩;have fz:=fz.trans f zr;have hb:=hb.fr f zq;have c2:=f.cell c2 zq;have c4:=f.cell c4 zq;have ad:=f.cell ad zq;have ab:=ab.fr f zr;have aa:=aa.fr f zr)|(go_at_call 109;(with_reducible refine (kl.out _ fz).mono ?_);rintro _ v ⟨rfl,f⟩;have fz:=fz.trans f zr;have hb:=hb.fr f zq;have c2:=f.cell c2 zq;have c4:=f.cell c4 zq;have ad:=f.cell ad zq;have ab:=ab.fr f zr;have aa:=aa.fr f zr));generalize hgv:v=v1 at*
 go_loopw [3] (fun v wr=>∃(i:Nat),v=.int .i64 ((i:Int)+1)∧Hid (An Id.less (x.past.take (i+1))=true)∧(i=0∨i+1≤np)∧Fr Non v1 wr) (fun v _=>np+1-(intOf v).toNat)
 case atStart=>exact ⟨0,rfl,Iw _ _,Or.inl rfl,Fr.refl _ _⟩
 case round=>
  obtain ⟨i,rfl,ay,hi,hf⟩:=hrel
  by_cases hlt:i+1<np
  ·
   have n1:(i:Int)+1<np:=by omega
   have n2:(0:Int)≤i:=by omega
   have n3:(i:Int)<np:=by omega
   have n4:(i:Int).toNat=i:=by omega
   have n5:IntKind.i64.wrap ((i:Int)+1)=(i:Int)+1:=IntWalk.i64_in _ (by omega);have n6:(0:Int)≤(i:Int)+1:=by omega
   have n8:((i:Int)+1).toNat=i+1:=by omega
   have n9:(i:Int)+1-1=i:=by omega
   have a8:IntKind.i64.wrap (i:Int)=(i:Int):=IntWalk.i64_in _ (by omega);obtain ⟨y,hy⟩:∃y,x.past[i]? =some y:=⟨_,Am6 (by rw [ag.out];omega)⟩;obtain ⟨z,hz⟩:∃z,x.past[i+1]? =some z:=⟨_,Am6 (by rw [ag.out];omega)⟩;obtain ⟨b,af,hA,a9,e0,e1,e2⟩:=Id.at (ab.fr hf zr) hy;obtain ⟨b',aj,ak,aq,g0,g1,g2⟩:=Id.at (ab.fr hf zr) hz;rw [hA] at ak;obtain ⟨rfl,rfl⟩:b=b'∧af=aj:=by cases ak;exact ⟨rfl,rfl⟩
   clear ak aq;have cc:=hf.cell c4 zq;rw [hA] at cc;have ar:Hid (An Id.less (x.past.take (i+2))=(An Id.less (x.past.take (i+1))&&Id.less y z)):=Gy Id.less x.past hy hz;have au:Hid (Id.less y z=false→An Id.less x.past=false):=Sh Id.less x.past hy hz;have ap:i+2≤np:=by omega
   have kL:=Lib.hid (fun w'=>Jw y z w');generalize Id.less y z=lyz at*;clear hy hz hi hlt hA;go_upto_region 12 with (fail)
   refine wp_region_held_drew (S:=(fun w'=>w'.cell? ⟨w.heap.size,4,none⟩=some (.slice (some ⟨b,af,none⟩) np x.pastC)∧w'.cell? ⟨b,af+i*3,none⟩=some (.int .i64 y.b)∧w'.cell? ⟨b,af+i*3+1,none⟩=some (.int .i64 y.s)∧w'.cell? ⟨b,af+i*3+2,none⟩=some (.int .u64 (y.u:Int))∧w'.cell? ⟨b,af+(i+1)*3,none⟩=some (.int .i64 z.b)∧w'.cell? ⟨b,af+(i+1)*3+1,none⟩=some (.int .i64 z.s)∧w'.cell? ⟨b,af+(i+1)*3+2,none⟩=some (.int .u64 (z.u:Int)))) (by kernel_rfl) ⟨cc,e0,e1,e2,g0,g1,g2⟩ (fun hHeld=> ?_);clear hHeld;have ae:(fun w'=>w'.cell? ⟨w.heap.size,4,none⟩=some (.slice (some ⟨b,af,none⟩) np x.pastC)∧w'.cell? ⟨b,af+i*3,none⟩=some (.int .i64 y.b)∧w'.cell? ⟨b,af+i*3+1,none⟩=some (.int .i64 y.s)∧w'.cell? ⟨b,af+i*3+2,none⟩=some (.int .u64 (y.u:Int))∧w'.cell? ⟨b,af+(i+1)*3,none⟩=some (.int .i64 z.b)∧w'.cell? ⟨b,af+(i+1)*3+1,none⟩=some (.int .i64 z.s)∧w'.cell? ⟨b,af+(i+1)*3+2,none⟩=some (.int .u64 (z.u:Int))) wr.drew:=⟨cc,e0,e1,e2,g0,g1,g2⟩;replace hf:=hf.drew;clear cc e0 e1 e2 g0 g1 g2;generalize wr.drew=wq at*;refine tkH 0 ae (h:=tkH 1 ae (h:=tkH 2 ae (h:=tkH 3 ae (h:=tkH 4 ae (h:=tkH 5 ae (h:=tkH 6 ae (h:=tkH 7 ae (h:=tkH 8 ae (h:=tkH 9 ae (h:=tkH 10 ae (h:=?_)))))))))));simp only [List.set];refine oG 11 (fun K hK=> ?_);go_simp;go_wp2_with (go_at_call 65;(with_reducible refine (kL.out _).mono ?_);rintro _ w3 ⟨rfl,f3⟩);have a0:(fun w'=>w'.cell? ⟨w.heap.size,4,none⟩=some (.slice (some ⟨b,af,none⟩) np x.pastC)∧w'.cell? ⟨b,af+i*3,none⟩=some (.int .i64 y.b)∧w'.cell? ⟨b,af+i*3+1,none⟩=some (.int .i64 y.s)∧w'.cell? ⟨b,af+i*3+2,none⟩=some (.int .u64 (y.u:Int))∧w'.cell? ⟨b,af+(i+1)*3,none⟩=some (.int .i64 z.b)∧w'.cell? ⟨b,af+(i+1)*3+1,none⟩=some (.int .i64 z.s)∧w'.cell? ⟨b,af+(i+1)*3+2,none⟩=some (.int .u64 (z.u:Int))) w3:=⟨f3.cell ae.1 zq,f3.cell ae.2.1 zq,f3.cell ae.2.2.1 zq,f3.cell ae.2.2.2.1 zq,f3.cell ae.2.2.2.2.1 zq,f3.cell ae.2.2.2.2.2.1 zq,f3.cell ae.2.2.2.2.2.2 zq⟩;refine hK.out _ _ a0 (fun _=> ?_);clear hK K;try simp only [Ab,List.set]
   replace hf:=hf.trans f3 zr
   cases lyz
   ·
    have hv:Hid (6=EC):=by show _=_;rw [ac.out,if_pos (by rw [au.out rfl];rfl)]
    clear ac au ar;refine tkH 12 a0 (h:=?_);simp only [List.set];refine oD ?_;go_simp;go_wp2_with (fail)
    go_ret
    exact ⟨congrArg (fun z=>Ending.returned (.int .i64 z)) hv.out,fz.trans hf zr⟩
   ·
    have a4:Hid (An Id.less (x.past.take (i+2))=true):=by show _=_;rw [ar.out,ay.out];rfl
    clear ay ar au;refine tkH 12 a0 (h:=?_);simp only [List.set];refine oD ?_;go_simp;go_wp2_with (fail);go_roundw
    case rel=>exact ⟨i+1,by first|rfl|go_num,a4,Or.inr ap,hf⟩
    case measure=>simp [intOf];omega
  ·
   have n1:¬((i:Int)+1<np):=by omega
   have aw:An Id.less x.past=true:=by have h:=ay.out;rw [Am7 (by rw [ag.out];omega)] at h;exact h
   replace ac:Hid (EC=if An (fun a b=>decide (a<b)) x.guards=false then 6 else if decide (x.past=[])≠decide (kk=1) then 10 else 0):=by show _=_;rw [ac.out,aw,An7]
   have a2:=hf.cell ad zq;have e4:=hf.cell c4 zq;have e2:=hf.cell c2 zq;replace aa:=aa.fr hf zr;replace fz:=fz.trans hf zr;clear ay aw ab hlt hi ad c4 c2 hf hb;generalize hgw:wr=v2 at*;go_wp2_with (fail)
   go_loopw [4] (fun v wr=>∃(i:Nat),v=.int .i64 ((i:Int)+1)∧Hid (An (fun a b=>decide (a<b)) (x.guards.take (i+1))=true)∧(i=0∨i+1≤ng)∧Fr Non v2 wr) (fun v _=>ng+1-(intOf v).toNat)
   case atStart=>exact ⟨0,rfl,Iw _ _,Or.inl rfl,Fr.refl _ _⟩
   case round=>
    obtain ⟨i,rfl,az,hi,hf⟩:=hrel
    by_cases hlt:i+1<ng
    ·
     have n1:(i:Int)+1<ng:=by omega
     have n2:(0:Int)≤i:=by omega
     have n3:(i:Int)<ng:=by omega
     have n4:(i:Int).toNat=i:=by omega
     have n5:IntKind.i64.wrap ((i:Int)+1)=(i:Int)+1:=IntWalk.i64_in _ (by omega);have n6:(0:Int)≤(i:Int)+1:=by omega
     have n8:((i:Int)+1).toNat=i+1:=by omega
     have n9:(i:Int)+1-1=i:=by omega
     have a8:IntKind.i64.wrap (i:Int)=(i:Int):=IntWalk.i64_in _ (by omega);obtain ⟨y,hy⟩:∃y,x.guards[i]? =some y:=⟨_,Am6 (by rw [ax.out];omega)⟩;obtain ⟨z,hz⟩:∃z,x.guards[i+1]? =some z:=⟨_,Am6 (by rw [ax.out];omega)⟩;obtain ⟨b,af,u,hA,a9,hu,e0⟩:=(aa.fr hf zr).at (show i<ng by omega);obtain ⟨b',aj,u',ak,aq,a3,g0⟩:=(aa.fr hf zr).at (show i+1<ng by omega);rw [Am8,hy] at hu;rw [Am8,hz] at a3;obtain rfl:=(Option.some.inj hu).symm;obtain rfl:=(Option.some.inj a3).symm;rw [hA] at ak;obtain ⟨rfl,rfl⟩:b=b'∧af=aj:=by cases ak;exact ⟨rfl,rfl⟩
     replace e0:wr.cell? ⟨b,af+i,none⟩=some (.int .i64 y):=e0;replace g0:wr.cell? ⟨b,af+(i+1),none⟩=some (.int .i64 z):=g0;clear ak aq hu a3;have cc:=hf.cell a2 zq;rw [hA] at cc;have ar:Hid (An (fun a b=>decide (a<b)) (x.guards.take (i+2))=(An (fun a b=>decide (a<b)) (x.guards.take (i+1))&&decide (y<z))):=Gy (fun (a b:Int)=>decide (a<b)) x.guards hy hz;have au:Hid (decide (y<z)=false→An (fun (a b:Int)=>decide (a<b)) x.guards=false):=Sh (fun (a b:Int)=>decide (a<b)) x.guards hy hz;have ap:i+2≤ng:=by omega
     clear hy hz hi hlt hA;go_upto_region 17 with (fail)
     refine wp_region_held_drew (S:=(fun w'=>w'.cell? ⟨w.heap.size,19,none⟩=some (.slice (some ⟨b,af,none⟩) ng x.guardsC)∧w'.cell? ⟨b,af+i,none⟩=some (.int .i64 y)∧w'.cell? ⟨b,af+(i+1),none⟩=some (.int .i64 z))) (by kernel_rfl) ⟨cc,e0,g0⟩ (fun hHeld=> ?_);clear hHeld;have ae:(fun w'=>w'.cell? ⟨w.heap.size,19,none⟩=some (.slice (some ⟨b,af,none⟩) ng x.guardsC)∧w'.cell? ⟨b,af+i,none⟩=some (.int .i64 y)∧w'.cell? ⟨b,af+(i+1),none⟩=some (.int .i64 z)) wr.drew:=⟨cc,e0,g0⟩;replace hf:=hf.drew;clear cc e0 g0;generalize wr.drew=wq at*
     by_cases t:y<z
     ·
      have a1:Hid (An (fun a b=>decide (a<b)) (x.guards.take (i+2))=true):=by show _=_;rw [ar.out,az.out,decide_eq_true t];rfl
      have t1:decide (z≤y)=false:=decide_eq_false (by omega);have t2:decide (y≥z)=false:=t1;clear az ar au t;refine tkH 0 ae (h:=tkH 1 ae (h:=tkH 2 ae (h:=tkH 3 ae (h:=tkH 4 ae (h:=tkH 5 ae (h:=tkH 6 ae (h:=tkH 7 ae (h:=tkH 8 ae (h:=tkH 9 ae (h:=tkH 10 ae (h:=tkH 11 ae (h:=?_))))))))))));simp only [List.set];refine oD ?_;go_simp;go_wp2_with (fail);go_roundw
      case rel=>exact ⟨i+1,by first|rfl|go_num,a1,Or.inr ap,hf⟩
      case measure=>simp [intOf];omega
     ·
      have hv:Hid (6=EC):=by show _=_;rw [ac.out,if_pos (by rw [au.out (decide_eq_false (by omega))])]
      have t1:decide (z≤y)=true:=decide_eq_true (by omega);have t2:decide (y≥z)=true:=t1;clear ac ar au t;refine tkH 0 ae (h:=tkH 1 ae (h:=tkH 2 ae (h:=tkH 3 ae (h:=tkH 4 ae (h:=tkH 5 ae (h:=tkH 6 ae (h:=tkH 7 ae (h:=tkH 8 ae (h:=tkH 9 ae (h:=tkH 10 ae (h:=tkH 11 ae (h:=?_))))))))))));simp only [List.set];refine oD ?_;go_simp;go_wp2_with (fail)
      go_ret
      exact ⟨congrArg (fun z=>Ending.returned (.int .i64 z)) hv.out,fz.trans hf zr⟩
    ·
     have n1:¬((i:Int)+1<ng):=by omega
     have aw:An (fun (a b:Int)=>decide (a<b)) x.guards=true:=by have h:=az.out;rw [Am7 (by rw [ax.out];omega)] at h;exact h
     replace ac:Hid (EC=if decide (x.past=[])≠decide (kk=1) then 10 else 0):=by show _=_;rw [ac.out,aw];rfl
     have c4:=hf.cell e4 zq;have c2:=hf.cell e2 zq;have bc:=hf.cell a2 zq;replace fz:=fz.trans hf zr;clear az aw aa hlt hi a2 e4 e2 hf;have ai:Hid (decide (x.past=[])=decide (np=0)):=by show _=_;rw [An1];simp only [decide_eq_true_eq];rw [← ag.out];exact List.length_eq_zero_iff.symm
     by_cases p0:np=0<;>by_cases q0:kk=1
     ·
      have b1:((np:Int)==0)=true:=Cx (by omega);have b2:(kk==1)=true:=Cx q0;have hv:Hid (0=EC):=by show _=_;rw [ac.out,ai.out,if_neg (by rw [decide_eq_true p0,decide_eq_true q0];decide)]
      clear ac ai p0 q0 ag;go_wp2_with (fail)
      go_ret
      exact ⟨congrArg (fun z=>Ending.returned (.int .i64 z)) hv.out,fz⟩
     ·
      have b1:((np:Int)==0)=true:=Cx (by omega);have b2:(kk==1)=false:=Cv q0;have hv:Hid (10=EC):=by show _=_;rw [ac.out,ai.out,if_pos (by rw [decide_eq_true p0,decide_eq_false q0];decide)]
      clear ac ai p0 q0 ag;go_wp2_with (fail)
      go_ret
      exact ⟨congrArg (fun z=>Ending.returned (.int .i64 z)) hv.out,fz⟩
     ·
      have b1:((np:Int)==0)=false:=Cv (by omega);have b2:(kk==1)=true:=Cx q0;have hv:Hid (10=EC):=by show _=_;rw [ac.out,ai.out,if_pos (by rw [decide_eq_false p0,decide_eq_true q0];decide)]
      clear ac ai p0 q0 ag;go_wp2_with (fail)
      go_ret
      exact ⟨congrArg (fun z=>Ending.returned (.int .i64 z)) hv.out,fz⟩
     ·
      have b1:((np:Int)==0)=false:=Cv (by omega);have b2:(kk==1)=false:=Cv q0;have hv:Hid (0=EC):=by show _=_;rw [ac.out,ai.out,if_neg (by rw [decide_eq_false p0,decide_eq_false q0];decide)]
      clear ac ai p0 q0 ag;go_wp2_with (fail)
      go_ret
      exact ⟨congrArg (fun z=>Ending.returned (.int .i64 z)) hv.out,fz⟩
end Oq
end
end Go.Proofs.YthpkjfliibdnjaaGreatDoor
