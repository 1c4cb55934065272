/-
  Contracts of the functions that the claim's statement reaches, walked one by one (part 13).
  Conditions: as each theorem says.
-/
import Derived.Great.BuildSlice
import Derived.Test.YtkanjaikgphjfaaGreatDoorFkM6
import Derived.Test.YtkanjaikgphjfaaGreatDoorFkM11
import Derived.Test.YtkanjaikgphjfaaGreatDoorFkM12
set_option maxRecDepth 100000
set_option maxHeartbeats 16000000
open List renaming length_append→Af9,getElem?_eq_getElem→Ag1,mem_of_getElem?→Ag2,find?_cons_of_neg→Ag4,not_mem_nil→Ag5,flatMap_append→Ag7,getElem?_map→Ag9,nil_append→Ah0,find?_cons_of_pos→Ah1,take_length→Ah2,length_filter_le→Ah3,length_take→Ah4,getElem_mem→Ah5
open Nat renaming le_trans→Af8,zero_add→Ag3,le_refl→Ag6,zero_le→Ag8
open Go.World renaming size_alloc→Ag0
namespace Go.Proofs.YtkanjaikgphjfaaGreatDoor
section
open Go.RowKit Go.Maps
attribute [local go_sem ↓] Go.wp_at_zero Go.wp_at_succ
namespace Oq
attribute [local go_sem] Bool.not_false Bool.not_true
theorem Lg (p v:Value):Instr.storeAt 41 p v=stS 41 p v:=rfl
theorem Rf (p v:Value):Instr.storeAt 36 p v=stS 36 p v:=rfl
attribute [local go_sem ↓] Lg Rf
theorem Gy:(Tryz.prog.info? 41).map (·.size)=some 3:=by kernel_rfl
theorem Lh:(Tryz.prog.info? 36).map (·.size)=some 2:=by kernel_rfl
theorem Gz (a b:Int) (u:Nat):(#[.int .i64 a,.int .i64 b,.int .u64 (u:Int)]:Array Value).all (·.oneCell')=true:=by simp [Value.oneCell']
theorem Li (a b:Int):(#[.int .i64 a,.int .i64 b]:Array Value).all (·.oneCell')=true:=by simp [Value.oneCell']
theorem slFk:SlT Tryz.prog 33 36 (.agg #[.int .i64 0,.int .i64 0]) 2 16:=⟨Tryz.underlying33,by kernel_rfl,rfl,by decide⟩
theorem Rg (base:Nat) (A:Option Addr) (c:Nat) (xs:List Id) (w:World) (hown:Own w base 41 3 A xs.length c (xs.flatMap Id.cells)) (hlen:xs.length≤1000000):
  Calls Tryz.prog 40 #[.slice A xs.length c] w fun e w'=>e=.returned (.slice A xs.length c)∧Own w' base 41 3 A xs.length c ((Ak xs).flatMap Id.cells)∧Fr (fun k=>Ab A=some k) w w':=by
 have k:=Lib.hid (Ac7 base A c xs w hown hlen);have hs:Hid (∀ys:List Id,ys.Perm xs→ys.Pairwise (fun x y=>Id.less y x=false)→ys=Ak xs):=fun ys h1 h2=>Na h2 h1;have hl:Hid ((Ak xs).length=xs.length):=(Cg xs).length_eq;generalize Ak xs=S at*;generalize xs.length=n at*;clear hown;go_enter Tryz.func40,Tryz.ntmps40;go_wp2_with (go_at_call 69;(with_reducible refine (k.out).mono ?_);rintro _ w1 ⟨rfl,ys,h1,h2,h3,h4⟩);have hy:=Lib.hid (hs.out ys h1 h2);rw [hy.out,hl.out] at h3
 go_ret
 exact ⟨rfl,h3,h4⟩
def Ea (ids:List Id) (d m n:Int) (k:Nat):List Id:=(ids.take k).filter (fun x=>x.b==d&&decide (m≤x.s)&&decide (x.s≤n))
theorem Ad2 {ids:List Id} {k:Nat} {x:Id} (h:ids[k]? =some x) (d m n:Int):Ea ids d m n (k+1)=Ea ids d m n k++(if (x.b==d&&decide (m≤x.s)&&decide (x.s≤n))=true then [x] else []):=by
 unfold Ea;rw [Co h,List.filter_append];congr 1
 by_cases hc:(x.b==d&&decide (m≤x.s)&&decide (x.s≤n))=true
 · rw [List.filter_cons_of_pos (p:=fun x:Id=>x.b==d&&decide (m≤x.s)&&decide (x.s≤n)) hc,if_pos hc];rfl
 · rw [List.filter_cons_of_neg (p:=fun x:Id=>x.b==d&&decide (m≤x.s)&&decide (x.s≤n)) hc,if_neg hc];rfl
theorem Rh (B n c:Nat) (A:Option Addr) (ids:List Id) (d m l:Int) (w:World) (hn:Hid (ids.length=n)) (hr:Rd w B 3 A n (ids.flatMap Id.cells)) (hnm:n≤1000):
  Calls Tryz.prog 39 #[.slice A n c,.int .i64 d,.int .i64 m,.int .i64 l] w (Fw (ofK ids d m l) w):=by
 have al:Hid (∀k x,ids[k]? =some x→Ea ids d m l (k+1)=Ea ids d m l k++(if (x.b==d&&decide (m≤x.s)&&decide (x.s≤l))=true then [x] else [])):=fun k x hx=>Ad2 hx d m l;have ap:Hid (∀k,(Ea ids d m l k).length≤k):=fun k=>Af8 (Ah3 _ _) (by rw [Ah4];omega);have ar:Hid (Ak (Ea ids d m l n)=ofK ids d m l):=by show _=_;rw [← hn.out];unfold Ea ofK;rw [Ah2]
 have av:Hid (Ea ids d m l 0=[]):=rfl;generalize ofK ids d m l=VA at*;generalize Ea ids d m l=VT at*;go_enter Tryz.func39,Tryz.ntmps39;go_wp2
 go_loopw [9,14] (fun s v wr=>∃(k:Nat) (Ax:Option Addr) (cx:Nat) (xs:List Id),v=.int .i64 (k:Int)∧s=.slice Ax xs.length cx∧k≤n∧Hid (xs=VT k)∧Own wr w.heap.size 41 3 Ax xs.length cx (xs.flatMap Id.cells)∧Fr Non w wr) (fun _ v _=>n-(intOf v).toNat)
 case atStart=>exact ⟨0,none,0,[],rfl,rfl,by omega,av.out.symm,Own.nil _ _ _ _,Fr.refl _ _⟩
 case round=>
  obtain ⟨k,Ax,cx,xs,rfl,rfl,hk,ag,aa,hf⟩:=hrel;have a1:xs.length≤k:=by rw [ag.out];exact ap.out k
  by_cases hlt:k<n
  ·
   obtain ⟨y,hy⟩:∃y,ids[k]? =some y:=⟨_,Ag1 (by rw [hn.out];exact hlt)⟩;obtain ⟨b,az,rfl,ay,k0,k1,k2⟩:=Id.at (hr.fr hf zr) hy;have i1:(0:Int)≤k:=by omega
   have i2:(k:Int)<n:=by omega
   have i3:(k:Int).toNat=k:=by omega
   have ab:=al.out k y hy;rw [← ag.out] at ab;have aj:=Bq (P:=Tryz.prog) wr.heap.size 41 (cs:=y.V) Gy (old:=#[.int .i64 0,.int .i64 0,.int .u64 0]) rfl (Gz _ _ _);have bn:=Blk.new wr 41 #[.int .i64 0,.int .i64 0,.int .u64 0];clear al hy;go_upto_region 5 with (fail)
   have bz:=bn.setRow (cs:=y.V);have fz:Fr Non wr ((wr.alloc (.cells #[.int .i64 0,.int .i64 0,.int .u64 0] 41)).setRow wr.heap.size y.V):=((Fr.refl Non wr).alloc _).setRow (fun hh=>absurd hh (by omega)) _;have ac:=aa.fr fz zr;have ad:=ac.row;have ae:=hf.trans fz zr;obtain ⟨gi,au⟩:=Aa wr.heap.size;rw [au.out] at bz ac ad ae ⊢;clear aj bn fz aa k0 k1 k2 hf;generalize (wr.alloc (.cells #[.int .i64 0,.int .i64 0,.int .u64 0] 41)).setRow gi y.V=w1 at*;have j0:=bz.cell 0;have j1:=bz.cell 1;have j2:=bz.cell 2;clear bz;obtain ⟨TT,ak⟩:=Aa (y.b==d&&decide (m≤y.s)&&decide (y.s≤l));rw [ak.out] at ab
   go_cut [33] from 18 to 33 (fun s wc=>w1=wc∧s=.bool TT)
   case first=>
    have hT:=ak.out
    rcases zb (y.b==d) with t1|t1
    ·
     rcases zb (decide (m≤y.s)) with t2|t2
     ·
      have ax:decide (y.s≥m)=true:=t2
      rcases zb (decide (y.s≤l)) with t3|t3
      all_goals
       rw [t1,t2,t3] at hT;go_wp2_with (fail);go_meet;exact ⟨rfl,by rw [← hT];rfl⟩
     ·
      have ax:decide (y.s≥m)=false:=t2;rw [t1,t2] at hT;go_wp2_with (fail);go_meet;exact ⟨rfl,by rw [← hT];rfl⟩
    ·
     rw [t1] at hT;go_wp2_with (fail);go_meet;exact ⟨rfl,by rw [← hT];rfl⟩
   case rest=>
   obtain ⟨rfl,rfl⟩:=hcut
   cases TT
   ·
    rw [if_neg Bool.false_ne_true,List.append_nil] at ab;replace ab:=Lib.hid ab;go_wp2_with (fail);go_roundw
    case rel=>exact ⟨k+1,Ax,cx,xs,by go_num,rfl,by omega,ab.out.symm,ac,ae⟩
    case measure=>simp [intOf];omega
   ·
    rw [if_pos rfl] at ab;replace ab:=Lib.hid ab;have bF:=Blk.new w1 41 y.V;have a0:=ae.size
    go_wp2_with (first
     |(at_builtin;go_loud (refine Au (base:=w.heap.size) (.tmp 34) (.tmp 36) 25 rfl rfl rfl rfl Ct (ac.alloc (.cells y.V 41)) (Rd.blk (n:=1) (size:=3) bF rfl) (by simp [Value.oneCell']) (by omega) (by omega) (by rw [Ag0];omega) ?_);intro A8 c8 w8 ah aq aw))
    have f8:Fr Non w w8:=(ae.alloc (.cells y.V 41)).trans aq (fun j hj e=>by have:=(ad j e).1;omega)
    have ai:Own w8 w.heap.size 41 3 A8 (xs++[y]).length c8 ((xs++[y]).flatMap Id.cells):=by
     rw [Af9,Ag7];exact ah
    go_roundw
    case rel=>exact ⟨k+1,A8,c8,xs++[y],by go_num,by rw [Af9];rfl,by omega,ab.out.symm,ai,f8⟩
    case measure=>simp [intOf];omega
  ·
   obtain rfl:k=n:=by omega
   have ad:=aa.row;have ks:=Lib.hid (Rg w.heap.size Ax cx xs wr aa (by omega));have af:Ak xs=VA:=by rw [ag.out,ar.out]
   have ao:Hid (xs.length=VA.length):=by show _=_;rw [← af,(Cg xs).length_eq]
   rw [af] at ks;unfold Fw;clear aa af;generalize xs.length=L at*;go_wp2_with (go_at_call 40;(with_reducible refine (ks.out).mono ?_);rintro _ w9 ⟨rfl,o9,f9⟩)
   go_ret
   exact ⟨Ax,cx,by rw [← ao.out];rfl,by rw [← ao.out];exact o9,hf.trans f9 (fun j hj e=>by have:=(ad j e).1;omega)⟩
def Iy (fs:List (Int × Int)) (w:World) (e:Ending) (w':World):Prop:=∃A c,e=.returned (.slice A fs.length c)∧Own w' w.heap.size 36 2 A fs.length c (fs.flatMap Cz)∧Fr Non w w'
def Eb (ids:List Id):Prop:=∀x∈ids,x.ok∧(1≤x.b∧x.b≤12)∧(1≤x.s∧x.s≤1000000)
def RF (f:Int→Option Int) (left:Lit→Bool) (xs:List (Int × Int)):Prop:=(xs.map Prod.fst).Nodup∧∀d i,(d,i)∈xs↔(f d=some i∧left (.int .i64 d)=false)
theorem RF.start {f:Int→Option Int} {left:Lit→Bool} (h:∀d,(f d).isSome=left (.int .i64 d)):RF f left []:=
 ⟨List.nodup_nil,fun d i=>⟨fun h=>absurd h Ag5,fun ⟨h1,h2⟩=>by rw [← h d,h1] at h2;cases h2⟩⟩
theorem RF.step {f:Int→Option Int} {left:Lit→Bool} {xs:List (Int × Int)} (h:RF f left xs) {x c:Int} (hx:f x=some c) (hl:left (.int .i64 x)=true):RF f (fun z=>left z&& !z.sameKey (.int .i64 x)) (xs++[(x,c)]):=by
 have hs:∀d:Int,(Lit.int .i64 d).sameKey (.int .i64 x)=decide (d=x):=by
  intro d
  by_cases e:d=x
  ·
   subst e;rw [decide_eq_true rfl];exact WideAt.sameKey_self (by simp [WideAt.IsKeyLit])
  ·
   rw [decide_eq_false e];exact sameKey_ne (fun e2=>e (by injection e2))
 refine ⟨?_,fun d i=> ?_⟩
 ·
  rw [List.map_append];refine List.nodup_append.2 ⟨h.1,by simp,fun a ha b hb=> ?_⟩;obtain rfl:=List.mem_singleton.1 (show b∈[x] from hb);rintro rfl;obtain ⟨⟨d,i⟩,h1,rfl⟩:=List.mem_map.1 ha;have:=((h.2 d i).1 h1).2;rw [hl] at this
  cases this
 ·
  rw [List.mem_append,h.2 d i];dsimp only;rw [hs d]
  by_cases e:d=x
  ·
   subst e;rw [hl,decide_eq_true rfl];constructor
   ·
    rintro (⟨_,h2⟩|h2)
    · cases h2
    ·
     have:=List.mem_singleton.1 h2;injection this with _ e2
     subst e2;exact ⟨hx,rfl⟩
   ·
    rintro ⟨h1,_⟩;rw [hx] at h1;injection h1 with h1
    subst h1;exact .inr (List.mem_singleton.2 rfl)
  ·
   rw [decide_eq_false e];constructor
   ·
    rintro (⟨h1,h2⟩|h2)
    · exact ⟨h1,by rw [h2];rfl⟩
    ·
     have:=List.mem_singleton.1 h2;injection this with e2 _
     exact absurd e2 e
   ·
    rintro ⟨h1,h2⟩;exact .inl ⟨h1,by simpa using h2⟩
theorem RF.done {f:Int→Option Int} {left:Lit→Bool} {xs:List (Int × Int)} (h:RF f left xs) (hl:∀kl,left kl=false):∀d i,(d,i)∈xs↔f d=some i:=fun d i=>by
 rw [h.2 d i,hl];exact ⟨fun h=>h.1,fun h=>⟨h,rfl⟩⟩
theorem RF.few {f:Int→Option Int} {left:Lit→Bool} {xs:List (Int × Int)} (h:RF f left xs) (hd:∀d i,f d=some i→1≤d∧d≤12):xs.length≤12:=by
 have hs:∀d∈xs.map Prod.fst,d∈(List.range 12).map (fun (i:Nat)=>(i:Int)+1):=by
  intro d hm;obtain ⟨⟨d',i⟩,h1,rfl⟩:=List.mem_map.1 hm;have h2:=hd d' i ((h.2 d' i).1 h1).1;exact List.mem_map.2 ⟨(d'-1).toNat,List.mem_range.2 (by omega),by omega⟩
 have:=Ei h.1 hs;simpa using this
theorem Ad3 {ids:List Id} (h:Eb ids):∀(k:Nat) (d i:Int),Bl ids k d=some i→1≤d∧d≤12∧1≤i∧i≤1000000:=by
 intro k
 induction k with
 |zero=>intro d i h;cases h
 |succ k ih=>
  intro d i h1
  cases hx:ids[k]? with
  |none=>
   unfold Bl at h1;rw [hx] at h1;exact ih d i h1
  |some x=>
   rw [K7 hx] at h1
   split at h1
   ·
    rename_i hc;injection h1 with h1
    have:=h x (Ag2 hx);rw [← hc.1,← h1];exact ⟨this.2.1.1,this.2.1.2,this.2.2.1,this.2.2.2⟩
   · exact ih d i h1
theorem Ad4 {H:Type} {S:Nat→Prop} {P:Program} {kt:TypeId} {R:Value→Option (DataW H × List MemPlace)} {w w':World} {b r n:Nat} {D:DataW H} {left:Lit→Bool} {cnt:Nat} (h:w.ranges P kt R b r n D left cnt) (hf:Fr S w w') (hb:¬S b) (hr:¬S r):w'.ranges P kt R b r n D left cnt:=by
 obtain ⟨es,clock,since,seen,c0,h1,q,hs,hD,h2,rest⟩:=h;exact ⟨es,clock,since,seen,c0,(hf.block b (Array.getElem?_eq_some_iff.1 h1).1 hb).trans h1,q,hs,hD,(hf.block r (Array.getElem?_eq_some_iff.1 h2).1 hr).trans h2,rest⟩
def Iz (b:Nat) (key v:Value) (w:World):Prop:=(Instr.lookup 84 (.map (some b)) key false).run Tryz.prog w=.ok v w
theorem Gb (B n c:Nat) (A:Option Addr) (ids:List Id) (gv:Value) (w:World) (hn:Hid (ids.length=n)) (hr:Rd w B 3 A n (ids.flatMap Id.cells)) (hnm:n≤1000) (hok:Eb ids):
  Calls Tryz.prog 12 #[gv,.slice A n c] w (Iy (Ah ids) w):=by
 have aq:Hid (∀k x,ids[k]? =some x→∀f:Int × Int,Ai (ids.take (k+1)) f.1 f.2=if f=(x.b,x.s) then Ai (ids.take k) x.b x.s+1 else Ai (ids.take k) f.1 f.2):=by
  intro k x hx f;rw [Qs hx]
  by_cases e:f=(x.b,x.s)
  ·
   subst e;rw [if_pos rfl,if_pos (by simp)]
  ·
   rw [if_neg e,if_neg (fun hc=>e (by rw [Bool.and_eq_true,beq_iff_eq,beq_iff_eq] at hc;exact Prod.ext hc.1.symm hc.2.symm))];rfl
 have a9:Hid (∀k d s,Ai (ids.take k) d s≤k):=fun k d s=>Z7 ids k d s;have ba:Hid (∀k x,ids[k]? =some x→∀d,Bl ids (k+1) d=if x.b=d∧1<Ai (ids.take (k+1)) x.b x.s∧(Bl ids k d=none∨x.s<(Bl ids k d).getD 0) then some x.s else Bl ids k d):=fun k x hx d=>K7 hx d;have cj:=Lib.hid (Ad3 hok)
 have ar:Hid (∀xs ys:List (Int × Int),(xs.map Prod.fst).Nodup→(∀d i,(d,i)∈xs↔Bl ids n d=some i)→ys.Perm xs→ys.Pairwise (fun a b=>a.1≤b.1)→ys=Ah ids):=by
  intro xs ys h1 h2 h3 h4;rw [← hn.out] at h2;exact Z9 (fun x hx=>by have:=(hok x hx).2.2.1;omega) (fun x hx=>(hok x hx).2.1) h1 h2 h3 h4
 have bu:Hid (∀f:Int × Int,Ai (ids.take 0) f.1 f.2=0):=fun f=>rfl;have a7:Hid (∀d,Bl ids 0 d=none):=fun d=>rfl;replace hok:=Lib.hid hok;unfold Iy;generalize Ah ids=FA at*;generalize Bl ids=LT at*;generalize hMT:(fun (k:Nat) (d s:Int)=>Ai (ids.take k) d s)=MT at*;have av:∀(k:Nat) (d s:Int),Ai (ids.take k) d s=MT k d s:=fun k d s=>by rw [← hMT]
 simp only [av] at aq a9 ba bu;clear hMT av;have ch:=ManyAt.made w;have a2:=LeastAt.made (w.alloc (.map #[] 0));have ds:=@run_makeMap Tryz.prog;go_enter Tryz.func12,Tryz.ntmps12;go_upto_region 3 with (fail)
 have f0:Fr Non w ((w.alloc (.map #[] 0)).alloc (.map #[] 0)):=((Fr.refl Non w).alloc _).alloc _;have a6:ManyAt ((w.alloc (.map #[] 0)).alloc (.map #[] 0)) w.heap.size 0 (fun _=>0):=ch.fr ((Fr.refl Non _).alloc (.map #[] 0)) zq;rw [Ag0] at a2;have dd:((w.alloc (.map #[] 0)).alloc (.map #[] 0)).heap.size=w.heap.size+2:=by rw [Ag0,Ag0]
 try rw [Ag0]
 clear ch;generalize (w.alloc (.map #[] 0)).alloc (.map #[] 0)=w0 at*;replace a6:ManyAt w0 w.heap.size 0 (fun f=>MT 0 f.1 f.2):=a6.congr (fun f _=>bu.out f);replace a2:LeastAt w0 (w.heap.size+1) 0 (LT 0):=a2.congr a7.out;go_wp2_with (fail)
 go_loopw [19] (fun v wr=>∃(k m1 m2:Nat),v=.int .i64 (k:Int)∧k≤n∧m1≤k∧m2≤k∧Hid (ManyAt wr w.heap.size m1 (fun f=>MT k f.1 f.2))∧Hid (LeastAt wr (w.heap.size+1) m2 (LT k))∧Fr Non w wr∧w.heap.size+2≤wr.heap.size) (fun v _=>n-(intOf v).toNat)
 case atStart=>exact ⟨0,0,0,rfl,Ag8 _,Ag6 _,Ag6 _,a6,a2,f0,by omega⟩
 case round=>
  clear a6 a2 f0 dd bu a7;obtain ⟨k,m1,m2,rfl,hk,d2,dy,hM,hL,hf,b8⟩:=hrel
  by_cases hlt:k<n
  ·
   obtain ⟨y,hy⟩:∃y,ids[k]? =some y:=⟨_,Ag1 (by rw [hn.out];exact hlt)⟩;obtain ⟨a3,yb,ys⟩:=hok.out y (Ag2 hy);obtain ⟨b,dx,rfl,dr,k0,k1,k2⟩:=Id.at (hr.fr hf zr) hy;have i1:(0:Int)≤k:=by omega
   have i2:(k:Int)<n:=by omega
   have i3:(k:Int).toNat=k:=by omega
   have bx:=Lib.hid (aq.out k y hy);have ay:=Lib.hid (ba.out k y hy);have cw:MT (k+1) y.b y.s=MT k y.b y.s+1:=by have:=aq.out k y hy (y.b,y.s);rwa [if_pos rfl] at this
   have c2:=a9.out k y.b y.s;have b3:=Bq (P:=Tryz.prog) wr.heap.size 41 (cs:=y.V) Gy (old:=#[.int .i64 0,.int .i64 0,.int .u64 0]) rfl (Gz _ _ _);have bn:=Blk.new wr 41 #[.int .i64 0,.int .i64 0,.int .u64 0];clear aq ba a9 hy;go_upto_region 6 with (fail)
   have bz:=bn.setRow (cs:=y.V);have fz:Fr Non wr ((wr.alloc (.cells #[.int .i64 0,.int .i64 0,.int .u64 0] 41)).setRow wr.heap.size y.V):=((Fr.refl Non wr).alloc _).setRow (fun hh=>absurd hh (by omega)) _;obtain ⟨gi,cg⟩:=Aa wr.heap.size;rw [cg.out] at bz fz ⊢;clear b3 bn k0 k1 k2;generalize (wr.alloc (.cells #[.int .i64 0,.int .i64 0,.int .u64 0] 41)).setRow gi y.V=w1 at*;have a0:=bz.cell 0;have a1:=bz.cell 1;have bk:=Bq (P:=Tryz.prog) w1.heap.size 36 (cs:=#[.int .i64 y.b,.int .i64 y.s]) Lh (old:=#[.int .i64 0,.int .i64 0]) rfl (Li _ _);have bn:=Blk.new w1 36 #[.int .i64 0,.int .i64 0];go_upto_region 7 with (fail)
   have bf:=bn.setRow (cs:=#[.int .i64 y.b,.int .i64 y.s]);have fy:Fr Non w1 ((w1.alloc (.cells #[.int .i64 0,.int .i64 0] 36)).setRow w1.heap.size #[.int .i64 y.b,.int .i64 y.s]):=((Fr.refl Non w1).alloc _).setRow (fun hh=>absurd hh (by omega)) _;have cq:=fz.size;obtain ⟨gf,c5⟩:=Aa w1.heap.size;rw [c5.out] at bf fy cq ⊢;clear bk bn a0 a1;have a8:=bz.fr fy zq;have bw:=fz.trans fy zr;have b7:=hM.out.fr bw zq;have cp:Hid (LeastAt _ _ _ _):=hL.out.fr bw zq;have bl:=hf.trans bw zr;have dt:=bl.size;have dv:=fy.size;have c7:w.heap.size+2≤gi:=by rw [← cg.out];exact b8
   clear hM hL bz fz fy hf;generalize (w1.alloc (.cells #[.int .i64 0,.int .i64 0] 36)).setRow gf #[.int .i64 y.b,.int .i64 y.s]=w2 at*;have c4:=a8.cell 0;have dl:=a8.cell 1;have cl:=bf.cell 0;have ck:=bf.cell 1;have bm:okF (y.b,y.s):=⟨a3.1,a3.2.1⟩;have bi:ManyAt w2.drew w.heap.size m1 (fun f=>MT k f.1 f.2):=b7;have ad:=bi.look bm;obtain ⟨st,w3,be,a5,blk,w4,bs,ap,ca⟩:=bi.bump bm (by show MT k y.b y.s≤1000;omega) (by omega);obtain ⟨C,hC⟩:=Aa (MT k y.b y.s);have dq:C≤k:=by rw [← hC.out];exact c2
   have bb:Hid (MT (k+1) y.b y.s=C+1):=by show _=_;rw [cw,hC.out]
   change (Instr.mapEntry 84 (.map (some w.heap.size)) (.agg #[.int .i64 y.b,.int .i64 y.s])).run Tryz.prog w2.drew=.ok (.tuple #[.int .i64 (MT k y.b y.s:Int),.int .i64 st]) w3 at be;change (Instr.lookup 84 (.map (some w.heap.size)) (.agg #[.int .i64 y.b,.int .i64 y.s]) false).run Tryz.prog w2.drew=.ok (.int .i64 (MT k y.b y.s:Int)) w2.drew at ad;change (Instr.lookup 84 (.map (some w.heap.size)) (.agg #[.int .i64 y.b,.int .i64 y.s]) false).run Tryz.prog w3=.ok (.int .i64 (MT k y.b y.s:Int)) w3 at blk;change (Instr.entryStore 84 (.map (some w.heap.size)) (.int .i64 st) (.int .i64 ((MT k y.b y.s:Int)+1))).run Tryz.prog w3=.ok () w4 at bs;rw [hC.out] at be ad blk bs;have af:ManyAt w4 w.heap.size (m1+1) (fun f=>MT (k+1) f.1 f.2):=ca.congr (fun f _=>bx.out f);have e1:IntKind.i64.wrap ((C:Int)+1)=(C:Int)+1:=IntWalk.i64_in _ (by omega);have df:∀w',Iz w.heap.size (.agg #[.int .i64 y.b,.int .i64 y.s]) (.int .i64 (C:Int)) w'→(Instr.lookup 84 (.map (some w.heap.size)) (.agg #[.int .i64 y.b,.int .i64 y.s]) false).run Tryz.prog w'=.ok (.int .i64 (C:Int)) w':=fun _ h=>h;have P0:w2.drew.cell? ⟨gf,0,none⟩=some (.int .i64 y.b):=cl;have R0:w2.drew.cell? ⟨gf,1,none⟩=some (.int .i64 y.s):=ck;have K0:Iz w.heap.size (.agg #[.int .i64 y.b,.int .i64 y.s]) (.int .i64 (C:Int)) w2.drew:=ad;have aj:w.heap.size≠gf:=fun e=>by omega
   have P1:=a5.cell P0 (fun e=>aj e.symm);have R1:=a5.cell R0 (fun e=>aj e.symm);have K1:Iz w.heap.size (.agg #[.int .i64 y.b,.int .i64 y.s]) (.int .i64 (C:Int)) w3:=blk;refine Cw (S:=fun w'=>w'.cell? ⟨gf,0,none⟩=some (.int .i64 y.b)∧w'.cell? ⟨gf,1,none⟩=some (.int .i64 y.s)∧Iz w.heap.size (.agg #[.int .i64 y.b,.int .i64 y.s]) (.int .i64 (C:Int)) w') 6 (by kernel_rfl) ?_;refine tkG 0 ⟨P0,R0,K0⟩ (h:=tkG 1 ⟨P0,R0,K0⟩ (h:=tkG 2 ⟨P0,R0,K0⟩ (h:=tkG 3 ⟨P0,R0,K0⟩ (h:=?_))));simp only [List.set];refine Bj 4 (by kernel_rfl) rfl (fun K hK=> ?_);go_simp;refine hK.out _ _ ⟨P1,R1,K1⟩ (fun hZ=> ?_);clear hZ hK K;try simp only [Ag,List.set]
   refine tkG 5 ⟨P1,R1,K1⟩ (h:=?_);simp only [List.set];refine Cr (by kernel_rfl) ?_;refine oG 6 (fun K hK=> ?_);go_simp;refine hK.out _ _ trivial (fun hZ=> ?_);clear hZ hK K;try simp only [Ag,List.set]
   refine oD ?_;go_simp;have ff:Fr (One w.heap.size) w2 w4:=((Fr.refl (One w.heap.size) w2).drew.trans a5 zr).trans ap zr;have cd:=a8.fr ff (fun e=>by have e':gi=w.heap.size:=e;omega);have cc:=bf.fr ff (fun e=>aj.symm e);have al:=cp.out.fr ff (fun e=>by have e':w.heap.size+1=w.heap.size:=e;omega);have b1:Fr Non w w4:=bl.trans ff (fun j hj e=>by have e':j=w.heap.size:=e;omega);have bd:w.heap.size+2≤w4.heap.size:=by have:=ff.size;have:=bf.lt;omega
   have ai:=af.look bm;change (Instr.lookup 84 (.map (some w.heap.size)) (.agg #[.int .i64 y.b,.int .i64 y.s]) false).run Tryz.prog w4=.ok (.int .i64 (MT (k+1) y.b y.s:Int)) w4 at ai;rw [bb.out] at ai;have de:((C+1:Nat):Int)=(C:Int)+1:=by omega
   rw [de] at ai;have du:=cc.cell 0;have d1:=cc.cell 1;have d3:=cd.cell 0;have dn:=cd.cell 1;clear be bs blk ad K0 K1 P0 P1 R0 R1 bi b7 ca cp a8 bf cl ck c4 dl a5 ap df bl
   by_cases h2:C+1<2
   ·
    have t1:decide ((C:Int)+1<2)=true:=decide_eq_true (by omega);have ak:Hid (LeastAt w4 (w.heap.size+1) m2 (LT (k+1))):=al.congr (fun d=>by rw [ay.out d,if_neg (fun h=>by have:=h.2.1;rw [bb.out] at this;omega)]);replace af:=Lib.hid af;go_wp2_with (fail);go_roundw
    case rel=>exact ⟨k+1,m1+1,m2,by go_num,by omega,by omega,by omega,af.out,ak.out,b1,bd⟩
    case measure=>simp [intOf];omega
   ·
    have t1:decide ((C:Int)+1<2)=false:=decide_eq_false (by omega);have ci:=al.look a3.1;obtain ⟨O,hO⟩:=Aa (LT k y.b);rw [hO.out] at ci;replace af:=Lib.hid af
    have aa:Hid (∀d,LT (k+1) d=if y.b=d∧(O=none∨y.s<O.getD 0) then some y.s else LT k d):=by
     intro d;rw [ay.out d]
     by_cases e:y.b=d
     ·
      subst e;rw [hO.out]
      by_cases hc:O=none∨y.s<O.getD 0
      · rw [if_pos ⟨rfl,by rw [bb.out];omega,hc⟩,if_pos ⟨rfl,hc⟩]
      · rw [if_neg (fun h=>hc h.2.2),if_neg (fun h=>hc h.2)]
     · rw [if_neg (fun h=>e h.1),if_neg (fun h=>e h.1)]
    by_cases hc:O=none∨y.s<O.getD 0
    ·
     obtain ⟨w5,cr,ak,bg⟩:=al.store (x:=y.b) (i:=y.s) a3.1 a3.2.1 (by omega)
     have ct:Hid (LeastAt w5 (w.heap.size+1) (m2+1) (LT (k+1))):=ak.congr (fun d=>by
      rw [aa.out d]
      by_cases e:d=y.b
      · rw [if_pos e,if_pos ⟨e.symm,hc⟩]
      · rw [if_neg e,if_neg (fun h=>e h.1.symm)])
     have dj:Hid (ManyAt w5 w.heap.size (m1+1) (fun f=>MT (k+1) f.1 f.2)):=af.out.fr bg (fun e=>by have e':w.heap.size=w.heap.size+1:=e;omega);have br:Fr Non w w5:=b1.trans bg (fun j hj e=>by have e':j=w.heap.size+1:=e;omega);have bh:w.heap.size+2≤w5.heap.size:=Af8 bd bg.size
     have tt:(O.isSome=false)∨(O.isSome=true∧decide (y.s<O.getD 0)=true):=by
      cases O with
      |none=>exact .inl rfl
      |some o=>exact .inr ⟨rfl,decide_eq_true (hc.resolve_left (by simp))⟩
     generalize O.isSome=OB at*;generalize O.getD 0=OV at*;clear ak aa hc al
     rcases tt with rfl|⟨rfl,t3⟩
     all_goals
      go_wp2_with (fail);go_roundw
      case rel=>exact ⟨k+1,m1+1,m2+1,by go_num,by omega,by omega,by omega,dj.out,ct.out,br,bh⟩
      case measure=>simp [intOf];omega
    ·
     have ak:Hid (LeastAt w4 (w.heap.size+1) m2 (LT (k+1))):=al.congr (fun d=>by rw [aa.out d,if_neg (fun h=>hc h.2)])
     have tt:O.isSome=true∧decide (y.s<O.getD 0)=false:=by
      cases O with
      |none=>exact absurd (.inl rfl) hc
      |some o=>exact ⟨rfl,decide_eq_false (fun h=>hc (.inr h))⟩
     obtain ⟨t2,t3⟩:=tt;rw [t2] at ci;generalize O.getD 0=OV at*;clear aa hc al;go_wp2_with (fail);go_roundw
     case rel=>exact ⟨k+1,m1+1,m2,by go_num,by omega,by omega,by omega,af.out,ak.out,b1,bd⟩
     case measure=>simp [intOf];omega
  ·
   obtain rfl:k=n:=by omega
   have t0:decide ((k:Int)<(k:Int))=false:=decide_eq_false (by omega);obtain ⟨nD,D,ho,dm,dz,ac⟩:=hL.out;have a4:=Lib.hid (fun d i h=>(cj.out k d i h));clear aq a9 ba hM hL hr hok cj;generalize wr=wq at*;clear wr
   go_wp2_with (first
    |(at_range;refine wpList_range_own _ rfl _ _ rfl 3 3 (int_keyed Tryz.underlying3) Tryz.underlying85 (plainElem Tryz.prog 3) (w.heap.size+1) nD D rfl ho ?_;intro w5 ah cf ce)
    |go_in)
   have f5:Fr Non wq w5:=(Fr.refl Non wq).grown cf (fun _ hk _=>by cases hk);obtain ⟨gr,au⟩:=Aa wq.heap.size;rw [au.out] at ah ce ⊢;have di:w.heap.size+2≤gr:=by rw [← au.out];exact b8
   have br:=hf.trans f5 zr;have c1:gr+1≤w5.heap.size:=by omega
   clear cf ho f5 hf ce
   go_frame
   go_loopw [12] (fun s wr=>∃(ae:Lit→Bool) (bc:Nat) (Ax:Option Addr) (cx:Nat) (xs:List (Int × Int)),s=.slice Ax xs.length cx∧wr.ranges Tryz.prog 3 (plainElem Tryz.prog 3) (w.heap.size+1) gr nD D ae bc∧Hid (RF (LT k) ae xs)∧Own wr w5.heap.size 36 2 Ax xs.length cx (xs.flatMap Cz)∧Fr Non w wr∧w5.heap.size≤wr.heap.size) (fun _ wr=>wr.rangeLeft (w.heap.size+1) gr)
   case atStart=>exact ⟨_,_,none,0,[],rfl,ah,RF.start (fun d=>((ac d).1).symm),Own.nil _ _ _ _,br,Ag6 _⟩
   case round=>
    obtain ⟨ae,bc,Ax,cx,xs,rfl,ah,ao,ab,hf,da⟩:=hrel;have cu:=ao.out.few (fun d i h=>⟨(a4.out d i h).1,(a4.out d i h).2.1⟩);have aw:=ab.row
    go_wp2_with (first
     |(at_next;refine wpList_next_ranges_ii _ rfl _ rfl 3 3 .i64 .i64 (int_keyed Tryz.underlying3) Tryz.underlying3 Tryz.underlying3 (w.heap.size+1) gr nD D ae bc rfl ah ?_ ?_)
     |go_in)
    ·
     intro c6 a7;have cn:=ao.out.done a7;have b6:=ao.out.1;have co:=Lib.hid (Ad1 w5.heap.size Ax cx xs wr ab (by omega));have db:=Lib.hid (fun ys h3 h4=>ar.out xs ys b6 cn h3 h4);subst c6;clear ah cn b6 ab ar ao;have bh:w.heap.size≤w5.heap.size:=by omega
     obtain ⟨L,cb⟩:=Aa xs.length;rw [cb.out] at co ⊢;go_wp2_with (go_at_call 36;(with_reducible refine (co.out).mono ?_);rintro _ w9 ⟨rfl,ys,hp,hs,o9,f9⟩);have hy:=Lib.hid (db.out ys hp hs);rw [hy.out] at o9;have dc:Hid (L=FA.length):=by show _=_;rw [← hy.out,hp.length_eq,cb.out]
     go_ret
     exact ⟨Ax,cx,by rw [← dc.out];rfl,o9.lower bh,hf.trans f9 (fun j hj e=>by have:=(aw j e).1;omega)⟩
    ·
     intro x cv w6 b4 d0 dw b5 b2 ag bj bt bp dp
     have b9:LT k x=some cv:=by
      have h1:=has_true_of_atKey (b2);rw [(ac x).1] at h1;obtain ⟨c',cm⟩:=Option.isSome_iff_exists.1 h1;have h2:=(ac x).2 c' cm (.lit (.bool true));rw [b2] at h2
      cases h2
      exact cm
     have bo:=Lib.hid (ao.out.step b9 b5);have f6:Fr (One gr) wr w6:=Iw bt;have az:=ab.fr f6 (fun j hj e=>by have e':j=gr:=e;have:=(aw j hj).1;omega);have c0:Fr Non w w6:=hf.trans f6 (fun j hj e=>by have e':j=gr:=e;omega);have bF:=Blk.new w6 36 #[.int .i64 x,.int .i64 cv];have bv:=az.row;have c9:w5.heap.size≤w6.heap.size:=Af8 da f6.size;have cz:w6.rangeLeft (w.heap.size+1) gr<wr.rangeLeft (w.heap.size+1) gr:=by rw [ag.left_eq,ah.left_eq];exact bj
     clear ah ab ao b9 b5 b2 bp
     go_wp2_with (first
      |(at_builtin;go_loud (refine Au (base:=w5.heap.size) (.tmp 66) (.tmp 70) 33 rfl rfl rfl rfl slFk (az.alloc (.cells #[.int .i64 x,.int .i64 cv] 36)) (Rd.blk (n:=1) (size:=2) bF rfl) (by simp [Value.oneCell']) (by omega) (by omega) (by rw [Ag0];omega) ?_);intro A8 c8 w8 b0 dh cy))
     have f8:Fr (fun j=>w5.heap.size≤j) w6 w8:=(Fr.of_non ((Fr.refl Non w6).alloc (.cells #[.int .i64 x,.int .i64 cv] 36)) _).trans dh (fun j hj e=>(bv j e).1);have dk:Fr Non w w8:=c0.trans f8 (fun j hj e=>by have e':w5.heap.size≤j:=e;omega);have ax:=Ad4 ag f8 (fun e=>by have e':w5.heap.size≤w.heap.size+1:=e;omega) (fun e=>by have e':w5.heap.size≤gr:=e;omega)
     have bq:Own w8 w5.heap.size 36 2 A8 (xs++[(x,cv)]).length c8 ((xs++[(x,cv)]).flatMap Cz):=by
      rw [Af9,Ag7];exact b0
     have c3:w5.heap.size≤w8.heap.size:=Af8 c9 f8.size;have dg:w8.rangeLeft (w.heap.size+1) gr<wr.rangeLeft (w.heap.size+1) gr:=by rw [ax.left_eq,← ag.left_eq];exact cz
     exact ⟨⟨_,b4,A8,c8,xs++[(x,cv)],by rw [Af9];rfl,ax,bo,bq,dk,c3⟩,dg⟩
theorem G5 (B n c:Nat) (A:Option Addr) (ids:List Id) (gv:Value) (w:World) (hn:Hid (ids.length=n)) (hr:Rd w B 3 A n (ids.flatMap Id.cells)) (hnm:n≤1000) (hok:Eb ids):
  Calls Tryz.prog 13 #[gv,.slice A n c] w (Fw (As ids) w):=by
 have kf:=Lib.hid (Gb B n c A ids gv w hn hr hnm hok);have ko:=Lib.hid (fun (d m:Int) (w':World) (hf:Fr Non w w')=>Rh B n c A ids d m 4611686018427387904 w' hn (hr.fr hf zr) hnm);have aw:Hid (∀k f,(Ah ids)[k]? =some f→Dy ids (Ah ids) (k+1)=Dy ids (Ah ids) k++ofK ids f.1 f.2 4611686018427387904):=fun k f hf=>Aa0 ids hf
 have az:Hid (∀d m:Int,(ofK ids d m 4611686018427387904).length≤1000):=fun d m=>by
  unfold ofK;rw [(Cg _).length_eq];exact Af8 (Ah3 _ _) (by rw [hn.out];exact hnm)
 have av:Hid (Ak (Dy ids (Ah ids) (Ah ids).length)=As ids):=Aa1 (fun x hx=>(hok x hx).2.1) (fun x hx=>by have:=(hok x hx).2.2.2;omega);have a1:(Ah ids).length≤12:=by unfold Ah;exact Af8 (List.length_filterMap_le _ _) (by simp)
 have bb:Hid (Dy ids (Ah ids) 0=[]):=rfl;clear hok hr;unfold Iy at kf;unfold Fw at ko;generalize As ids=VA at*;generalize Dy ids (Ah ids)=VT at*;generalize (fun d m=>ofK ids d m 4611686018427387904)=OF at*;generalize Ah ids=fs at*;obtain ⟨M,hM⟩:=Aa fs.length;rw [hM.out] at kf av a1;go_enter Tryz.func13,Tryz.ntmps13;go_upto_region 2 with (fail)
 go_wp2_with (go_at_call 12;(with_reducible refine (kf.out).mono ?_);rintro _ w1 ⟨A1,c1,rfl,a0,f1⟩)
 go_loopw [5,12] (fun s v wr=>∃(k:Nat) (Ax:Option Addr) (cx:Nat) (xs:List Id),v=.int .i64 (k:Int)∧s=.slice Ax xs.length cx∧k≤M∧xs.length≤1000*k∧Hid (xs=VT k)∧Own wr w1.heap.size 41 3 Ax xs.length cx (xs.flatMap Id.cells)∧Fr Non w1 wr) (fun _ v _=>M-(intOf v).toNat)
 case atStart=>exact ⟨0,none,0,[],rfl,rfl,by omega,Ag8 _,bb.out.symm,Own.nil _ _ _ _,Fr.refl _ _⟩
 case round=>
  obtain ⟨k,Ax,cx,xs,rfl,rfl,hk,bc,ax,aa,hf⟩:=hrel;have a2:=f1.trans hf zr
  by_cases hlt:k<M
  ·
   obtain ⟨f,ag⟩:∃f,fs[k]? =some f:=⟨_,Ag1 (by rw [hM.out];exact hlt)⟩;obtain ⟨b4,o4,a4,_,ak⟩:=Dg (f:=Cz) (fun _=>rfl) (by omega) (n:=M) ((a0.fr hf zr).rd) ag;subst a4;have c0:wr.cell? ⟨b4,o4+k*2,none⟩=some (.int .i64 f.1):=ak 0 (by decide) _ rfl;have a8:wr.cell? ⟨b4,o4+k*2+1,none⟩=some (.int .i64 f.2):=ak 1 (by decide) _ rfl;have i1:(0:Int)≤k:=by omega
   have i2:(k:Int)<M:=by omega
   have i3:(k:Int).toNat=k:=by omega
   have ae:=aw.out k f ag;rw [← ax.out] at ae;replace ae:=Lib.hid ae;have ar:=Bq (P:=Tryz.prog) wr.heap.size 36 (cs:=#[.int .i64 f.1,.int .i64 f.2]) Lh (old:=#[.int .i64 0,.int .i64 0]) rfl (Li _ _);have bn:=Blk.new wr 36 #[.int .i64 0,.int .i64 0];clear aw ag ak;go_upto_region 5 with (fail)
   have bz:=bn.setRow (cs:=#[.int .i64 f.1,.int .i64 f.2]);have fz:Fr Non wr ((wr.alloc (.cells #[.int .i64 0,.int .i64 0] 36)).setRow wr.heap.size #[.int .i64 f.1,.int .i64 f.2]):=((Fr.refl Non wr).alloc _).setRow (fun hh=>absurd hh (by omega)) _;obtain ⟨gi,a5⟩:=Aa wr.heap.size;rw [a5.out] at bz fz ⊢;clear ar bn c0 a8;generalize (wr.alloc (.cells #[.int .i64 0,.int .i64 0] 36)).setRow gi #[.int .i64 f.1,.int .i64 f.2]=w2 at*;have ad:=aa.fr fz zr;have ai:=ad.row;have aq:=hf.trans fz zr;have d0:=bz.cell 0;have d1:=bz.cell 1;have ao:=Lib.hid (ko.out f.1 f.2 w2 (f1.trans aq zr));have aj:=az.out f.1 f.2;obtain ⟨OL,a6⟩:=Aa (ofK ids f.1 f.2 4611686018427387904);rw [a6.out] at ao aj ae;obtain ⟨ol,ab⟩:=Aa OL.length;rw [ab.out] at ao aj;have ac:=Lib.hid aj;clear ko az aa bz
   go_wp2_with (first
    |(go_at_call 39;(with_reducible refine (ao.out).mono ?_);rintro _ w3 ⟨A3,c3,rfl,a3,f3⟩)
    |(at_builtin;go_loud (refine Au (base:=w1.heap.size) (.tmp 16) (.tmp 22) 25 rfl rfl rfl rfl Ct (ad.fr f3 zr) a3.rd (Id.cells_one _) (by have:=ac.out;omega) (by have:=ac.out;omega) (Af8 aq.size f3.size) ?_);intro A8 c8 w8 ap a9 a7))
   have f8:Fr Non w1 w8:=(aq.trans f3 zr).trans a9 (fun j hj e=>by have:=(ai j e).1;omega)
   have ah:Own w8 w1.heap.size 41 3 A8 (xs++OL).length c8 ((xs++OL).flatMap Id.cells):=by
    rw [Af9,Ag7,ab.out];exact ap
   have af:(xs++OL).length=xs.length+ol:=by rw [Af9,ab.out]
   go_roundw
   case rel=>exact ⟨k+1,A8,c8,xs++OL,by go_num,by rw [af],by omega,by rw [af];have:=ac.out;omega,ae.out.symm,ah,f8⟩
   case measure=>simp [intOf];omega
  ·
   obtain rfl:k=M:=by omega
   have au:=aa.row;have ks:=Lib.hid (Rg w1.heap.size Ax cx xs wr aa (by omega));have al:Ak xs=VA:=by rw [ax.out,av.out]
   have ay:Hid (xs.length=VA.length):=by show _=_;rw [← al,(Cg xs).length_eq]
   rw [al] at ks;unfold Fw;have ba:=f1.size;clear aa al;generalize xs.length=L at*;go_wp2_with (go_at_call 40;(with_reducible refine (ks.out).mono ?_);rintro _ w9 ⟨rfl,o9,f9⟩)
   go_ret
   exact ⟨Ax,cx,by rw [← ay.out];rfl,by rw [← ay.out];exact o9.lower ba,a2.trans f9 (fun j hj e=>by have:=(au j e).1;omega)⟩
end Oq
end
section
open Go.RowKit
attribute [local go_sem ↓] Go.wp_at_zero Go.wp_at_succ
namespace Oq
attribute [local go_sem] Bool.not_false Bool.not_true
attribute [local go_sem ↓] Fg Ce Ga Lg Ab4
theorem Ri (base B n c:Nat) (A:Option Addr) (r:FG) (x:OpL) (hs:List Nat) (w:World) (h:r.own w base) (hx:x.lies w base) (hb:base≤w.heap.size) (hok:x.op.ok) (hp:x.pastA=none∧x.pastC=0∧x.past=[]) (hdev:∃d:Nat,x.by_=(d:Int)∧d≤1000) (hat:0≤x.at_∧x.at_≤3)
    (hn:Hid (hs.length=n)) (hr:Rd w B 1 A n (hs.map Qv)) (hn3:n≤3) (hlt:∀p∈hs,p<r.l.length) (hin:plc r.l (Bd r.l x.op hs).name=none→An r.cards r.l (sgn (Bd r.l x.op hs))=0∧FkB (r.l++[Aq r.l (sgn (Bd r.l x.op hs))])):
    Calls Tryz.prog 29 #[.agg r.cells,.agg x.cells,.slice A n c] w (Fi base r x.op hs w):=by
  have dm:=h.num.few;have hl:=Cf (P:=Tryz.prog) w.heap.size 28 Tryz.underlying28 rfl (cs:=r.cells) Bp
  have s0:Bg w (((w.alloc (.cells r.cells 28)).alloc (.cells x.cells 67)).alloc (.cells #[.slice none 0 0,.slice none 0 0,.slice none 0 0,.slice none 0 0] 28)) r.cells x x.sq x.at_ none 0 0 []:=by
    have f0:Fr Non w (((w.alloc (.cells r.cells 28)).alloc (.cells x.cells 67)).alloc (.cells #[.slice none 0 0,.slice none 0 0,.slice none 0 0,.slice none 0 0] 28)):=(((Fr.refl Non w).alloc _).alloc _).alloc _;have b1:=(Blk.new (w.alloc (.cells r.cells 28)) 67 x.cells).alloc (.cells #[.slice none 0 0,.slice none 0 0,.slice none 0 0,.slice none 0 0] 28);have b2:=Blk.new ((w.alloc (.cells r.cells 28)).alloc (.cells x.cells 67)) 28 #[.slice none 0 0,.slice none 0 0,.slice none 0 0,.slice none 0 0];rw [Ag0] at b1;rw [Ag0,Ag0] at b2
    have ex:x.put x.sq x.at_ none 0 []=x:=by
      obtain ⟨h1,h2,h3⟩:=hp;unfold OpL.put;rw [← h1,← h2,← h3]
    refine ⟨((Blk.new w 28 r.cells).alloc _).alloc _,by rw [ex];exact b1,b2,f0,by simp only [Ag0];omega,Own.nil _ _ _ _,rfl⟩
  have kb:=Lib.hid (fun (v:World) (hf:Fr Non w v)=>Qx base B n c r A hs v (h.non hf) hn (hr.fr hf zr) (by omega) hlt)
  have ag:Hid (∀p,p<r.l.length→∃(m:Pn) (b ac:Nat),r.l[p]? =some m∧r.lA=some ⟨b,ac,none⟩∧w.cell? ⟨b,ac+p*27,none⟩=some (.int .i64 m.o.by_)∧w.cell? ⟨b,ac+p*27+1,none⟩=some (.int .i64 m.o.sq)∧w.cell? ⟨b,ac+p*27+3,none⟩=some (.int .i64 m.o.at_)):=by
    intro i hi;obtain ⟨y,b,ac,_,h1,_,h3,_,h4⟩:=h.xAt (Ag1 hi);exact ⟨_,b,ac,Ag1 hi,h3,by rw [← h1];exact h4 0 (by omega) _ rfl,by rw [← h1];exact h4 1 (by omega) _ rfl,by rw [← h1];exact h4 3 (by omega) _ rfl⟩
  have aj:Hid (∀p,p<r.l.length→∃(m:Pn) (b ac:Nat),r.l[p]? =some m∧r.iA=some ⟨b,ac,none⟩∧w.cell? ⟨b,ac+p*3,none⟩=some (.int .i64 m.id.b)∧w.cell? ⟨b,ac+p*3+1,none⟩=some (.int .i64 m.id.s)∧w.cell? ⟨b,ac+p*3+2,none⟩=some (.int .u64 (m.id.u:Int))):=fun p hp=>h.idAt hp;have bw:Hid (∀m∈r.l,1≤m.o.sq∧m.o.sq≤14):=fun m hm=>⟨h.num.s1 m hm,by have:=h.num.sq m hm;omega⟩;have bq:Hid (∀m∈r.l,m.o.at_≤42):=fun m hm=>by have:=h.num.at_ m hm;omega
  have bo:Hid (∀ys k p m,ys[k]? =some p→r.l[p]? =some m→B4 r.l x.by_ ys (k+1)=if m.o.by_=x.by_ then max (B4 r.l x.by_ ys k) (m.o.sq+1) else B4 r.l x.by_ ys k):=fun ys k p m h1 h2=>Qy h1 h2;have e0:Hid (∀ys k,1≤B4 r.l x.by_ ys k∧B4 r.l x.by_ ys k≤15):=fun ys k=>⟨Ld _ _ _ _,Lc (by omega) (fun p hp m hm _=>by have:=(bw.out m (Ag2 hm)).2;omega) k⟩;have e3:Hid (∀ys,B4 r.l x.by_ ys 0=1):=fun _=>rfl;replace hlt:=Lib.hid hlt;go_enter Tryz.func29,Tryz.ntmps29;go_upto_region 1 with (fail)
  generalize ((w.alloc (.cells r.cells 28)).alloc (.cells x.cells 67)).alloc (.cells #[.slice none 0 0,.slice none 0 0,.slice none 0 0,.slice none 0 0] 28)=w0 at*;have z1:w0.cell? ⟨w.heap.size+1,1,none⟩=some (.int .i64 x.sq):=s0.b.cell 1;have z2:=s0.b.frozen 1;go_upto_region 2 with (fail)
  have s1:=s0.sq 1;generalize w0.setCell ⟨w.heap.size+1,1,none⟩ (.int .i64 1)=w1 at*;clear s0 z1 z2;have bg:=s1.g;have cv:=s1.sz;go_upto_region 3 with (go_at_call 35;(with_reducible refine (kb.out _ s1.f).mono ?_);rintro _ w2 ⟨ys,A7,c7,rfl,cb,cg,ab,f2⟩)
  replace ab:=Fh ab cv;have s2:=s1.non f2;clear s1 bg kb f2 cv;replace cb:=Lib.hid cb;replace cg:=Lib.hid cg;have g1:Hid (r.cells[1]? =some (.slice r.lA r.l.length r.lC)):=rfl;have g2:Hid (r.cells[2]? =some (.slice r.iA r.l.length r.iC)):=rfl;have g3:Hid (r.cells[3]? =some (.slice r.pA r.l.length r.pC)):=rfl;have av:=Lib.hid (bo.out ys);have bv:=Lib.hid (e0.out ys);have cj:=Lib.hid (e3.out ys)
  have du:ys.length≤14:=by
    have:=Ei cb.out.1 (ys:=List.range r.l.length) (fun q hq=>List.mem_range.2 (cg.out q hq));simp at this;omega
  clear bo e0 e3;generalize hSQ:B4 r.l x.by_ ys=SQ at*;obtain ⟨M,hM⟩:=Aa ys.length;rw [hM.out] at ab du ⊢;obtain ⟨N,hN⟩:=Aa r.l.length;rw [hN.out] at g1 g2 g3 ag aj dm hlt cg;obtain ⟨LA,dk⟩:=Aa r.lA;rw [dk.out] at g1 ag;obtain ⟨IA,cr⟩:=Aa r.iA;rw [cr.out] at g2 aj;obtain ⟨LC,d4⟩:=Aa r.lC;rw [d4.out] at g1;obtain ⟨IC,dx⟩:=Aa r.iC;rw [dx.out] at g2;go_wp2_with (fail)
  go_loopw [8] (fun v wr=>∃k:Nat,v=.int .i64 (k:Int)∧k≤M∧Bg w wr r.cells x (SQ k) x.at_ none 0 0 []∧Own wr (w.heap.size+3) 3 1 A7 M c7 (ys.map Qv)) (fun v _=>M-(intOf v).toNat)
  case atStart=>exact ⟨0,rfl,Ag8 _,by rw [cj.out];exact s2,ab⟩
  case round=>
    obtain ⟨k,rfl,hk,s3,a3⟩:=hrel;clear s2 ab
    by_cases hkM:k<M
    · obtain ⟨p,ck⟩:∃p,ys[k]? =some p:=⟨_,Ag1 (by rw [hM.out];exact hkM)⟩
      have db:=cg.out p (Ag2 ck);obtain ⟨m,b,ac,hm,rfl,c0,c1,c3⟩:=ag.out p db;obtain ⟨b7,o7,u7,rfl,_,dd,d7⟩:=a3.rd.at hkM;rw [Ag9,ck] at dd;injection dd with dd
      subst dd;replace d7:wr.cell? ⟨b7,o7+k,none⟩=some (.int .i64 (p:Int)):=d7;have dh:=Lib.hid (av.out k p m ck hm);have fl:=bv.out k;have fv:=bw.out m (Ag2 hm);have i1:(0:Int)≤k:=by omega
      have i2:(k:Int)<M:=by omega
      have i3:(k:Int).toNat=k:=by omega
      have p1:(0:Int)≤p:=by omega
      have p2:(p:Int)<N:=by omega
      have p3:(p:Int).toNat=p:=by omega
      have t0:decide ((k:Int)<M)=true:=decide_eq_true i2;have dp:decide (k<M)=true:=decide_eq_true hkM;have e1:IntKind.i64.wrap ((k:Int)+1)=(k:Int)+1:=IntWalk.i64_in _ (by omega);have e2:IntKind.i64.wrap (m.o.sq+1)=m.o.sq+1:=IntWalk.i64_in _ (by omega);go_upto_region 6 with (fail)
      have F0:Fr Non wr wr.drew:=(Fr.refl Non wr).drew;have f3:Fr Non w wr.drew:=s3.f.trans F0 zr;have H0:wr.drew.cell? ⟨w.heap.size,1,none⟩=some (.slice (some ⟨b,ac,none⟩) N LC):=(s3.g.cell 1).trans g1.out;have D0:wr.drew.cell? ⟨b7,o7+k,none⟩=some (.int .i64 (p:Int)):=d7;have E0:wr.drew.cell? ⟨b,ac+p*27,none⟩=some (.int .i64 m.o.by_):=f3.cell c0 zq;have X0:wr.drew.cell? ⟨w.heap.size+1,0,none⟩=some (.int .i64 x.by_):=s3.b.cell 0;refine wp_region_held_drew (S:=fun w'=>w'.cell? ⟨w.heap.size,1,none⟩=some (.slice (some ⟨b,ac,none⟩) N LC)∧w'.cell? ⟨b7,o7+k,none⟩=some (.int .i64 (p:Int))∧w'.cell? ⟨b,ac+p*27,none⟩=some (.int .i64 m.o.by_)∧w'.cell? ⟨w.heap.size+1,0,none⟩=some (.int .i64 x.by_)) (by kernel_rfl) ⟨H0,D0,E0,X0⟩ (fun hHeld=> ?_);clear hHeld;refine tkH 0 ⟨H0,D0,E0,X0⟩ (h:=tkH 1 ⟨H0,D0,E0,X0⟩ (h:=tkH 2 ⟨H0,D0,E0,X0⟩ (h:=tkH 3 ⟨H0,D0,E0,X0⟩ (h:=tkH 4 ⟨H0,D0,E0,X0⟩ (h:=tkH 5 ⟨H0,D0,E0,X0⟩ (h:=tkH 6 ⟨H0,D0,E0,X0⟩ (h:=tkH 7 ⟨H0,D0,E0,X0⟩ (h:=tkH 8 ⟨H0,D0,E0,X0⟩ (h:=tkH 9 ⟨H0,D0,E0,X0⟩ (h:=tkH 10 ⟨H0,D0,E0,X0⟩ (h:=tkH 11 ⟨H0,D0,E0,X0⟩ (h:=?_))))))))))));simp only [List.set];refine oD ?_;go_simp;have s4:=s3.non F0;have af:=a3.drew;have et:=f3.cell c1 zq;generalize wr.drew=w4 at*;clear H0 E0 X0 c0 c3 s3 a3 f3 d7 ag aj
      by_cases hby:m.o.by_=x.by_
      · rw [if_pos hby] at dh
        have t1:(m.o.by_==x.by_)=true:=beq_iff_eq.2 hby;clear ck hm;go_upto_region 7 with (fail)
        have H0:w4.drew.cell? ⟨w.heap.size,1,none⟩=some (.slice (some ⟨b,ac,none⟩) N LC):=(s4.g.cell 1).trans g1.out;replace D0:w4.drew.cell? ⟨b7,o7+k,none⟩=some (.int .i64 (p:Int)):=D0;have E0:w4.drew.cell? ⟨b,ac+p*27+1,none⟩=some (.int .i64 m.o.sq):=et;have X0:w4.drew.cell? ⟨w.heap.size+1,1,none⟩=some (.int .i64 (SQ k)):=s4.b.cell 1;refine Cw (S:=fun w'=>w'.cell? ⟨w.heap.size,1,none⟩=some (.slice (some ⟨b,ac,none⟩) N LC)∧w'.cell? ⟨b7,o7+k,none⟩=some (.int .i64 (p:Int))∧w'.cell? ⟨b,ac+p*27+1,none⟩=some (.int .i64 m.o.sq)∧w'.cell? ⟨w.heap.size+1,1,none⟩=some (.int .i64 (SQ k))) 14 (by kernel_rfl) ?_;refine tkG 0 ⟨H0,D0,E0,X0⟩ (h:=tkG 1 ⟨H0,D0,E0,X0⟩ (h:=tkG 2 ⟨H0,D0,E0,X0⟩ (h:=tkG 3 ⟨H0,D0,E0,X0⟩ (h:=tkG 4 ⟨H0,D0,E0,X0⟩ (h:=tkG 5 ⟨H0,D0,E0,X0⟩ (h:=tkG 6 ⟨H0,D0,E0,X0⟩ (h:=tkG 7 ⟨H0,D0,E0,X0⟩ (h:=tkG 8 ⟨H0,D0,E0,X0⟩ (h:=tkG 9 ⟨H0,D0,E0,X0⟩ (h:=tkG 10 ⟨H0,D0,E0,X0⟩ (h:=tkG 11 ⟨H0,D0,E0,X0⟩ (h:=?_))))))))))));simp only [List.set];refine tkG 12 ⟨H0,D0,E0,X0⟩ (h:=tkG 13 ⟨H0,D0,E0,X0⟩ (h:=?_));simp only [List.set];have nz:=s4.b.frozen 1;refine Cr (by kernel_rfl) ?_;refine oG 14 (fun K hK=> ?_);go_simp;refine hK.out _ _ trivial (fun hZ=> ?_);clear hZ hK K;try simp only [Ag,List.set]
        refine oD ?_;go_simp;have s5:=(s4.sq (max (SQ k) (m.o.sq+1))).non (Fr.refl Non _).drew;have bf:=(Own.setFar (i:=1) af s4.b (by decide) (.int .i64 (max (SQ k) (m.o.sq+1)))).drew;clear nz H0 D0 E0 X0 s4 af et;generalize (w4.setCell ⟨w.heap.size+1,1,none⟩ (.int .i64 (max (SQ k) (m.o.sq+1)))).drew=w5 at*;go_wp2_with (fail);go_roundw
        case rel=>exact ⟨k+1,by go_num,by omega,by rw [dh.out];exact s5,bf⟩
        case measure=>simp [intOf];omega
      · rw [if_neg hby] at dh
        have t1:(m.o.by_==x.by_)=false:=beq_eq_false_iff_ne.2 hby;clear ck hm;go_wp2_with (fail);go_roundw
        case rel=>exact ⟨k+1,by go_num,by omega,by rw [dh.out];exact s4,af⟩
        case measure=>simp [intOf];omega
    · obtain rfl:k=M:=by omega
      have t0:decide ((k:Int)<k)=false:=decide_eq_false (by omega);have dp:decide (k<k)=false:=decide_eq_false (by omega)
      have ds:Hid (SQ k=Aj r.l (Ad r.l (hs.map (nmP r.l))) x.by_ r.l.length+1):=by
        show _=_;rw [← hSQ,← hM.out];exact Ab1 h.rows (by rw [hN.out];omega) cb.out (by intro p hp;rw [hN.out];exact hlt.out p hp) _
      have e6:=bv.out k;obtain ⟨S,hS⟩:=Aa (SQ k);rw [hS.out] at ds e6 s3;clear av bv cj hSQ;clear hS;have bj:Hid (late r.l ((hs.take 0).map (nmP r.l))=0):=rfl
      have bd:Hid (∀k p m,hs[k]? =some p→r.l[p]? =some m→late r.l ((hs.take (k+1)).map (nmP r.l))=max (late r.l ((hs.take k).map (nmP r.l))) m.o.at_):=by
        intro k p m hp hm;have h1:(hs.map (nmP r.l))[k]? =some (nmP r.l p):=by rw [Ag9,hp];rfl
        have h2:=Oe r.l (hs.map (nmP r.l)) k h1;rw [List.map_take,List.map_take];rw [h2,Dw hm,Fc (h.rows.ok p m hm).plc hm]
      have bl:Hid (∀k p m,hs[k]? =some p→r.l[p]? =some m→(hs.take (k+1)).map (nmP r.l)=(hs.take k).map (nmP r.l)++[m.id]):=fun k p m hp hm=>by rw [Co hp,List.map_append,List.map_cons,List.map_nil,Dw hm]
      have a4:Hid (∀k,0≤late r.l ((hs.take k).map (nmP r.l))∧late r.l ((hs.take k).map (nmP r.l))≤42):=fun k=>⟨Qk _ _,Of r.l 42 (by omega) bq.out _⟩;have be:Hid ((hs.take 0).map (nmP r.l)=[]):=rfl;have a6:Hid (late r.l ((hs.take n).map (nmP r.l))=late r.l (hs.map (nmP r.l))):=by show _=_;rw [← hn.out,Ah2]
      have bk:Hid ((hs.take n).map (nmP r.l)=hs.map (nmP r.l)):=by show _=_;rw [← hn.out,Ah2]
      have eo:Hid (∀k,((hs.take k).map (nmP r.l)).length≤k):=fun k=>by rw [List.length_map,Ah4];omega
      obtain ⟨LT,ce⟩:∃LT:Nat→Int,Hid (∀k,LT k=late r.l ((hs.take k).map (nmP r.l))):=⟨_,fun _=>rfl⟩;obtain ⟨NM,cw⟩:∃NM:Nat→List Id,Hid (∀k,NM k=(hs.take k).map (nmP r.l)):=⟨_,fun _=>rfl⟩;replace a4:Hid (∀k,0≤LT k∧LT k≤42):=fun k=>by rw [ce.out];exact a4.out k
      replace bd:Hid (∀k p m,hs[k]? =some p→r.l[p]? =some m→LT (k+1)=max (LT k) m.o.at_):=fun k p m h1 h2=>by rw [ce.out,ce.out];exact bd.out k p m h1 h2
      replace bl:Hid (∀k p m,hs[k]? =some p→r.l[p]? =some m→NM (k+1)=NM k++[m.id]):=fun k p m h1 h2=>by rw [cw.out,cw.out];exact bl.out k p m h1 h2
      replace be:Hid (NM 0=[]):=(cw.out 0).trans be.out;replace bj:Hid (LT 0=0):=(ce.out 0).trans bj.out;replace a6:Hid (LT n=late r.l (hs.map (nmP r.l))):=(ce.out n).trans a6.out;replace bk:Hid (NM n=hs.map (nmP r.l)):=(cw.out n).trans bk.out;clear ce cw eo;generalize wr=wb at*;go_wp2_with (fail)
      go_loopw [9,10] (fun t v wr=>∃(j:Nat) (Ap:Option Addr) (cp:Nat),v=.int .i64 (j:Int)∧t=.int .i64 (LT j)∧j≤n∧Bg w wr r.cells x S x.at_ Ap j cp (NM j)∧Own wr (w.heap.size+3) 3 1 A7 k c7 (ys.map Qv)) (fun _ v _=>n-(intOf v).toNat)
      case atStart=>exact ⟨0,none,0,rfl,by rw [bj.out],Ag8 _,by rw [be.out];exact s3,a3⟩
      case round=>
        obtain ⟨j,Ap,cp,rfl,rfl,hj,s4,af⟩:=hrel;clear s3 a3
        by_cases hjn:j<n
        · obtain ⟨p,cf⟩:∃p,hs[j]? =some p:=⟨_,Ag1 (by rw [hn.out];exact hjn)⟩
          have db:=hlt.out p (Ag2 cf);obtain ⟨m,b,ac,hm,rfl,c0,c1,c3⟩:=ag.out p db;obtain ⟨m',bi,oi,dc,rfl,d0,d1,d2⟩:=aj.out p db;obtain rfl:m'=m:=by rw [hm] at dc;injection dc with dc;exact dc.symm
          obtain ⟨b4,o4,u4,rfl,_,di,c6⟩:=hr.at hjn;rw [Ag9,cf] at di;injection di with di
          subst di;replace c6:w.cell? ⟨b4,o4+j,none⟩=some (.int .i64 (p:Int)):=c6;have d7:=s4.f.cell c6 zq;have fp:=Lib.hid (bd.out j p m' cf hm);have ev:=Lib.hid (bl.out j p m' cf hm);have d9:=a4.out j;have fv:=bq.out m' (Ag2 hm);have i1:(0:Int)≤j:=by omega
          have i2:(j:Int)<n:=by omega
          have i3:(j:Int).toNat=j:=by omega
          have p1:(0:Int)≤p:=by omega
          have p2:(p:Int)<N:=by omega
          have p3:(p:Int).toNat=p:=by omega
          have t0:decide ((j:Int)<n)=true:=decide_eq_true i2;have dp:decide (j<n)=true:=decide_eq_true hjn;have e1:IntKind.i64.wrap ((j:Int)+1)=(j:Int)+1:=IntWalk.i64_in _ (by omega);have f4:=s4.f;have ch:=s4.past.row;have e5:=s4.sz;have ef:=Lib.hid cf;clear cf hm c0 c1;go_upto_region 12 with (fail)
          have F0:Fr Non wr wr.drew:=(Fr.refl Non wr).drew;have Hb:wr.cell? ⟨w.heap.size,2,none⟩=some (.slice (some ⟨bi,oi,none⟩) N IC):=(s4.g.cell 2).trans g2.out;have Db:wr.cell? ⟨b4,o4+j,none⟩=some (.int .i64 (p:Int)):=d7;have Ib:=f4.cell d0 zq;have Jb:=f4.cell d1 zq;have Kb:=f4.cell d2 zq;have Pb:wr.cell? ⟨w.heap.size+1,4,none⟩=some (.slice Ap j cp):=by have h9:=s4.b.cell 4;have h8:=s4.len;rw [← h8];exact h9
          have H0:wr.drew.cell? ⟨w.heap.size,2,none⟩=some (.slice (some ⟨bi,oi,none⟩) N IC):=Hb;have D0:wr.drew.cell? ⟨b4,o4+j,none⟩=some (.int .i64 (p:Int)):=Db;have I0:wr.drew.cell? ⟨bi,oi+p*3,none⟩=some (.int .i64 m'.id.b):=Ib;have J0:wr.drew.cell? ⟨bi,oi+p*3+1,none⟩=some (.int .i64 m'.id.s):=Jb;have K0:wr.drew.cell? ⟨bi,oi+p*3+2,none⟩=some (.int .u64 (m'.id.u:Int)):=Kb;have P0:wr.drew.cell? ⟨w.heap.size+1,4,none⟩=some (.slice Ap j cp):=Pb;clear d7 aj ag;refine Cw (S:=fun w'=>w'.cell? ⟨w.heap.size,2,none⟩=some (.slice (some ⟨bi,oi,none⟩) N IC)∧w'.cell? ⟨b4,o4+j,none⟩=some (.int .i64 (p:Int))∧w'.cell? ⟨bi,oi+p*3,none⟩=some (.int .i64 m'.id.b)∧w'.cell? ⟨bi,oi+p*3+1,none⟩=some (.int .i64 m'.id.s)∧w'.cell? ⟨bi,oi+p*3+2,none⟩=some (.int .u64 (m'.id.u:Int))∧w'.cell? ⟨w.heap.size+1,4,none⟩=some (.slice Ap j cp)) 13 (by kernel_rfl) ?_;refine tkG 0 ⟨H0,D0,I0,J0,K0,P0⟩ (h:=tkG 1 ⟨H0,D0,I0,J0,K0,P0⟩ (h:=tkG 2 ⟨H0,D0,I0,J0,K0,P0⟩ (h:=tkG 3 ⟨H0,D0,I0,J0,K0,P0⟩ (h:=tkG 4 ⟨H0,D0,I0,J0,K0,P0⟩ (h:=tkG 5 ⟨H0,D0,I0,J0,K0,P0⟩ (h:=tkG 6 ⟨H0,D0,I0,J0,K0,P0⟩ (h:=tkG 7 ⟨H0,D0,I0,J0,K0,P0⟩ (h:=tkG 8 ⟨H0,D0,I0,J0,K0,P0⟩ (h:=tkG 9 ⟨H0,D0,I0,J0,K0,P0⟩ (h:=?_))))))))));simp only [List.set];refine Bj 10 (by kernel_rfl) rfl (fun K hK=> ?_);go_simp;have ay:=(Blk.new wr 41 m'.id.V).drew;have F1:Fr Non wr (wr.alloc (.cells m'.id.V 41)).drew:=((Fr.refl _ _).alloc _).drew;generalize (wr.alloc (.cells m'.id.V 41)).drew=v1 at*;have H1:=F1.cell Hb zq;have D1:=F1.cell Db zq;have I1:=F1.cell Ib zq;have J1:=F1.cell Jb zq;have K1:=F1.cell Kb zq;have P1:=F1.cell Pb zq;refine hK.out _ _ ⟨H1,D1,I1,J1,K1,P1⟩ (fun hZ=> ?_);clear hZ hK K;try simp only [Ag,List.set]
          have s5:=s4.non F1;refine Bj 11 (by kernel_rfl) rfl (fun K hK=> ?_);refine Du (base:=w.heap.size+3) (.tmp 55) (.tmp 64) 25 rfl rfl rfl Ct s5.past (Rd.blk (n:=1) (size:=3) ay rfl) (by simp [Value.oneCell']) (by omega) (by omega) (Af8 e5 F1.size) ?_;intro A8 c8 v2 ax bp dq;have fS:∀q,Ab Ap=some q→w.heap.size+3≤q:=fun q e=>(ch q e).1;have f8:Fr Non w v2:=s5.f.trans bp (fun q hq e=>by have h9:=fS q e;omega);have H2:=(s5.g.fr bp (fun e=>by have h9:=fS _ e;omega)).cell 2|>.trans g2.out;have D2:=f8.cell c6 zq;have I2:=f8.cell d0 zq;have J2:=f8.cell d1 zq;have K2:=f8.cell d2 zq;have P2:v2.cell? ⟨w.heap.size+1,4,none⟩=some (.slice Ap j cp):=by have h9:=(s5.b.fr bp (fun e=>by have h9:=fS _ e;omega)).cell 4;have h8:=s5.len;rw [← h8];exact h9
          refine hK.out _ _ ⟨H2,D2,I2,J2,K2,P2⟩ (fun hZ=> ?_);clear hZ hK K;try simp only [Ag,List.set]
          refine tkG 12 ⟨H2,D2,I2,J2,K2,P2⟩ (h:=?_);simp only [List.set];have nz:=(s5.b.fr bp (fun e=>by have h9:=fS _ e;omega)).frozen 4;refine Cr (by kernel_rfl) ?_;refine oG 13 (fun K hK=> ?_);go_simp;refine hK.out _ _ trivial (fun hZ=> ?_);clear hZ hK K;try simp only [Ag,List.set]
          refine oD ?_;go_simp
          have ct:Own v2 (w.heap.size+3) 41 3 A8 (j+1) c8 ((NM (j+1)).flatMap Id.cells):=by
            rw [ev.out,Ag7];exact ax
          have s6:=s5.past! bp fS ct (by rw [ev.out,Af9,s5.len];rfl);have au:=Own.setFar (i:=4) (Own.grow2 (af.fr F1 zr) s5.past (by decide) bp) (s5.b.fr bp (fun e=>by have h9:=fS _ e;omega)) (by decide) (.slice A8 (j+1) c8);clear s5 s4 af ax ct bp dq ay F0 F1 f8 f4 fS ch nz Hb Db Ib Jb Kb Pb H0 D0 I0 J0 K0 P0 H1 D1 I1 J1 K1 P1 H2 D2 I2 J2 K2 P2 d0 d1 d2 c6 e5;generalize v2.setCell ⟨w.heap.size+1,4,none⟩ (.slice A8 (j+1) c8)=v6 at*;go_upto_region 13 with (fail)
          have F0:Fr Non v6 v6.drew:=(Fr.refl Non v6).drew;have f6:=s6.f;obtain ⟨b8,o8,u8,e8,_,dj,d7⟩:=(hr.fr f6 zr).at hjn;injection e8 with e8
          injection e8 with e8 e9
          subst e8;subst e9;rw [Ag9,ef.out] at dj;injection dj with dj
          subst dj;have H0:v6.drew.cell? ⟨w.heap.size,1,none⟩=some (.slice (some ⟨b,ac,none⟩) N LC):=(s6.g.cell 1).trans g1.out;have D0:v6.drew.cell? ⟨b4,o4+j,none⟩=some (.int .i64 (p:Int)):=d7;have E0:v6.drew.cell? ⟨b,ac+p*27+3,none⟩=some (.int .i64 m'.o.at_):=f6.cell c3 zq;refine wp_region_held_drew (S:=fun w'=>w'.cell? ⟨w.heap.size,1,none⟩=some (.slice (some ⟨b,ac,none⟩) N LC)∧w'.cell? ⟨b4,o4+j,none⟩=some (.int .i64 (p:Int))∧w'.cell? ⟨b,ac+p*27+3,none⟩=some (.int .i64 m'.o.at_)) (by kernel_rfl) ⟨H0,D0,E0⟩ (fun hHeld=> ?_);clear hHeld;refine tkH 0 ⟨H0,D0,E0⟩ (h:=tkH 1 ⟨H0,D0,E0⟩ (h:=tkH 2 ⟨H0,D0,E0⟩ (h:=tkH 3 ⟨H0,D0,E0⟩ (h:=tkH 4 ⟨H0,D0,E0⟩ (h:=tkH 5 ⟨H0,D0,E0⟩ (h:=tkH 6 ⟨H0,D0,E0⟩ (h:=tkH 7 ⟨H0,D0,E0⟩ (h:=tkH 8 ⟨H0,D0,E0⟩ (h:=tkH 9 ⟨H0,D0,E0⟩ (h:=tkH 10 ⟨H0,D0,E0⟩ (h:=tkH 11 ⟨H0,D0,E0⟩ (h:=?_))))))))))));simp only [List.set];refine oD ?_;go_simp;have s7:=s6.non F0;have ab:=au.drew;clear s6 au F0 f6 H0 D0 E0 c3 d7;generalize v6.drew=v7 at*;go_wp2_with (fail);go_roundw
          case rel=>exact ⟨j+1,A8,c8,by go_num,by rw [fp.out],by omega,s7,ab⟩
          case measure=>simp [intOf];omega
        · obtain rfl:j=n:=by omega
          have t0:decide ((j:Int)<j)=false:=decide_eq_false (by omega);have dp:decide (j<j)=false:=decide_eq_false (by omega);clear bd bl be bj ag aj;have d9:=a4.out j;obtain ⟨T,hT⟩:=Aa (LT j);rw [hT.out] at a6 d9 ⊢;rw [bk.out] at s4;have e1:IntKind.i64.wrap (x.at_+T)=x.at_+T:=IntWalk.i64_in _ (by omega);have z3:wr.cell? ⟨w.heap.size+1,3,none⟩=some (.int .i64 x.at_):=s4.b.cell 3;have zf:=s4.b.frozen 3;go_upto_region 15 with (fail)
          have s5:=s4.at_ (x.at_+T);have bf:=Own.setFar (i:=3) af s4.b (by decide) (.int .i64 (x.at_+T));clear s4 af z3 zf a4 bk hT;generalize wr.setCell ⟨w.heap.size+1,3,none⟩ (.int .i64 (x.at_+T))=v1 at*;have bc:Hid ((hs.map (nmP r.l)).length=j):=by show _=_;rw [List.length_map,hn.out]
          have ks:=Lib.hid (Ti v1.heap.size j cp Ap (hs.map (nmP r.l)) v1 bc.out s5.past.rd (by omega));have z4:v1.cell? ⟨w.heap.size+1,4,none⟩=some (.slice Ap j cp):=by have h9:=s5.b.cell 4;have h8:=s5.len;rw [← h8];exact h9
          have b1:=s5.b;have df:=s5.sz;go_upto_region 16 with (go_at_call 46;(with_reducible refine (ks.out).mono ?_);rintro _ v2 ⟨A9,c9,rfl,o9,f9⟩;(have z5:=f9.cell z4 zq);(have zf:=(b1.fr f9 zq).frozen 4))
          have s6:=s5.past! f9 (fun _ e=>e.elim) (Fh o9 df) (by rw [P8];exact bc.out);have au:=Own.setFar (i:=4) (bf.fr f9 zr) (b1.fr f9 zq) (by decide) (.slice A9 j c9);clear s5 bf ks z4 b1 df z5 zf o9 f9;generalize v2.setCell ⟨w.heap.size+1,4,none⟩ (.slice A9 j c9)=v3 at*
          have co:Hid ((x.put S (x.at_+T) A9 c9 (Ak (hs.map (nmP r.l)))).op=Bd r.l x.op hs):=by
            show _=_;unfold Bd;show _=({x.op with sq:=Aj r.l (Ad r.l (hs.map (nmP r.l))) x.by_ r.l.length+1,at_:=x.at_+late r.l (hs.map (nmP r.l)),past:=Ak (hs.map (nmP r.l))}:Op);rw [← ds.out,← a6.out];rfl
          have a7:Hid ((x.put S (x.at_+T) A9 c9 (Ak (hs.map (nmP r.l)))).op.ok):={hok with sq:=(show I64 S from ⟨by omega,by omega⟩),at_:=(show I64 (x.at_+T) from ⟨by omega,by omega⟩),past:=⟨by
              show (Ak (hs.map (nmP r.l))).length≤1000;rw [P8,bc.out];omega,fun y hy=>by
              obtain ⟨p,hp,rfl⟩:=List.mem_map.1 ((Cg _).mem_iff.1 hy);have fd:p<r.l.length:=by rw [hN.out];exact hlt.out p hp
              rw [Dw (Ag1 fd)];exact (h.ok _ (Ah5 fd)).2⟩}
          generalize hPS:hs.map (nmP r.l)=PS at*;have ba:Hid (∀(v:World) (CS:Array Value),Bg w v CS x S (x.at_+T) A9 j c9 (Ak PS)→(x.put S (x.at_+T) A9 c9 (Ak PS)).lies v base):=fun v _ s=>(hx.non s.f).put (by have h8:=s.len;have h9:=(RowAt.of_own s.past).lies.lower (base':=base) (by omega);rw [h8];exact h9);generalize hY:x.put S (x.at_+T) A9 c9 (Ak PS)=Y at*;obtain ⟨aa,ak⟩:=Aa (Bd r.l x.op hs).name;have dv:Y.op.name=aa:=by rw [co.out,ak.out]
          have fe:=Lib.hid (Zk Y aa dv v3 ((ba.out v3 _ s6).at) a7.out);have bs:(Tryz.prog.info? 67).map (·.size)=some Y.cells.size:=by rw [show Y.cells.size=27 from rfl];kernel_rfl
          have ez:=Cf (P:=Tryz.prog) (w.heap.size+1) 67 Tryz.underlying67 rfl (cs:=Y.cells) bs;have bx:Blk v3 (w.heap.size+1) 67 Y.cells:=hY▸s6.b;go_upto_region 17 with (go_at_call 55;(with_reducible refine (fe.out).mono ?_);rintro _ v4 ⟨rfl,f4⟩;(have en:=Bq (P:=Tryz.prog) v4.heap.size 41 (cs:=aa.V) Gy (old:=#[.int .i64 0,.int .i64 0,.int .u64 0]) rfl (Gz _ _ _));(have bn:=Blk.new v4 41 #[.int .i64 0,.int .i64 0,.int .u64 0]))
          have bz:=bn.setRow (cs:=aa.V);have fz:Fr Non v4 ((v4.alloc (.cells #[.int .i64 0,.int .i64 0,.int .u64 0] 41)).setRow v4.heap.size aa.V):=((Fr.refl Non v4).alloc _).setRow (fun hh=>absurd hh (by omega)) _;have s7:=(s6.non f4).non fz;have ab:=(au.fr f4 zr).fr fz zr;have cx:w.heap.size+3≤v4.heap.size:=Af8 s6.sz f4.size;obtain ⟨gi,fn⟩:=Aa v4.heap.size;rw [fn.out] at bz fz s7 ab cx ⊢;clear en bn bx fe f4 s6 au;generalize (v4.alloc (.cells #[.int .i64 0,.int .i64 0,.int .u64 0] 41)).setRow gi aa.V=v5 at*;clear fz;have a0:=bz.cell 0;have a1:=bz.cell 1;have a2:=bz.cell 2;have fq:=(s7.g.cell 2).trans g2.out;have dl:=Lib.hid (h.rdIds.fr s7.f zr);rw [hN.out,cr.out] at dl;have b6:=Lib.hid (Hk w.heap.size N IC IA r.ids aa v5 (by show _=_;rw [FG.ids_len,hN.out]) dl.out (by omega));have ey:Ca r.ids aa=(plc r.l aa).isSome:=Ab2 r.l aa;rw [ey] at b6;clear ey;unfold Ac at b6
          cases hc:(plc r.l aa).isSome
          case true=>
            rw [hc] at b6
            have ff:C8 r.l x.op hs=r.l:=by
              unfold C8;rw [ak.out,if_pos hc]
            have fj:=Bq (P:=Tryz.prog) (w.heap.size+2) 28 (cs:=r.cells) Bp (old:=#[.slice none 0 0,.slice none 0 0,.slice none 0 0,.slice none 0 0]) rfl (Ek r);have c5:Hid (∀v',Fr Non w v'→Fi base r x.op hs w (.returned (.agg r.cells)) v'):=fun v' hv=>⟨r,rfl,hv,h.non hv,rfl,ff.symm⟩;clear ff hin hx h ez bs co a7 ba dv dl ab
            as_aux_lemma=>
            go_wp2_with (go_at_call 14;(with_reducible refine (b6.out).mono ?_);rintro _ v6 ⟨rfl,f6⟩;(have s8:=s7.non f6);(have bg:=s8.g);(have br:=s8.r));have dt:=br.setRow (cs:=r.cells);have fz:=s8.f.setRow (g:=w.heap.size+2) (fun hh=>absurd hh (by omega)) r.cells;have em:=Lib.hid (c5.out _ fz)
            (try simp only [Exit.inBlock,Exit.then])
            refine Dr (t:=28) rfl rfl dt rfl Tryz.underlying28 Bp rfl ?_;exact em.out
          case false=>
            rw [hc] at b6
            have bm:plc r.l (Bd r.l x.op hs).name=none:=by
              rw [ak.out]
              cases hq:plc r.l aa with
              |none=>rfl
              |some q=>rw [hq] at hc;cases hc
            obtain ⟨c4,fc⟩:=hin bm;obtain ⟨d,fs,ft⟩:=hdev;have fi:Y.by_=(d:Int):=by rw [← hY];exact fs
            have kS:=Lib.hid (fun (v:World) (hl:Y.lies v base)=>Ab0 Y d base v fi ft hl a7.out)
            have bh:Hid (∀(z:OpL) (lA iA pA:Option Addr) (lC iC pC:Nat) (wz:World),Fr Non w wz→z.op=sgn Y.op→z.lies wz base→
                Own wz (w.heap.size+3) 67 27 lA (N+1) lC (r.xs.flatMap (fun x=>x.cells.toList)++z.cells.toList)→
                Own wz (w.heap.size+3) 41 3 iA (N+1) iC (r.ids.flatMap Id.cells++aa.V.toList)→
                Own wz (w.heap.size+3) 22 1 pA (N+1) pC (r.ps.map UpL.cell++[.slice A7 k c7])→
                Own wz (w.heap.size+3) 3 1 A7 k c7 (ys.map Qv)→
                Fi base r x.op hs w (.returned (.agg #[.slice r.cA r.cards.length r.cC,.slice lA (N+1) lC,.slice iA (N+1) iC,.slice pA (N+1) pC])) wz):=by
              intro z lA iA pA lC iC pC wz hf hz de oL oI oU o7;refine Ab9 h hb hf (by rw [hz,co.out]) de (by rw [← co.out];exact a7.out) cb.out (by intro p hp;rw [hN.out];exact hlt.out p hp) (by rw [ak.out];exact hc) c4 fc hN.out hM.out oL (by rw [ak.out];exact oI) oU o7
            have dw:=Lib.hid (h.ops.sl.rd);rw [hN.out,dk.out] at dw;have ec:=Lib.hid h.rdIds;rw [hN.out,cr.out] at ec;have el:=Lib.hid (h.pasts.sl.rd);rw [hN.out] at el;have cq:=Lib.hid (Ab7 r.xs);have bt:=Lib.hid (Id.cells_one r.ids);have d5:=Lib.hid (Ab8 r.ps);have g0:Hid (r.cells[0]? =some (.slice r.cA r.cards.length r.cC)):=rfl
            have fg:Hid (r.cells=#[.slice r.cA r.cards.length r.cC,.slice LA N LC,.slice IA N IC,.slice r.pA N r.pC]):=by
              show _=_;unfold FG.cells;rw [hN.out,dk.out,d4.out,cr.out,dx.out]
            clear c4 fc hin hx h bs co bm ak dv dl dk d4 cr dx ds d9 a6 bc hPS hlt cb cg bw bq hn hr hp hM hok e6;rw [fg.out] at s7 hl g1 g2 g3 g0;obtain ⟨CA,ep⟩:=Aa r.cA;obtain ⟨nc,ek⟩:=Aa r.cards.length;obtain ⟨CC,d8⟩:=Aa r.cC;obtain ⟨PA,dy⟩:=Aa r.pA;obtain ⟨PC,fh⟩:=Aa r.pC;rw [ep.out,ek.out,d8.out,dy.out,fh.out] at s7 hl g1 g2 g3 g0;rw [ep.out,ek.out,d8.out] at bh;rw [dy.out] at el;clear fg ep ek d8 dy fh;generalize Fi base r x.op hs w=POST at*;generalize r.xs.flatMap (fun x=>x.cells.toList)=LL at*;generalize r.ids.flatMap Id.cells=IL at*;generalize r.ps.map UpL.cell=UL at*;go_upto_region 19 with (go_at_call 14;(with_reducible refine (b6.out).mono ?_);rintro _ v6 ⟨rfl,f6⟩)
            have s8:=s7.non f6;have ax:=ab.fr f6 zr;have e7:=bz.fr f6 zq;clear s7 ab bz a0 a1 a2 fq f6 b6;have F0:Fr Non v6 v6.drew:=(Fr.refl Non v6).drew;have ei:=s8.sz;have X0:Blk v6 (w.heap.size+1) 67 Y.cells:=hY▸s8.b;have G0:v6.cell? ⟨w.heap.size,1,none⟩=some (.slice LA N LC):=(s8.g.cell 1).trans g1.out;have er:=Lib.hid (dw.out.fr s8.f zr);refine Cw (S:=fun w'=>Blk w' (w.heap.size+1) 67 Y.cells∧w'.cell? ⟨w.heap.size,1,none⟩=some (.slice LA N LC)) 8 (by kernel_rfl) ?_;refine tkG 0 ⟨X0,G0⟩ (h:=tkG 1 ⟨X0,G0⟩ (h:=tkG 3 ⟨X0,G0⟩ (h:=?_)));simp only [List.set];refine Bj 2 (by kernel_rfl) rfl (fun K hK=> ?_);refine Du (base:=w.heap.size+3) (.const (.slice none 0 0)) (.tmp 95) 24 rfl rfl rfl Kr (Own.nil _ _ _ _) (er.out.fr F0 zr) cq.out (by omega) (by omega) ei ?_;intro lA lC v1 oL fL ae;rw [Ag3,Ah0] at oL;have F1:Fr Non v6 v1:=F0.trans (Gs fL) zr;have a8:∀k,Ab lA=some k→v6.heap.size≤k:=fun k hk=>by rcases ae with e|e;(rw [e] at hk;cases hk);(rw [e] at hk;injection hk with hk;have fu:v6.heap.size=k:=hk;omega)
            have X1:=X0.fr F1 zq;have G1:=F1.cell G0 zq;refine hK.out _ _ ⟨X1,G1⟩ (fun hZ=> ?_);clear hZ hK K;try simp only [Ag3,Ag,List.set]
            refine Bj 4 (by kernel_rfl) rfl (fun K hK=> ?_);go_simp;go_wp2_with (go_at_call 56;(with_reducible refine (kS.out _ (ba.out _ _ (s8.non F1))).mono ?_);rintro _ v2 ⟨z,rfl,ew,de,f2⟩;have F2:=F1.trans f2 zr;have e4:=oL.fr f2 zr);have X2:=X0.fr F2 zq;have G2:=F2.cell G0 zq;refine hK.out _ _ ⟨X2,G2⟩ (fun hZ=> ?_);clear hZ hK K;try simp only [Ag,List.set]
            have fw:=Ab5 z;refine Bj 5 (by kernel_rfl) rfl (fun K hK=> ?_);go_simp;have ay:=Blk.new v2 67 z.cells;have eg:=e4.alloc (.cells z.cells 67);have F3:Fr Non v6 (v2.alloc (.cells z.cells 67)):=F2.alloc _;have cm:=de.non ((Fr.refl Non v2).alloc (.cells z.cells 67));obtain ⟨ga,cc⟩:=Aa v2.heap.size;rw [cc.out] at ay ⊢;generalize v2.alloc (.cells z.cells 67)=v3 at*;have X3:=X0.fr F3 zq;have G3:=F3.cell G0 zq;refine hK.out _ _ ⟨X3,G3⟩ (fun hZ=> ?_);clear hZ hK K;try simp only [Ag,List.set]
            refine Bj 6 (by kernel_rfl) rfl (fun K hK=> ?_);refine Du (base:=w.heap.size+3) (.tmp 96) (.tmp 99) 24 rfl rfl rfl Kr eg (Rd.blk (n:=1) (size:=27) ay rfl) (Q7 z) (by omega) (by omega) (Af8 ei F3.size) ?_;intro ai ah v4 eu ed ej;have F4:Fr Non v6 v4:=F3.trans ed (fun k hk e=>by have h9:=a8 k e;omega);have c2:=cm.keepP ed (Types.row eg) (by decide) (by decide) (by decide) (by decide) (by decide) (by decide) (by decide);have X4:=X0.fr F4 zq;have G4:=F4.cell G0 zq;refine hK.out _ _ ⟨X4,G4⟩ (fun hZ=> ?_);clear hZ hK K;try simp only [Ag,List.set]
            refine tkG 7 ⟨X4,G4⟩ (h:=?_);simp only [List.set];have s9:=s8.non F4;have nz:=s9.g.frozen 1;refine Cr (by kernel_rfl) ?_;refine oG 8 (fun K hK=> ?_);go_simp;refine hK.out _ _ trivial (fun hZ=> ?_);clear hZ hK K;try simp only [Ag,List.set]
            refine oD ?_;go_simp;have t9:=s9.setG 1 (.slice ai (N+1) ah);have dn:=Own.setFar (i:=1) eu s9.g (by decide) (.slice ai (N+1) ah);have ea:=Own.setFar (i:=1) (ax.fr F4 zr) s9.g (by decide) (.slice ai (N+1) ah);have dg:=(e7.fr F4 zq).far (p:=⟨w.heap.size,1,none⟩) (by have h9:=cx;show gi≠w.heap.size;omega) (.slice ai (N+1) ah);have eh:=c2.setG s9.g 1 (.slice ai (N+1) ah);generalize v4.setCell ⟨w.heap.size,1,none⟩ (.slice ai (N+1) ah)=w9 at*;change Bg w w9 #[.slice CA nc CC,.slice ai (N+1) ah,.slice IA N IC,.slice PA N PC] x S (x.at_+T) A9 j c9 (Ak PS) at t9;clear s9 s8 oL e4 eg eu fL ed ae ej a8 F0 F1 F2 F3 F4 X0 X1 X2 X3 X4 G0 G1 G2 G3 G4 f2 ay cc nz er cq dw de cm c2 fw kS ez ax e7 hl ba ei;go_upto_region 20 with (fail)
            have cy:=t9.sz;have dr:=Lib.hid (ec.out.fr t9.f zr)
            go_cut [7] from 102 to 108 (fun s wc=>s=.slice A7 k c7∧∃iA iC,Bg w wc #[.slice CA nc CC,.slice ai (N+1) ah,.slice iA (N+1) iC,.slice PA N PC] x S (x.at_+T) A9 j c9 (Ak PS)∧Own wc (w.heap.size+3) 41 3 iA (N+1) iC (IL++aa.V.toList)∧Own wc (w.heap.size+3) 67 27 ai (N+1) ah (LL++z.cells.toList)∧Own wc (w.heap.size+3) 3 1 A7 k c7 (ys.map Qv)∧z.lies wc base)
            case first=>
              clear bh
              as_aux_lemma=>
              have F0:Fr Non w9 w9.drew:=(Fr.refl Non w9).drew;have G0:w9.cell? ⟨w.heap.size,2,none⟩=some (.slice IA N IC):=t9.g.cell 2;have I0:w9.cell? ⟨gi,0,none⟩=some (.int .i64 aa.b):=dg.cell 0;have J0:w9.cell? ⟨gi,1,none⟩=some (.int .i64 aa.s):=dg.cell 1;have K0:w9.cell? ⟨gi,2,none⟩=some (.int .u64 (aa.u:Int)):=dg.cell 2;refine Cw (S:=fun w'=>w'.cell? ⟨w.heap.size,2,none⟩=some (.slice IA N IC)∧w'.cell? ⟨gi,0,none⟩=some (.int .i64 aa.b)∧w'.cell? ⟨gi,1,none⟩=some (.int .i64 aa.s)∧w'.cell? ⟨gi,2,none⟩=some (.int .u64 (aa.u:Int))) 7 (by kernel_rfl) ?_;refine tkG 0 ⟨G0,I0,J0,K0⟩ (h:=tkG 1 ⟨G0,I0,J0,K0⟩ (h:=tkG 3 ⟨G0,I0,J0,K0⟩ (h:=?_)));simp only [List.set];refine Ab6 2 4 (by kernel_rfl) rfl rfl (fun K hK=> ?_) (fun K hK=> ?_)
              · skip
                refine Du (base:=w.heap.size+3) (.const (.slice none 0 0)) (.tmp 103) 25 rfl rfl rfl Ct (Own.nil _ _ _ _) (dr.out.fr F0 zr) bt.out (by omega) (by omega) cy ?_;intro iA iC v1 oI fI ae;rw [Ag3,Ah0] at oI;have F1:Fr Non w9 v1:=F0.trans (Gs fI) zr;have a8:∀k,Ab iA=some k→w9.heap.size≤k:=fun k hk=>by rcases ae with e|e;(rw [e] at hk;cases hk);(rw [e] at hk;injection hk with hk;have fu:w9.heap.size=k:=hk;omega)
                have G1:=F1.cell G0 zq;have I1:=F1.cell I0 zq;have J1:=F1.cell J0 zq;have K1:=F1.cell K0 zq;refine hK.out _ _ ⟨G1,I1,J1,K1⟩ (fun hZ=> ?_);clear hZ hK K;try simp only [Ag3,Ag,List.set]
                refine Bj 4 (by kernel_rfl) rfl (fun K hK=> ?_);go_simp;have ay:=Blk.new v1 41 aa.V;have fo:=oI.alloc (.cells aa.V 41);have F2:Fr Non w9 (v1.alloc (.cells aa.V 41)):=F1.alloc _;obtain ⟨ga,cc⟩:=Aa v1.heap.size;rw [cc.out] at ay ⊢;generalize v1.alloc (.cells aa.V 41)=v2 at*;have G2:=F2.cell G0 zq;have I2:=F2.cell I0 zq;have J2:=F2.cell J0 zq;have K2:=F2.cell K0 zq;refine hK.out _ _ ⟨G2,I2,J2,K2⟩ (fun hZ=> ?_);clear hZ hK K;try simp only [Ag,List.set]
                refine Bj 5 (by kernel_rfl) rfl (fun K hK=> ?_);refine Du (base:=w.heap.size+3) (.tmp 104) (.tmp 106) 25 rfl rfl rfl Ct fo (Rd.blk (n:=1) (size:=3) ay rfl) (by simp [Value.oneCell']) (by omega) (by omega) (Af8 cy F2.size) ?_;intro ao al v3 ee d6 bu;have F3:Fr Non w9 v3:=F2.trans d6 (fun k hk e=>by have h9:=a8 k e;omega);have G3:=F3.cell G0 zq;have I3:=F3.cell I0 zq;have J3:=F3.cell J0 zq;have K3:=F3.cell K0 zq;refine hK.out _ _ ⟨G3,I3,J3,K3⟩ (fun hZ=> ?_);clear hZ hK K;try simp only [Ag,List.set]
                refine tkG 6 ⟨G3,I3,J3,K3⟩ (h:=?_);simp only [List.set];have ad:=t9.non F3;have nz:=ad.g.frozen 2;refine Cr (by kernel_rfl) ?_;refine oG 7 (fun K hK=> ?_);go_simp;have eb:=ad.setG 2 (.slice ao (N+1) al);have b0:=Own.setFar (i:=2) ee ad.g (by decide) (.slice ao (N+1) al);have b3:=Own.setFar (i:=2) (dn.fr F3 zr) ad.g (by decide) (.slice ao (N+1) al);have ca:=Own.setFar (i:=2) (ea.fr F3 zr) ad.g (by decide) (.slice ao (N+1) al);have b9:=(eh.non F3).setG ad.g 2 (.slice ao (N+1) al);refine hK.out _ _ trivial (fun hZ=> ?_);clear hZ hK K;try simp only [Ag,List.set]
                refine oD ?_;go_simp;go_wp2_with (fail);go_meet;exact ⟨rfl,ao,al,eb,b0,b3,ca,b9⟩
              · skip
                go_simp;have a5:=(Blk.new w9 41 aa.V).drew;have F1:Fr Non w9 (w9.alloc (.cells aa.V 41)).drew:=((Fr.refl Non w9).alloc _).drew;have df:=F1.size;obtain ⟨ga,cc⟩:=Aa w9.heap.size;have fm:w9.heap.size≤w9.heap.size:=Ag6 _;rw [cc.out] at a5 ⊢;generalize (w9.alloc (.cells aa.V 41)).drew=v1 at*;have G1:=F1.cell G0 zq;have I1:=F1.cell I0 zq;have J1:=F1.cell J0 zq;have K1:=F1.cell K0 zq;refine hK.out _ _ ⟨G1,I1,J1,K1⟩ (fun hZ=> ?_);clear hZ hK K;try simp only [Ag,List.set]
                refine Bj 2 (by kernel_rfl) rfl (fun K hK=> ?_);refine Du (base:=w.heap.size+3) (.const (.slice none 0 0)) (.tmp 103) 25 rfl rfl rfl Ct (Own.nil _ _ _ _) (dr.out.fr F1 zr) bt.out (by omega) (by omega) (Af8 cy df) ?_;intro iA iC v2 oI fI ae;rw [Ag3,Ah0] at oI;have F2:Fr Non w9 v2:=F1.trans (Gs fI) zr;have ay:=a5.fr (Gs fI) zq;have a8:∀k,Ab iA=some k→w9.heap.size≤k:=fun k hk=>by rcases ae with e|e;(rw [e] at hk;cases hk);(rw [e] at hk;injection hk with hk;omega)
                have G2:=F2.cell G0 zq;have I2:=F2.cell I0 zq;have J2:=F2.cell J0 zq;have K2:=F2.cell K0 zq;refine hK.out _ _ ⟨G2,I2,J2,K2⟩ (fun hZ=> ?_);clear hZ hK K;try simp only [Ag3,Ag,List.set]
                refine Bj 5 (by kernel_rfl) rfl (fun K hK=> ?_);refine Du (base:=w.heap.size+3) (.tmp 104) (.tmp 106) 25 rfl rfl rfl Ct oI (Rd.blk (n:=1) (size:=3) ay rfl) (by simp [Value.oneCell']) (by omega) (by omega) (Af8 cy F2.size) ?_;intro ao al v3 ee d6 bu;have F3:Fr Non w9 v3:=F2.trans d6 (fun k hk e=>by have h9:=a8 k e;omega);have G3:=F3.cell G0 zq;have I3:=F3.cell I0 zq;have J3:=F3.cell J0 zq;have K3:=F3.cell K0 zq;refine hK.out _ _ ⟨G3,I3,J3,K3⟩ (fun hZ=> ?_);clear hZ hK K;try simp only [Ag,List.set]
                refine tkG 6 ⟨G3,I3,J3,K3⟩ (h:=?_);simp only [List.set];have ad:=t9.non F3;have nz:=ad.g.frozen 2;refine Cr (by kernel_rfl) ?_;refine oG 7 (fun K hK=> ?_);go_simp;have eb:=ad.setG 2 (.slice ao (N+1) al);have b0:=Own.setFar (i:=2) ee ad.g (by decide) (.slice ao (N+1) al);have b3:=Own.setFar (i:=2) (dn.fr F3 zr) ad.g (by decide) (.slice ao (N+1) al);have ca:=Own.setFar (i:=2) (ea.fr F3 zr) ad.g (by decide) (.slice ao (N+1) al);have b9:=(eh.non F3).setG ad.g 2 (.slice ao (N+1) al);refine hK.out _ _ trivial (fun hZ=> ?_);clear hZ hK K;try simp only [Ag,List.set]
                refine oD ?_;go_simp;go_wp2_with (fail);go_meet;exact ⟨rfl,ao,al,eb,b0,b3,ca,b9⟩
            case rest=>
            obtain ⟨rfl,iA,iC,ad,oI,oL,o7,zl⟩:=hcut;generalize wc=wd at*;clear t9 dn ea eh dg dr cy ec bt;have b5:=ad.sz;have da:=Lib.hid (el.out.fr ad.f zr);have d3:=ad.g.cell 3;replace d3:wd.cell? ⟨w.heap.size,3,none⟩=some (.slice PA N PC):=d3
            go_upto_region 22 with (first
              |(at_builtin;go_loud (refine Au (base:=w.heap.size+3) (.const (.slice none 0 0)) (.tmp 110) 26 rfl rfl rfl rfl slIi (Own.nil _ _ _ _) da.out d5.out (by omega) (by omega) b5 ?_);intro pA pC v1 oU fU ae;rw [Ag3,Ah0] at oU;have F1:Fr Non wd v1:=Gs fU;have a8:∀k,Ab pA=some k→wd.heap.size≤k:=(fun k hk=>by rcases ae with e|e;(rw [e] at hk;cases hk);(rw [e] at hk;injection hk with hk;omega));have a5:=Blk.new v1 22 #[.slice A7 k c7];have fb:=oU.alloc (.cells #[.slice A7 k c7] 22);have F2:Fr Non wd (v1.alloc (.cells #[.slice A7 k c7] 22)):=F1.alloc _;clear ae fU)
              |(at_builtin;go_loud (refine Au (base:=w.heap.size+3) (.tmp 111) (.tmp 113) 26 rfl rfl rfl rfl slIi fb (Rd.blk (n:=1) (size:=1) a5 rfl) (by simp [Value.oneCell']) (by omega) (by omega) (Af8 b5 F2.size) ?_);intro ap aq v2 es fa bu;have F3:Fr Non wd v2:=F2.trans fa (fun k hk e=>by have h9:=a8 k e;omega);have bb:=ad.non F3;have z3:=bb.g.frozen 3;have n3:v2.cell? ⟨w.heap.size,3,none⟩=some (.slice PA N PC):=bb.g.cell 3))
            have cd:=bb.setG 3 (.slice ap (N+1) aq);have cu:=Own.setFar (i:=3) es bb.g (by decide) (.slice ap (N+1) aq);have cn:=Own.setFar (i:=3) (oI.fr F3 zr) bb.g (by decide) (.slice ap (N+1) aq);have ci:=Own.setFar (i:=3) (oL.fr F3 zr) bb.g (by decide) (.slice ap (N+1) aq);have cz:=Own.setFar (i:=3) (o7.fr F3 zr) bb.g (by decide) (.slice ap (N+1) aq);have cl:=(zl.non F3).setG bb.g 3 (.slice ap (N+1) aq);generalize v2.setCell ⟨w.heap.size,3,none⟩ (.slice ap (N+1) aq)=v13 at*;change Bg w v13 #[.slice CA nc CC,.slice ai (N+1) ah,.slice iA (N+1) iC,.slice ap (N+1) aq] x S (x.at_+T) A9 j c9 (Ak PS) at cd;clear ad bb oI oL o7 zl oU fb es fa bu F1 F2 F3 a5 a8 d3 n3 z3 da b5;have a9:(Tryz.prog.info? 28).map (·.size)=some (#[.slice CA nc CC,.slice ai (N+1) ah,.slice iA (N+1) iC,.slice ap (N+1) aq]:Array Value).size:=Bp;have aw:(#[.slice CA nc CC,.slice ai (N+1) ah,.slice iA (N+1) iC,.slice ap (N+1) aq]:Array Value).all (·.oneCell')=true:=by simp [Value.oneCell']
            have ar:=Lib.hid (bh.out z ai iA ap ah iC aq);obtain ⟨CZ,dz⟩:=Aa (#[.slice CA nc CC,.slice ai (N+1) ah,.slice iA (N+1) iC,.slice ap (N+1) aq]:Array Value);rw [dz.out] at a9 aw ar cd;have fx:=Cf (P:=Tryz.prog) w.heap.size 28 Tryz.underlying28 rfl (cs:=CZ) a9;have fk:=Bq (P:=Tryz.prog) (w.heap.size+2) 28 (cs:=CZ) a9 (old:=#[.slice none 0 0,.slice none 0 0,.slice none 0 0,.slice none 0 0]) (by rw [← dz.out];rfl) aw;have bg:=cd.g;have br:=cd.r;clear dz bh g0 g1 g2 g3 aw;have dt:=br.setRow (cs:=CZ);have fz:=cd.f.setRow (g:=w.heap.size+2) (fun hh=>absurd hh (by omega)) CZ;have fr:=Q5 (w:=v13) (g:=w.heap.size+2) CZ;have az:∀{t size n c:Nat} {A:Option Addr} {xs:List Value},Own v13 (w.heap.size+3) t size A n c xs→Own (v13.setRow (w.heap.size+2) CZ) (w.heap.size+3) t size A n c xs:=fun h=>h.fr fr (fun q hq e=>by have h9:=(h.row q hq).1;have h8:q=w.heap.size+2:=e;omega);have em:=Lib.hid (ar.out _ fz ew (cl.keepP fr (Types.one br) (by decide) (by decide) (by decide) (by decide) (by decide) (by decide) (by decide)) (az ci) (az cn) (az cu) (az cz));clear ar fz fr az ci cn cu cz cl cd ew
            as_aux_lemma=>
            go_wp2_with (fail)
            (try simp only [Exit.inBlock,Exit.then])
            refine Dr (t:=28) rfl rfl dt rfl Tryz.underlying28 a9 rfl ?_;exact em.out
end Oq
end
section
open Go.RowKit
namespace Oq
theorem Rj {cards:List Cd} (hc:cards=Av 0 [1,2,2,3]) {d:Int} (hd:1≤d∧d≤4):∃c,Dn cards d=some c∧c.s=Sg.pub (sec Bf d.toNat):=by
 subst hc;have h4:d=1∨d=2∨d=3∨d=4:=by omega
 show ∃c,List.find? _ [Bt 0 1,Bt 1 2,Bt 2 2,Bt 3 3]=some c∧_
 rcases h4 with rfl|rfl|rfl|rfl
 · exact ⟨Bt 0 1,by rw [Ah1 (by rw [C5];decide)],Gr _ _⟩
 · exact ⟨Bt 1 2,by rw [Ag4 (by rw [C5];decide),Ah1 (by rw [C5];decide)],Gr _ _⟩
 · exact ⟨Bt 2 2,by rw [Ag4 (by rw [C5];decide),Ag4 (by rw [C5];decide),Ah1 (by rw [C5];decide)],Gr _ _⟩
 · exact ⟨Bt 3 3,by rw [Ag4 (by rw [C5];decide),Ag4 (by rw [C5];decide),Ag4 (by rw [C5];decide),Ah1 (by rw [C5];decide)],Gr _ _⟩
def Dl (l:List Pn) (a b:Nat):List Nat:=[a/4%l.length]++(if 0≤C7 l ((1:Int)+(a%4:Nat)) l.length∧0<a/64%5 then [(C7 l ((1:Int)+(a%4:Nat)) l.length).toNat] else [])++(if b%3=0 then [b/3%l.length] else [])
def El (l:List Pn) (a b:Nat):Op:=Ck (if b%2=0 then 7 else 4) ((1:Int)+(a%4:Nat)) 0 ((b/6%4:Nat):Int) [] (nmP l 0) [UInt8.ofNat (65+b/2%3)]
def Lj (l:List Pn) (a b:Nat):List Pn:=C8 l (El l a b) (Cl l (Dl l a b))
def Em (k0:List Int):Nat→List Pn
 |0=>C8 [] (Dt 1) []
 |j+1=>Lj (Em k0 j) (Cj k0 (2*j)) (Cj k0 (2*j+1))
def En (k0:List Int):List Pn:=Em k0 (min 13 (k0.length/2))
theorem Rk {l:List Pn} (hne:l≠[]) (a b:Nat):∀p∈Dl l a b,p<l.length:=by
 have h0:0<l.length:=List.length_pos_iff.2 hne;intro p hp;unfold Dl at hp
 rcases List.mem_append.1 hp with hp|hp
 ·
  rcases List.mem_append.1 hp with hp|hp
  ·
   rw [List.mem_singleton.1 hp];exact Nat.mod_lt _ h0
  ·
   split at hp
   ·
    rename_i hc;rw [List.mem_singleton.1 hp];have:=(K5 l ((1:Int)+(a%4:Nat)) l.length).2;omega
   · cases hp
 ·
  split at hp
  ·
   rw [List.mem_singleton.1 hp];exact Nat.mod_lt _ h0
  · cases hp
theorem Rl (l:List Pn) (a b:Nat):(Dl l a b).length≤3:=by
 unfold Dl;rw [Af9,Af9]
 split<;>split<;>simp
theorem Ad5 (l:List Pn) (a b:Nat):Dl l a b≠[]:=by
 unfold Dl;simp
theorem Ad6 (l:List Pn) (k b dt:Int) (hs:List Nat) (e:Id) (y:List UInt8):Bd l (Ck k b 0 dt [] e y) hs=Gw l k b dt hs e y:=by
 unfold Bd Gw;rw [Gv,Kz];unfold Ck
 by_cases hk:k=7
 ·
  rw [if_pos hk,if_pos hk];rfl
 ·
  rw [if_neg hk,if_neg hk];rfl
theorem Rm {l:List Pn} (hB:FkB l) (h13:l.length≤13) {o:Op} {hs:List Nat} (hb:1≤o.by_∧o.by_≤12) (ha:o.at_≤3):FkB (l++[Aq l (sgn (Bd l o hs))]):=by
 have hlen:(l++[Aq l (sgn (Bd l o hs))]).length=l.length+1:=by rw [Af9];rfl
 have hsq:(sgn (Bd l o hs)).sq=Aj l (Ad l (hs.map (nmP l))) o.by_ l.length+1:=by rw [Yz];rfl
 have hat:(sgn (Bd l o hs)).at_=o.at_+late l (hs.map (nmP l)):=by rw [Y3];rfl
 have hby:(sgn (Bd l o hs)).by_=o.by_:=by rw [Yy];rfl
 have h1:Aj l (Ad l (hs.map (nmP l))) o.by_ l.length≤l.length:=Ky (by omega) hB.sq _;have h2:=Is l (Ad l (hs.map (nmP l))) o.by_ l.length;have h3:late l (hs.map (nmP l))≤3*l.length:=Of l _ (by omega) hB.at_ _;refine ⟨fun n hn=> ?_,fun n hn=> ?_,fun n hn=> ?_,fun n hn=> ?_,by rw [hlen];omega⟩<;>rw [List.mem_append,List.mem_singleton] at hn<;>rcases hn with hn|rfl
 · have:=hB.sq n hn;rw [hlen];omega
 · rw [hlen,Gt,hsq];omega
 · have:=hB.at_ n hn;rw [hlen];omega
 · rw [hlen,Gt,hat];omega
 · exact hB.by_ n hn
 · rw [Gt,hby];exact hb
 · exact hB.s1 n hn
 · rw [Gt,hsq];omega
theorem Ad7 {cards:List Cd} {l:List Pn} (h:Rows cards l) (hB:FkB l) {n:Pn} (hn:n∈l):n.id.named=true:=by
 obtain ⟨i,hi⟩:=List.getElem?_of_mem hn;rw [(h.ok i n hi).id];refine P4 (hB.by_ n hn) ⟨hB.s1 n hn,?_⟩;have:=hB.sq n hn;have:=hB.few;omega
theorem fk_in {cards:List Cd} {l:List Pn} (h:Rows cards l) (hB:FkB l) (hc:cards=Av 0 [1,2,2,3]) (hne:l≠[]) (h13:l.length≤13) (a b:Nat):
  plc l (Bd l (El l a b) (Cl l (Dl l a b))).name=none→An cards l (sgn (Bd l (El l a b) (Cl l (Dl l a b))))=0∧FkB (l++[Aq l (sgn (Bd l (El l a b) (Cl l (Dl l a b))))]):=by
 intro hnew;have hlt:=Rk hne a b;have h0:0<l.length:=List.length_pos_iff.2 hne;refine ⟨?_,Rm hB h13 (by unfold El;rw [Gv];omega) (by unfold El;rw [Kz];omega)⟩;unfold El at hnew ⊢;rw [Ad6] at hnew ⊢;refine Zz h hB (fun b h1 h2=>Rj hc ⟨h1,h2⟩) (Zv h (Ad5 l a b) hlt) (Qh _ _ _) (Af8 (Ir _ _ _) (Rl l a b)) (fun p hp=>hlt p (Gu _ hp).1) (fun p hp q hq=>(Gu _ hp).2 q (Gu _ hq).1) ⟨by omega,by omega⟩ ⟨by omega,by omega⟩ ?_ ⟨by simp,by simp⟩ hnew;have hn:l[0]? =some l[0]:=Ag1 h0;rw [Dw hn];exact Ad7 h hB (Ah5 h0)
theorem Ad8:Bd [] (Dt 1) []=Dt 1:=rfl
theorem Ad9 {cards:List Cd} (hc:cards=Av 0 [1,2,2,3]):plc [] (Bd [] (Dt 1) []).name=none→An cards [] (sgn (Bd [] (Dt 1) []))=0∧FkB ([]++[Aq [] (sgn (Bd [] (Dt 1) []))]):=by
 intro _;obtain ⟨c,h1,h2⟩:=Rj hc (d:=1) ⟨by decide,by decide⟩;refine ⟨?_,Rm ⟨fun _ hn=>absurd hn Ag5,fun _ hn=>absurd hn Ag5,fun _ hn=>absurd hn Ag5,fun _ hn=>absurd hn Ag5,by decide⟩ (by decide) (by decide) (by decide)⟩;rw [Ad8];exact P3 (c:=c) (Y5 (by decide)) rfl (by simp) h1 h2 (.inr rfl) rfl (by show clash [] []=false;unfold clash Cc;simp) (Int.le_refl _) rfl
theorem Rn (l:List Pn) (o:Op) (hs:List Nat):(C8 l o hs).length≤l.length+1:=by
 unfold C8
 split
 · omega
 ·
  rw [Af9];exact Ag6 _
theorem Ae0 {l:List Pn} (h:l≠[]) (o:Op) (hs:List Nat):C8 l o hs≠[]:=by
 unfold C8
 split
 · exact h
 · simp
theorem G6 (k0:List Int):∀j,Em k0 j≠[]
 |0=>by
  show C8 [] (Dt 1) []≠[];unfold C8;rw [show plc [] (Bd [] (Dt 1) []).name=none from rfl,if_neg (by simp)];simp
 |j+1=>Ae0 (G6 k0 j) _ _
theorem Ro (k0:List Int):∀j,(Em k0 j).length≤j+1
 |0=>Rn _ _ _
 |j+1=>Af8 (Rn _ _ _) (by have:=Ro k0 j;omega)
end Oq
end
end Go.Proofs.YtkanjaikgphjfaaGreatDoor
