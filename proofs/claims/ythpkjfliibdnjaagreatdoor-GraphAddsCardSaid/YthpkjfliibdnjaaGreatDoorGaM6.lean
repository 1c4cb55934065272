/-
  Contracts of the functions that the claim's statement reaches, walked one by one (part 6).
  Conditions: as each theorem says.
-/
import Derived.Deep.RegionHeld3
import Derived.Deep.DeepCutAuto
import Derived.Test.YthpkjfliibdnjaaGreatDoorGaM1
import Derived.Test.YthpkjfliibdnjaaGreatDoorGaM2
import Derived.Test.YthpkjfliibdnjaaGreatDoorGaM3
import Derived.Test.YthpkjfliibdnjaaGreatDoorGaM4
import Derived.Test.YthpkjfliibdnjaaGreatDoorGaM5
set_option maxRecDepth 100000
set_option maxHeartbeats 16000000
open Array renaming getD→Ao1
open Bool renaming false_and→An4,true_and→An5,and_eq_true→Ao5
open List renaming eq_nil_of_length_eq_zero→An0,nil_append→An1,flatMap_cons→An6,getElem?_map→Ao3,take_succ_eq_append_getElem→Ao4,getElem?_toArray→Ao6
open Nat renaming zero_add→Am7,le_refl→Am8,zero_mul→Am9,mod_lt→An2,mul_mod→An3,pow_mul→An7,mod_mod→An8,add_mul→An9,add_mod→Ao0,pow_mod→Ao2
open Go.World renaming size_alloc→Am6
namespace Go.Proofs.YthpkjfliibdnjaaGreatDoor
section
open Go.RowKit
end
section
open Go.RowKit
attribute [local go_sem ↓] Go.wp_at_zero Go.wp_at_succ
namespace Dv
def Top (u t q s:Nat):Prop:=q*4294967295+s=u∧s<4294967296∧(u*4294967296+t)/18446744073709551600≤q
theorem step (k d u:Nat) (h:(d+1)*k+0=u):d*k+k=u:=by rw [← h,Nat.succ_mul,Nat.add_zero]
theorem next {u t q:Nat} (h:Top u t q 0) (h1:(u*4294967296+t)/18446744073709551600≤q-1) (h0:0<q):Top u t (q-1) 4294967295:=by
 obtain ⟨d,rfl⟩:∃d,q=d+1:=⟨q-1,(Nat.succ_pred_eq_of_pos h0).symm⟩;obtain ⟨h2,_,_⟩:=h;rw [Nat.add_sub_cancel] at h1 ⊢;exact And.intro (step _ _ _ h2) (And.intro (by decide) h1)
theorem rest {W1:Int} (hW1:Hid (4294967295=W1)) {u q1 r1:Nat} (_hu:u<18446744073709551616) (hq1:Hid (u/4294967295=q1)) (hr1:Hid (u-u/4294967295*4294967295=r1)):IntKind.u64.wrap ((u:Int)-IntKind.u64.wrap ((q1:Int)*W1))=(r1:Int):=by
 rw [← hW1.out,IntKind.wrap_u64,IntKind.wrap_u64,← hq1.out,← hr1.out];omega
end Dv
end
section
open Go.RowKit
namespace Sg
def lSigned:List UInt8:=[115,105,103,110,101,100]
def lSig:List UInt8:=[115,105,103]
def lNonce:List UInt8:=[110,111,110,99,101]
def m (bs:List UInt8):Nat:=Hs.ofBytes lSigned bs
def e (r pub:Nat) (bs:List UInt8):Nat:=Hs.of lSig [r,pub,m bs]
def pub (secret:Nat):Nat:=Fd.pow 37 secret
def once (secret:Nat) (bs:List UInt8):Nat:=Hs.secret lNonce [secret,m bs]
def r (secret:Nat) (bs:List UInt8):Nat:=Fd.pow 37 (once secret bs)
def x (secret:Nat) (bs:List UInt8):Nat:=e (r secret bs) (pub secret) bs*secret%2305843009213693950
def s (secret:Nat) (bs:List UInt8):Nat:=(once secret bs+x secret bs)%2305843009213693950
def within (n lo hi:Int):Bool:=decide (lo≤n)&&decide (n≤hi)
def check (pub:Nat) (bs:List UInt8) (R S:Nat):Bool:=
 within pub 1 2305843009213693950&&within R 1 2305843009213693950&&within S 0 2305843009213693949&&(Fd.pow 37 S==Fd.mul R (Fd.pow pub (e R pub bs)))
theorem m_lt (bs:List UInt8):m bs<2305843009213693951:=Hs.of_lt _ _
theorem e_lt (r pub:Nat) (bs:List UInt8):e r pub bs<2305843009213693951:=Hs.of_lt _ _
theorem once_lt (secret:Nat) (bs:List UInt8):once secret bs<2305843009213693950:=Hs.secret_lt _ _
theorem r_lt (secret:Nat) (bs:List UInt8):r secret bs<2305843009213693951:=Fd.pow_lt _ _
theorem x_lt (secret:Nat) (bs:List UInt8):x secret bs<2305843009213693950:=An2 _ (by omega)
theorem s_lt (secret:Nat) (bs:List UInt8):s secret bs<2305843009213693950:=An2 _ (by omega)
end Sg
end
section
open Go.RowKit Go.Shelf
attribute [local go_sem ↓] Go.wp_at_zero Go.wp_at_succ
def We (m e:Nat) (w:World) (r:Ending) (w':World):Prop:=r=.returned (.tuple #[.int .u64 (m:Int),.int .u64 (e:Int)])∧Fr Non w w'
theorem Wf (pub r B n c:Nat) (A:Option Addr) (bs:List UInt8) (w:World) (hp:pub<18446744073709551616) (hr0:r<18446744073709551616) (hlen:Hid (bs.length=n)) (hnc:n≤c) (hn:n≤1099511627775) (hB:B≤w.heap.size) (hr:Rd w B 1 A n (bs.map Bv)):
  Calls Tryz.prog 148 #[.int .u64 (pub:Int),.int .u64 (r:Int),.slice A n c] w (We (Sg.m bs) (Sg.e r pub bs) w):=by
 have he:Hid (Sg.e r pub bs=Hs.of Sg.lSig [r,pub,Sg.m bs]):=rfl;have hm:=Sg.m_lt bs;have hby:=Lib.hid (Ol Sg.lSigned B n c A bs w hlen hnc hn (by decide) hB hr);have hmm:Hid (Hs.ofBytes Sg.lSigned bs=Sg.m bs):=rfl;rw [hmm.out] at hby;obtain ⟨v,hv⟩:=Aa (Sg.m bs);rw [hv.out] at he hm hby;rw [he.out,hv.out];go_enter Tryz.func148,Tryz.ntmps148;go_wp2_with (fail);refine hby.out.mono ?_;rintro _ w1 ⟨rfl,hf1⟩;go_wp2_with (fail);have hnew:=Blk.new w1 34 #[.int .u64 (r:Int),.int .u64 (pub:Int),.int .u64 (v:Int)]
 have hrd:Rd (w1.alloc (.cells #[.int .u64 (r:Int),.int .u64 (pub:Int),.int .u64 (v:Int)] 34)) (w1.heap.size+1) 1 (some ⟨w1.heap.size,0,none⟩) 3 ([r,pub,v].map Wv):=by
  refine ⟨rfl,.inr ⟨w1.heap.size,0,rfl,by omega,fun j u hu=> ?_⟩⟩;rw [hnew.cell]
  match j,hu with
  |0,hu=>simpa [Wv] using hu
  |1,hu=>simpa [Wv] using hu
  |2,hu=>simpa [Wv] using hu
 refine (Hz Sg.lSig [r,pub,v] _ 3 3 _ _ rfl (by decide) (by omega) hrd (by simp;omega)).mono ?_;rintro _ w2 ⟨rfl,hf2⟩;go_wp2
 go_ret2
 exact ⟨rfl,(hf1.alloc _).trans hf2 zr⟩
def Ec (R S:Nat):Value:=.agg #[.int .u64 (R:Int),.int .u64 (S:Int)]
def Ov (secret:Nat) (bs:List UInt8) (w:World) (r:Ending) (w':World):Prop:=r=.returned (Ec (Sg.r secret bs) (Sg.s secret bs))∧Fr Non w w'
theorem Ki (n lo hi:Int) (b:Bool) (w:World) (hb:Hid (Sg.within n lo hi=b)):
  Calls Tryz.prog 147 #[.int .u64 n,.int .u64 lo,.int .u64 hi] w fun e w'=>e=.returned (.bool b)∧w=w':=by
 have hb':=hb.out;unfold Sg.within at hb'
 by_cases h1:lo≤n
 ·
  by_cases h2:n≤hi
  ·
   have hbb:Hid (true=b):=by rw [← hb'];simp [h1,h2,Hid]
   clear hb' hb;go_enter Tryz.func147,Tryz.ntmps147;go_wp2
   go_ret
   exact ⟨congrArg (fun z=>Ending.returned (.bool z)) (Eq.trans (by first|simp|(simp;omega)) hbb.out),rfl⟩
  ·
   have hbb:Hid (false=b):=by rw [← hb'];simp [h2,Hid]
   clear hb' hb;go_enter Tryz.func147,Tryz.ntmps147;go_wp2
   go_ret
   exact ⟨congrArg (fun z=>Ending.returned (.bool z)) (Eq.trans (by first|simp|(simp;omega)) hbb.out),rfl⟩
 ·
  have hbb:Hid (false=b):=by rw [← hb'];simp [h1,Hid]
  clear hb' hb;go_enter Tryz.func147,Tryz.ntmps147;go_wp2
  go_ret
  exact ⟨congrArg (fun z=>Ending.returned (.bool z)) hbb.out,rfl⟩
theorem Kj (pub R S B n c:Nat) (A:Option Addr) (bs:List UInt8) (w:World) (hp:pub<18446744073709551616) (hR:R<18446744073709551616) (hS:S<18446744073709551616) (hlen:Hid (bs.length=n)) (hnc:n≤c) (hn:n≤1099511627775) (hB:B≤w.heap.size) (hr:Rd w B 1 A n (bs.map Bv)):
  Calls Tryz.prog 85 #[.int .u64 (pub:Int),.slice A n c,Ec R S] w (Ad (Sg.check pub bs R S) w):=by
 unfold Ec;have aa:Hid (Sg.check pub bs R S=(Sg.within pub 1 2305843009213693950&&Sg.within R 1 2305843009213693950&&Sg.within S 0 2305843009213693949&&(Fd.pow 37 S==Fd.mul R (Fd.pow pub (Sg.e R pub bs))))):=rfl;have af:=Blk.new w 42 #[.int .u64 (R:Int),.int .u64 (S:Int)];have ac:Fr Non w (w.alloc (.cells #[.int .u64 (R:Int),.int .u64 (S:Int)] 42)):=(Fr.refl _ _).alloc _;have c0:=af.cell 0;have c1:=af.cell 1;have ah:=hr.alloc (.cells #[.int .u64 (R:Int),.int .u64 (S:Int)] 42);obtain ⟨b1,h1⟩:=Aa (Sg.within pub 1 2305843009213693950);obtain ⟨b2,h2⟩:=Aa (Sg.within R 1 2305843009213693950);obtain ⟨b3,h3⟩:=Aa (Sg.within S 0 2305843009213693949);have k1:=Lib.hid (fun w=>Ki pub 1 2305843009213693950 b1 w h1);have k2:=Lib.hid (fun w=>Ki R 1 2305843009213693950 b2 w h2);have k3:=Lib.hid (fun w=>Ki S 0 2305843009213693949 b3 w h3);rw [h1.out,h2.out,h3.out] at aa
 cases b1 with
 |false=>
  rw [An4,An4,An4] at aa;rw [aa.out];go_enter Tryz.func85,Tryz.ntmps85;go_wp2_with (first|(go_at_call 147;refine (k1.out _).mono ?_;rintro _ _ ⟨rfl,rfl⟩))
  go_ret
  exact ⟨rfl,ac⟩
 |true=>
  cases b2 with
  |false=>
   rw [An5,An4,An4] at aa;rw [aa.out];go_enter Tryz.func85,Tryz.ntmps85;go_wp2_with (first|(go_at_call 147;(with_reducible refine (k1.out _).mono ?_);rintro _ _ ⟨rfl,rfl⟩)|(go_at_call 147;(with_reducible refine (k2.out _).mono ?_);rintro _ _ ⟨rfl,rfl⟩))
   go_ret
   exact ⟨rfl,ac⟩
  |true=>
   cases b3 with
   |false=>
    rw [An5,An5,An4] at aa;rw [aa.out];go_enter Tryz.func85,Tryz.ntmps85;go_wp2_with (first|(go_at_call 147;(with_reducible refine (k1.out _).mono ?_);rintro _ _ ⟨rfl,rfl⟩)|(go_at_call 147;(with_reducible refine (k2.out _).mono ?_);rintro _ _ ⟨rfl,rfl⟩)|(go_at_call 147;(with_reducible refine (k3.out _).mono ?_);rintro _ _ ⟨rfl,rfl⟩))
    go_ret
    exact ⟨rfl,ac⟩
   |true=>
    rw [An5,An5,An5] at aa;have le:=Sg.e_lt R pub bs;go_enter Tryz.func85,Tryz.ntmps85;go_wp2_with (first|(go_at_call 147;(with_reducible refine (k1.out _).mono ?_);rintro _ _ ⟨rfl,rfl⟩)|(go_at_call 147;(with_reducible refine (k2.out _).mono ?_);rintro _ _ ⟨rfl,rfl⟩)|(go_at_call 147;(with_reducible refine (k3.out _).mono ?_);rintro _ _ ⟨rfl,rfl⟩));refine (Wf pub R B n c A bs _ hp hR hlen hnc hn (by simp;omega) ah).mono ?_;rintro _ w1 ⟨rfl,ag⟩;have aj:=af.fr ag zq;have ai:=ac.trans ag zr;obtain ⟨E,hE⟩:=Aa (Sg.e R pub bs);rw [hE.out] at le aa;rw [hE.out];generalize Sg.m bs=m0;have p1:=Lib.hid (fun w=>Ke 37 S w (by omega) hS);have p2:=Lib.hid (fun w=>Ke pub E w hp (by omega));have lq:=Fd.pow_lt pub E;obtain ⟨q,hq⟩:=Aa (Fd.pow pub E);obtain ⟨t,ht⟩:=Aa (Fd.pow 37 S);rw [hq.out] at p2 lq aa;rw [ht.out] at p1 aa;have p3:=Lib.hid (fun w=>Ht R q hR (by omega) w);obtain ⟨v,hv⟩:=Aa (Fd.mul R q);rw [hv.out] at p3 aa;have ak:Hid (∀w,Calls Tryz.prog 149 #[.int .u64 37,.int .u64 (S:Int)] w (Ce t w)):=p1.out;have ab:Blk w1.drew w.heap.size 42 #[.int .u64 (R:Int),.int .u64 (S:Int)]:=aj;have d0:=ab.cell 0;have d1:=ab.cell 1;clear c0 c1;go_wp2_with (fail)
    go_region_held3 (fun w'=>w'.cell? ⟨w.heap.size,0,none⟩=some (.int .u64 (R:Int))∧w'.cell? ⟨w.heap.size,1,none⟩=some (.int .u64 (S:Int))) (go_keep) (first
     |(go_at_call 149;(with_reducible refine (ak.out _).mono ?_);rintro _ w2 ⟨rfl,ae⟩;have g0:=ae.cell d0 zq;have g1:=ae.cell d1 zq)
     |(go_at_call 149;(with_reducible refine (p2.out _).mono ?_);rintro _ w3 ⟨rfl,ad⟩;have ao:=ad.cell g0 zq;have al:=ad.cell g1 zq)
     |(go_at_call 150;(with_reducible refine (p3.out _).mono ?_);rintro _ _ ⟨rfl,rfl⟩))
    go_wp2
    go_ret
    refine ⟨congrArg (fun z=>Ending.returned (.bool z)) ?_,(((ai.drew.trans ae zr).trans ad zr))⟩;rw [aa.out,Bool.eq_iff_iff];simp only [beq_iff_eq];exact Int.ofNat_inj
end
namespace Sg
theorem Wg {M:Nat} (hM:M=2305843009213693950):37^M%2305843009213693951=1:=by
 have h:=Fd.pow_eq 37 M (by omega);rw [← h,hM]
 decide+kernel
theorem pow_one {M:Nat} (hM:M=2305843009213693950) (k:Nat):(37^M)^k%2305843009213693951=1:=by
 rw [Ao2,Wg hM,Nat.one_pow]
theorem Wh {M:Nat} (hM:M=2305843009213693950) (k:Nat):37^(k%M)%2305843009213693951=37^k%2305843009213693951:=by
 conv=>rhs;rw [← Nat.div_add_mod k M,Nat.pow_add,An7,An3,pow_one hM,Nat.one_mul,An8]
theorem Wi (k:Nat):37^(k%2305843009213693950)%2305843009213693951=37^k%2305843009213693951:=Wh rfl k
theorem Wj {M:Nat} (hM:M=2305843009213693950) (k:Nat):37^k%2305843009213693951≠0:=by
 intro h;have h1:(37^k)^M%2305843009213693951=1:=by rw [← An7,Nat.mul_comm,An7];exact pow_one hM k
 rw [Ao2,h,Nat.zero_pow (by omega)] at h1;simp at h1
theorem Wk (k:Nat):37^k%2305843009213693951≠0:=Wj rfl k
theorem Ow {k:Nat} (hk:k<18446744073709551616):1≤Fd.pow 37 k:=by
 rw [Fd.pow_eq 37 k hk];exact Nat.one_le_iff_ne_zero.2 (Wk k)
theorem sides {x o e:Nat} (hx:x<18446744073709551616) (ho:o<18446744073709551616) (he:e<18446744073709551616):
  Fd.pow 37 ((o+e*x%2305843009213693950)%2305843009213693950)=Fd.mul (Fd.pow 37 o) (Fd.pow (Fd.pow 37 x) e):=by
 have hs:(o+e*x%2305843009213693950)%2305843009213693950=(o+e*x)%2305843009213693950:=by rw [Nat.add_mod_mod]
 have hlt:(o+e*x)%2305843009213693950<18446744073709551616:=by have:=An2 (o+e*x) (show 0<2305843009213693950 by omega);omega
 rw [hs,Fd.pow_eq _ _ hlt,Wi,Nat.pow_add];unfold Fd.mul;rw [Fd.pow_eq _ _ ho,Fd.pow_eq _ _ he,Fd.pow_eq _ _ hx,← Ao2,← An3,← An7,Nat.mul_comm x e]
theorem within_yes {n lo hi:Nat} (h1:lo≤n) (h2:n≤hi):within n lo hi=true:=by
 unfold within;simp;omega
theorem takes (x:Nat) (bs:List UInt8) (hx:x<18446744073709551616):check (pub x) bs (r x bs) (s x bs)=true:=by
 have lo:=once_lt x bs;have lr:=r_lt x bs;have ls:=s_lt x bs;have lp:=Fd.pow_lt 37 x;have le:=e_lt (r x bs) (pub x) bs;have p1:1≤Fd.pow 37 x:=Ow hx;have p2:1≤r x bs:=Ow (by omega);have w1:within (pub x) 1 2305843009213693950=true:=within_yes (lo:=1) (hi:=2305843009213693950) p1 (by unfold pub;omega);have w2:within (r x bs) 1 2305843009213693950=true:=within_yes (lo:=1) (hi:=2305843009213693950) p2 (by omega);have w3:within (s x bs) 0 2305843009213693949=true:=within_yes (lo:=0) (hi:=2305843009213693949) (by omega) (by omega);unfold check;rw [w1,w2,w3];have h:=sides (x:=x) (o:=once x bs) (e:=e (r x bs) (pub x) bs) hx (by omega) (by omega);have hs:s x bs=(once x bs+e (r x bs) (pub x) bs*x%2305843009213693950)%2305843009213693950:=rfl;have hr:r x bs=Fd.pow 37 (once x bs):=rfl;rw [hs,h,← hr];simp [pub]
end Sg
section
open Go.RowKit
attribute [local go_sem ↓] Go.wp_at_zero Go.wp_at_succ
namespace R8
theorem step (M o x h:Nat):((o+x)%M+(x+x)%M*h)%M=(o+x*(2*h+1))%M:=by
 have e:o+x*(2*h+1)=(o+x)+(x+x)*h:=by rw [Nat.mul_add,An9,Nat.mul_one,← Nat.mul_assoc,Nat.mul_two,An9];omega
 rw [e,Ao0 (o+x) ((x+x)*h),An3 (x+x) h,Ao0 ((o+x)%M),An8,An3 ((x+x)%M),An8]
theorem step0 (M o x h:Nat):(o+(x+x)%M*h)%M=(o+x*(2*h))%M:=by
 have e:x*(2*h)=(x+x)*h:=by rw [← Nat.mul_assoc,Nat.mul_two]
 rw [e,Ao0 o ((x+x)*h),An3 (x+x) h,Ao0 o,An3 ((x+x)%M),An8]
end R8
theorem Ia (w:World):Calls Tryz.prog 105 #[] w fun e w'=>e=.returned (.int .u64 2305843009213693950)∧w=w':=by
 go_enter Tryz.func105,Tryz.ntmps105;go_wp2
 go_ret
 exact ⟨rfl,rfl⟩
theorem Wl (a b:Nat) (w:World):Calls Tryz.prog 103 #[.int .u64 (a:Int),.int .u64 (b:Int)] w fun e w'=>e=.returned (.int .u64 ((a*b%2305843009213693950:Nat):Int))∧w=w':=by
 obtain ⟨x,hx⟩:=Aa (a%2305843009213693950);obtain ⟨y,hy⟩:=Aa (b%2305843009213693950);have lx:x<2305843009213693950:=by rw [← hx.out];exact An2 _ (by omega)
 have ly:y<2305843009213693950:=by rw [← hy.out];exact An2 _ (by omega)
 have ab:Hid ((0+x*y)%2305843009213693950=a*b%2305843009213693950):=by show _=_;rw [Am7,← hx.out,← hy.out,← An3]
 obtain ⟨r,hr⟩:=Aa (a*b%2305843009213693950);rw [hr.out] at ab ⊢;obtain ⟨fa,au⟩:=R1.nn 2305843009213693950 rfl hx.out;obtain ⟨fb,ar⟩:=R1.nn 2305843009213693950 rfl hy.out;have z1:¬(2305843009213693950:Int)=0:=by decide
 have ho:Hid (∀w,Calls Tryz.prog 105 #[] w fun e w'=>e=.returned (.int .u64 2305843009213693950)∧w=w'):=fun w=>Ia w;clear hx hy;go_enter Tryz.func103,Tryz.ntmps103;unfold Hid at ho;generalize eM:(2305843009213693950:Int)=M at*;have hM:=Lib.hid eM;have ac:=Lib.hid ho;clear eM ho;go_wp2_with (fail);refine (ac.out _).mono ?_;rintro _ _ ⟨rfl,rfl⟩;go_wp2_with (fail);refine (ac.out _).mono ?_;rintro _ _ ⟨rfl,rfl⟩;go_wp2_with (fail)
 go_loopw [0,1,5] (fun p q o wr=>∃x' y' o':Nat,p=.int .u64 (x':Int)∧q=.int .u64 (y':Int)∧o=.int .u64 (o':Int)∧x'<2305843009213693950∧y'<2305843009213693950∧o'<2305843009213693950∧Hid ((o'+x'*y')%2305843009213693950=r)∧wr=w) (fun _ q _ _=>(intOf q).toNat)
 case atStart=>exact ⟨x,y,0,rfl,rfl,rfl,lx,ly,by omega,ab,rfl⟩
 case round=>
  obtain ⟨x',y',o',rfl,rfl,rfl,ap,ao,ag,hd,rfl⟩:=hrel
  by_cases hz:y'=0
  ·
   subst hz;have e:o'=r:=by have h:=hd.out;rw [Nat.mul_zero,Nat.add_zero,Nat.mod_eq_of_lt ag] at h;exact h
   go_wp2
   go_ret
   exact ⟨by rw [← e];rfl,rfl⟩
  ·
   have aq:(0:Int)<(y':Int):=by omega
   have l1:(o'+x')%2305843009213693950<2305843009213693950:=An2 _ (by omega);have l2:(x'+x')%2305843009213693950<2305843009213693950:=An2 _ (by omega);have s1:=R8.step 2305843009213693950 o' x' (y'/2);have s0:=R8.step0 2305843009213693950 o' x' (y'/2);obtain ⟨ox,af⟩:=Aa ((o'+x')%2305843009213693950);obtain ⟨xx,ae⟩:=Aa ((x'+x')%2305843009213693950);obtain ⟨g1,aj⟩:=R1.nn M hM.out af.out;obtain ⟨g2,ah⟩:=R1.nn M hM.out ae.out;rw [Int.natCast_add] at g1 aj g2 ah;rw [af.out] at l1 s1;rw [ae.out] at l2 s1 s0;have al:=Lib.hid s1;have ak:=Lib.hid s0;clear s1 s0;have aa:y'%2=1∨y'%2=0:=by omega
   rcases aa with hp|hp
   ·
    have ai:((y':Int)%2==1)=true:=by simp;omega
    have ad:Hid ((ox+xx*(y'/2))%2305843009213693950=r):=by show _=_;rw [al.out,show 2*(y'/2)+1=y' by omega];exact hd.out
    clear hd hp;go_wp2_with (first|(go_at_call 105;refine (ac.out _).mono ?_;rintro _ _ ⟨rfl,rfl⟩));exact ⟨⟨xx,y'/2,ox,rfl,by go_num,rfl,l2,by omega,l1,ad,by first|rfl|trivial⟩,by simp [intOf];omega⟩
   ·
    have ai:((y':Int)%2==1)=false:=by simp;omega
    have ad:Hid ((o'+xx*(y'/2))%2305843009213693950=r):=by show _=_;rw [ak.out,show 2*(y'/2)=y' by omega];exact hd.out
    clear hd hp;go_wp2_with (first|(go_at_call 105;refine (ac.out _).mono ?_;rintro _ _ ⟨rfl,rfl⟩));exact ⟨⟨xx,y'/2,o',rfl,by go_num,rfl,l2,by omega,ag,ad,by first|rfl|trivial⟩,by simp [intOf];omega⟩
theorem Ib (n:Nat) (w:World) (hn:n<18446744073709551616):Calls Tryz.prog 56 #[.int .u64 (n:Int)] w (Ce (Sg.pub n) w):=by
 have hp:Hid (∀w,Calls Tryz.prog 98 #[.int .u64 37,.int .u64 (n:Int)] w fun e w'=>e=.returned (.int .u64 (Sg.pub n:Int))∧∃k,w'=w.drewN k):=fun w=>Gt 37 n w (by omega) hn;go_enter Tryz.func56,Tryz.ntmps56;go_wp2_with (fail);refine (hp.out _).mono ?_;rintro _ _ ⟨rfl,k,rfl⟩;go_wp2
 go_ret
 exact ⟨rfl,(Fr.refl _ _).drewN _⟩
theorem Ox (B n c:Nat) (A:Option Addr) (bs:List UInt8) (w:World) (hlen:Hid (bs.length=n)) (hn:n≤1099511627775) (hB:B≤w.heap.size) (hr:Rd w B 1 A n (bs.map Bv)):
  Calls Tryz.prog 102 #[.slice A n c] w (Ce (Sg.m bs) w):=by
 have hby:Hid (Calls Tryz.prog 48 #[.string ⟨#[115,105,103,110,101,100]⟩,.slice A n c] w (Ce (Sg.m bs) w)):=Oo Sg.lSigned B n c A bs w hlen hn (by decide) hB hr;go_enter Tryz.func102,Tryz.ntmps102;go_wp2_with (fail);refine hby.out.mono ?_;rintro _ w1 ⟨rfl,hf1⟩;go_wp2
 go_ret
 exact ⟨rfl,hf1⟩
theorem Oy (r pub B n c:Nat) (A:Option Addr) (bs:List UInt8) (w:World) (hr0:r<18446744073709551616) (hp:pub<18446744073709551616) (hlen:Hid (bs.length=n)) (hn:n≤1099511627775) (hB:B≤w.heap.size) (hr:Rd w B 1 A n (bs.map Bv)):
  Calls Tryz.prog 104 #[.int .u64 (r:Int),.int .u64 (pub:Int),.slice A n c] w (Ce (Sg.e r pub bs) w):=by
 have he:Hid (Sg.e r pub bs=Hs.of Sg.lSig [r,pub,Sg.m bs]):=rfl;have hm:=Sg.m_lt bs;have hby:=Lib.hid (Ox B n c A bs w hlen hn hB hr);obtain ⟨v,hv⟩:=Aa (Sg.m bs);rw [hv.out] at he hm hby;rw [he.out];go_enter Tryz.func104,Tryz.ntmps104;go_wp2_with (fail);refine hby.out.mono ?_;rintro _ w1 ⟨rfl,hf1⟩;go_wp2_with (fail);have hnew:=Blk.new w1 34 #[.int .u64 (r:Int),.int .u64 (pub:Int),.int .u64 (v:Int)]
 have hrd:Rd (w1.alloc (.cells #[.int .u64 (r:Int),.int .u64 (pub:Int),.int .u64 (v:Int)] 34)) (w1.heap.size+1) 1 (some ⟨w1.heap.size,0,none⟩) 3 ([r,pub,v].map Wv):=by
  refine ⟨rfl,.inr ⟨w1.heap.size,0,rfl,by omega,fun j u hu=> ?_⟩⟩;rw [hnew.cell]
  match j,hu with
  |0,hu=>simpa [Wv] using hu
  |1,hu=>simpa [Wv] using hu
  |2,hu=>simpa [Wv] using hu
 refine (Kg Sg.lSig [r,pub,v] _ 3 3 _ _ rfl (by decide) (by omega) hrd (by simp;omega)).mono ?_;rintro _ w2 ⟨rfl,hf2⟩;go_wp2
 go_ret
 exact ⟨rfl,(hf1.alloc _).trans hf2 zr⟩
theorem Wm (o X S:Nat) (ho:o<2305843009213693950) (hX:X<2305843009213693950) (hS:Hid ((o+X)%2305843009213693950=S)):((o:Int)+(X:Int))%2305843009213693950=(S:Int)∧((o:Int)+(X:Int)).tmod 2305843009213693950=(S:Int):=by
 have h2:((o:Int)+(X:Int))%2305843009213693950=(S:Int):=by rw [← hS.out];omega
 exact ⟨h2,by rw [Int.tmod_eq_emod_of_nonneg (by omega),h2]⟩
theorem Wn (secret B n c:Nat) (A:Option Addr) (bs:List UInt8) (w:World) (hs:secret<18446744073709551616) (hlen:Hid (bs.length=n)) (hn:n≤1099511627775) (hB:B≤w.heap.size) (hr:Rd w B 1 A n (bs.map Bv)):
  Calls Tryz.prog 62 #[.int .u64 (secret:Int),.slice A n c] w (Ov secret bs w):=by
 have ay:=Blk.new w 42 #[.int .u64 0,.int .u64 0];have ar:Fr Non w (w.alloc (.cells #[.int .u64 0,.int .u64 0] 42)):=(Fr.refl _ _).alloc _;have ap:=hr.alloc (.cells #[.int .u64 0,.int .u64 0] 42);have lp:=Fd.pow_lt 37 secret;have lm:=Sg.m_lt bs;have lo:=Sg.once_lt secret bs;have lr:=Sg.r_lt secret bs;have ao:Hid (Sg.x secret bs=Sg.e (Sg.r secret bs) (Sg.pub secret) bs*secret%2305843009213693950):=rfl;have ak:Hid ((Sg.once secret bs+Sg.x secret bs)%2305843009213693950=Sg.s secret bs):=rfl;have lx:=Sg.x_lt secret bs;have ls:=Sg.s_lt secret bs;have ae:Hid (∀w,Calls Tryz.prog 98 #[.int .u64 37,.int .u64 (Sg.once secret bs:Int)] w fun e w'=>e=.returned (.int .u64 (Sg.r secret bs:Int))∧∃k,w'=w.drewN k):=fun w=>Gt 37 (Sg.once secret bs) w (by omega) (by omega);have av:Sg.pub secret<2305843009213693951:=lp;have le:=Sg.e_lt (Sg.r secret bs) (Sg.pub secret) bs;have aa:Hid (Sg.once secret bs=Hs.secret Sg.lNonce [secret,Sg.m bs]):=rfl;have ac:=Lib.hid (fun w=>Ib secret w hs);obtain ⟨P,hP⟩:=Aa (Sg.pub secret);obtain ⟨m,hm⟩:=Aa (Sg.m bs);obtain ⟨o,ho⟩:=Aa (Sg.once secret bs);obtain ⟨R,hR⟩:=Aa (Sg.r secret bs);rw [hR.out,hP.out] at ao le;rw [hR.out,ho.out] at ae;rw [ho.out] at ak lo aa;rw [hm.out] at aa lm;rw [hR.out] at lr;rw [hP.out] at av ac;obtain ⟨E,hE⟩:=Aa (Sg.e R P bs);rw [hE.out] at ao le;have ab:Hid (∀w,Calls Tryz.prog 103 #[.int .u64 (E:Int),.int .u64 (secret:Int)] w fun e w'=>e=.returned (.int .u64 (Sg.x secret bs:Int))∧w=w'):=fun w=>by rw [ao.out];exact Wl E secret w
 obtain ⟨X,hX⟩:=Aa (Sg.x secret bs);obtain ⟨S,hS⟩:=Aa (Sg.s secret bs);rw [hX.out] at ab lx ak;rw [hS.out] at ak ls;obtain ⟨v1,v2⟩:=Wm o X S lo lx ak;have ad:Hid (∀w,Calls Tryz.prog 105 #[] w fun e w'=>e=.returned (.int .u64 2305843009213693950)∧w=w'):=fun w=>Ia w;have z1:¬(2305843009213693950:Int)=0:=by decide
 go_enter Tryz.func62,Tryz.ntmps62;go_wp2_with (fail);refine (Ox B n c A bs _ hlen hn (by simp;omega) ap).mono ?_;rw [hm.out];rintro _ w2 ⟨rfl,aj⟩;go_wp2_with (fail);have al:=Blk.new w2 34 #[.int .u64 (secret:Int),.int .u64 (m:Int)]
 have a2:Rd (w2.alloc (.cells #[.int .u64 (secret:Int),.int .u64 (m:Int)] 34)) (w2.heap.size+1) 1 (some ⟨w2.heap.size,0,none⟩) 2 ([secret,m].map Wv):=by
  refine ⟨rfl,.inr ⟨w2.heap.size,0,rfl,by omega,fun j u hu=> ?_⟩⟩;rw [al.cell]
  match j,hu with
  |0,hu=>simpa [Wv] using hu
  |1,hu=>simpa [Wv] using hu
 refine (Ot Sg.lNonce [secret,m] _ 2 2 _ _ rfl (by decide) (by omega) a2 (by simp;omega)).mono ?_;rw [← aa.out];rintro _ w3 ⟨rfl,ah⟩;go_wp2_with (fail);refine (ae.out _).mono ?_;rintro _ _ ⟨rfl,k4,rfl⟩;go_wp2_with (fail);refine (ac.out _).mono ?_;rintro _ w4 ⟨rfl,ai⟩;have a1:=aj.size;have a0:=ah.size;have ax:=ai.size;simp only [Am6] at a1 a0;have az:w3.heap.size≤w4.heap.size:=ax;have aw:=((((ap.fr aj zr).alloc (.cells #[.int .u64 (secret:Int),.int .u64 (m:Int)] 34)).fr ah zr).drewN k4).fr ai zr;go_wp2_with (fail);refine (Oy R P B n c A bs w4 (by omega) (by omega) hlen hn (by omega) aw).mono ?_;rw [hE.out];rintro _ w5 ⟨rfl,aq⟩;go_wp2_with (fail);refine (ab.out _).mono ?_;rintro _ _ ⟨rfl,rfl⟩;unfold Hid at ad;generalize (2305843009213693950:Int)=M at*;have af:=Lib.hid ad;clear ad;go_wp2_with (fail);refine (af.out _).mono ?_;rintro _ _ ⟨rfl,rfl⟩;have ag:=(((((ay.fr aj zq).alloc (.cells #[.int .u64 (secret:Int),.int .u64 (m:Int)] 34)).fr ah zq).drewN k4).fr ai zq).fr aq zq;have au:=(((((ar.trans aj zr).alloc (.cells #[.int .u64 (secret:Int),.int .u64 (m:Int)] 34)).trans ah zr).drewN k4).trans ai zr).trans aq zr;have a3:=ag.cell 0;have a5:=ag.cell 1;have a4:=ag.frozen 0;have a6:=ag.frozen 1;go_wp2;refine Cu rfl rfl ((ag.set 0 _).set 1 _) rfl Tryz.underlying42 (by kernel_rfl) rfl ⟨?_,(au.setNew (Am8 _) _ _).setNew (Am8 _) _ _⟩;rw [hR.out,hS.out];rfl
namespace Oq
attribute [local go_sem ↓] Ch
attribute [local go_sem] Bool.not_false Bool.not_true
theorem Bg {P:Program} {Q:Exit→Act→World→Prop} {ops:Array Oper} {md:Region.Mode} {S:World→Prop} {fuel:Nat} {listed:Array Bool} {a:Act} {w:World} (i:Nat) {o:Oper} (hr:Region.ready md ops listed=[i]) (ho:ops[i]? =some o)
  (hw:Region.wanted o (yielded ops a.tmps)=true)
  (h:∀K':Act→World→Prop,Shut (∀a w,S w→(S w→wpAnyH P md ops Q S fuel (listed.setIfInBounds i true) a w)→K' a w)→Oper.wp P o a w K' Q):
  wpAnyH P md ops Q S (fuel+1) listed a w:=
 wpAnyH_ready hr (by simp) (AllReadyH.cons ho (fun K' hK=>by rw [if_pos hw];exact h K' hK) AllReadyH.nil)
def sec (kind:List UInt8) (u:Nat):Nat:=Hs.secret kind [u]
theorem Gu (kind:List UInt8) (u:Nat):sec kind u<2305843009213693950:=Hs.secret_lt _ _
theorem Oz (kind:List UInt8) (d:Int) (u:Nat) (w:World) (hu:IntKind.u64.wrap d=(u:Int)) (hu':u<18446744073709551616) (hk:kind.length≤1000):
  Calls Tryz.prog 57 #[.string (str kind),.int .i64 d] w (Ce (sec kind u) w):=by
 have hb:=Blk.new w 34 #[.int .u64 (u:Int)];have hr:Rd (w.alloc (.cells #[.int .u64 (u:Int)] 34)) (w.alloc (.cells #[.int .u64 (u:Int)] 34)).heap.size 1 (some ⟨w.heap.size,0,none⟩) 1 ([u].map Wv):=Rd.blk (n:=1) (size:=1) (l:=[.int .u64 (u:Int)]) hb rfl;have hf:Fr Non w (w.alloc (.cells #[.int .u64 (u:Int)] 34)):=(Fr.refl Non w).alloc _;obtain ⟨st,hst⟩:=Aa (str kind);have k:=Lib.hid (Ot kind [u] (some ⟨w.heap.size,0,none⟩) 1 1 _ _ rfl (by omega) (by omega) hr (by simp;omega));rw [hst.out] at k ⊢;go_enter Tryz.func57,Tryz.ntmps57;go_wp2_with (fail);refine k.out.mono ?_;rintro _ w1 ⟨rfl,f1⟩;go_wp2
 go_ret
 exact ⟨rfl,hf.trans f1 zr⟩
theorem O5 (d m:Int) (ld kp sg:Nat) (x:OpL) (w:World) (hat:x.at w w.heap.size) (hok:x.op.ok) (hsg:sg<18446744073709551616):
  Calls Tryz.prog 44 #[.agg #[.int .i64 d,.int .i64 m,.int .u64 (ld:Int),.int .u64 (kp:Int),.int .u64 (sg:Int)],.agg x.cells] w (Ad ((x.by_==d)&&Sg.check sg x.op.bare x.r x.s) w):=by
 have aj:x.cells.size=27:=rfl;obtain ⟨CS,ae⟩:=Aa x.cells;have e0:Hid (CS[0]? =some (.int .i64 x.by_)):=by show _=_;rw [← ae.out];rfl
 have av:Hid (CS[25]? =some (.int .u64 (x.r:Int))):=by show _=_;rw [← ae.out];rfl
 have ar:Hid (CS[26]? =some (.int .u64 (x.s:Int))):=by show _=_;rw [← ae.out];rfl
 have ab:Blk ((w.alloc (.cells #[.int .i64 d,.int .i64 m,.int .u64 (ld:Int),.int .u64 (kp:Int),.int .u64 (sg:Int)] 95)).alloc (.cells x.cells 44)).drew w.heap.size 95 #[.int .i64 d,.int .i64 m,.int .u64 (ld:Int),.int .u64 (kp:Int),.int .u64 (sg:Int)]:=((Blk.new w 95 _).alloc _).drew
 have ac:Blk ((w.alloc (.cells #[.int .i64 d,.int .i64 m,.int .u64 (ld:Int),.int .u64 (kp:Int),.int .u64 (sg:Int)] 95)).alloc (.cells x.cells 44)).drew (w.heap.size+1) 44 x.cells:=by
  have:=(Blk.new (w.alloc (.cells #[.int .i64 d,.int .i64 m,.int .u64 (ld:Int),.int .u64 (kp:Int),.int .u64 (sg:Int)] 95)) 44 x.cells).drew;rwa [Am6] at this
 have af:Fr Non w ((w.alloc (.cells #[.int .i64 d,.int .i64 m,.int .u64 (ld:Int),.int .u64 (kp:Int),.int .u64 (sg:Int)] 95)).alloc (.cells x.cells 44)).drew:=(((Fr.refl Non w).alloc _).alloc _).drew;have ah:=OpL.frame hat af;have kb:=Lib.hid (fun w' (h:x.at w' w'.heap.size)=>Nz x w' h hok);have lb:=Op.bare_len x.op hok;have hr:=hok.r;have hs:=hok.s;have kc:=Lib.hid (fun (A:Option Addr) (c:Nat) (w':World) (B:Nat) (h:Own w' B 5 1 A x.op.bare.length c (x.op.bare.map Bv))=>Kj sg x.r x.s w'.heap.size x.op.bare.length c A x.op.bare w' hsg hr hs rfl h.cap.1 (by omega) (Am8 _) h.rd);obtain ⟨D,hD⟩:=Aa x.op.bare;rw [hD.out] at kb lb kc;rw [hD.out];rw [ae.out] at aj ac ab kb ah af;rw [ae.out];have hi:(Tryz.prog.info? 44).map (·.size)=some CS.size:=by rw [aj];kernel_rfl
 have hl:=Aq (P:=Tryz.prog) (w.heap.size+1) 44 Tryz.underlying44 rfl hi;obtain ⟨V,hV⟩:=Aa (Sg.check sg D x.r x.s);rw [hV.out] at kc ⊢;unfold Ec at kc;clear hat hok hr hs hD
 by_cases hd:x.by_=d
 ·
  have hb:(x.by_==d)=true:=by simp [hd]
  have ad:Hid (((x.by_==d)&&V)=V):=by show _=_;rw [hb];simp
  rw [ad.out];clear hd ad;go_enter Tryz.func44,Tryz.ntmps44;go_upto_region 1 with (fail)
  generalize (w.alloc (.cells #[.int .i64 d,.int .i64 m,.int .u64 (ld:Int),.int .u64 (kp:Int),.int .u64 (sg:Int)] 95)).alloc (.cells CS 44)=w0 at*;refine wp_region_held_drew (S:=fun w'=>Blk w' w.heap.size 95 #[.int .i64 d,.int .i64 m,.int .u64 (ld:Int),.int .u64 (kp:Int),.int .u64 (sg:Int)]∧Blk w' (w.heap.size+1) 44 CS) (by kernel_rfl) ⟨ab,ac⟩ (fun _=> ?_);refine wpAnyH_take (i:=0) (v:=?_) rfl (by kernel_rfl) (by kernel_rfl) (by kernel_rfl) (fun _ _ _ h=>h) (Or.inl ⟨by kernel_rfl,?_⟩) ⟨ab,ac⟩ ?_;rotate_left
  focus (intro w' aa;have b1:=aa.1;have b2:=aa.2;go_simp;(try with_reducible rfl))
  try simp only [put_lit2,List.set]
  refine wpAnyH_take (i:=1) (v:=?_) rfl (by kernel_rfl) (by kernel_rfl) (by kernel_rfl) (fun _ _ _ h=>h) (Or.inl ⟨by kernel_rfl,?_⟩) ⟨ab,ac⟩ ?_;rotate_left
  focus (intro w' aa;have b1:=aa.1;have b2:=aa.2;have q:w'.cell? ⟨w.heap.size+1,0,none⟩=some (.int .i64 x.by_):=(b2.cell 0).trans e0.out;go_simp;(try with_reducible rfl))
  try simp only [put_lit2,List.set]
  refine wpAnyH_take (i:=2) (v:=?_) rfl (by kernel_rfl) (by kernel_rfl) (by kernel_rfl) (fun _ _ _ h=>h) (Or.inl ⟨by kernel_rfl,?_⟩) ⟨ab,ac⟩ ?_;rotate_left
  focus (intro w' aa;have b1:=aa.1;have b2:=aa.2;go_simp;(try with_reducible rfl))
  try simp only [put_lit2,List.set]
  refine wpAnyH_take (i:=3) (v:=?_) rfl (by kernel_rfl) (by kernel_rfl) (by kernel_rfl) (fun _ _ _ h=>h) (Or.inl ⟨by kernel_rfl,?_⟩) ⟨ab,ac⟩ ?_;rotate_left
  focus (intro w' aa;have b1:=aa.1;have b2:=aa.2;have q:w'.cell? ⟨w.heap.size,0,none⟩=some (.int .i64 d):=b1.cell 0;go_simp;(try with_reducible rfl))
  try simp only [put_lit2,List.set]
  refine wpAnyH_take (i:=4) (v:=?_) rfl (by kernel_rfl) (by kernel_rfl) (by kernel_rfl) (fun _ _ _ h=>h) (Or.inl ⟨by kernel_rfl,?_⟩) ⟨ab,ac⟩ ?_;rotate_left
  focus (intro w' aa;have b1:=aa.1;have b2:=aa.2;go_simp;(try with_reducible rfl))
  try simp only [put_lit2,List.set]
  refine wpAnyH_take (i:=5) (v:=?_) rfl (by kernel_rfl) (by kernel_rfl) (by kernel_rfl) (fun _ _ _ h=>h) (Or.inl ⟨by kernel_rfl,?_⟩) ⟨ab,ac⟩ ?_;rotate_left
  focus (intro w' aa;have b1:=aa.1;have b2:=aa.2;go_simp;(try with_reducible rfl))
  try simp only [put_lit2,List.set]
  refine wpAnyH_take (i:=6) (v:=?_) rfl (by kernel_rfl) (by kernel_rfl) (by kernel_rfl) (fun _ _ _ h=>h) (Or.inl ⟨by kernel_rfl,?_⟩) ⟨ab,ac⟩ ?_;rotate_left
  focus (intro w' aa;have b1:=aa.1;have b2:=aa.2;go_simp;(try with_reducible rfl))
  try simp only [put_lit2,List.set]
  refine wpAnyH_take (i:=7) (v:=?_) rfl (by kernel_rfl) (by kernel_rfl) (by kernel_rfl) (fun _ _ _ h=>h) (Or.inl ⟨by kernel_rfl,?_⟩) ⟨ab,ac⟩ ?_;rotate_left
  focus (intro w' aa;have b1:=aa.1;have b2:=aa.2;have q:w'.cell? ⟨w.heap.size,4,none⟩=some (.int .u64 (sg:Int)):=b1.cell 4;go_simp;(try with_reducible rfl))
  try simp only [put_lit2,List.set]
  refine wpAnyH_take (i:=8) (v:=?_) rfl (by kernel_rfl) (by kernel_rfl) (by kernel_rfl) (fun _ _ _ h=>h) (Or.inl ⟨by kernel_rfl,?_⟩) ⟨ab,ac⟩ ?_;rotate_left
  focus (intro w' aa;have b1:=aa.1;have b2:=aa.2;go_simp;(try with_reducible rfl))
  try simp only [put_lit2,List.set]
  refine wpAnyH_take (i:=11) (v:=?_) rfl (by kernel_rfl) (by kernel_rfl) (by kernel_rfl) (fun _ _ _ h=>h) (Or.inl ⟨by kernel_rfl,?_⟩) ⟨ab,ac⟩ ?_;rotate_left
  focus (intro w' aa;have b1:=aa.1;have b2:=aa.2;go_simp;(try with_reducible rfl))
  try simp only [put_lit2,List.set]
  refine wpAnyH_take (i:=12) (v:=?_) rfl (by kernel_rfl) (by kernel_rfl) (by kernel_rfl) (fun _ _ _ h=>h) (Or.inl ⟨by kernel_rfl,?_⟩) ⟨ab,ac⟩ ?_;rotate_left
  focus (intro w' aa;have b1:=aa.1;have b2:=aa.2;have q1:w'.cell? ⟨w.heap.size+1,25,none⟩=some (.int .u64 (x.r:Int)):=(b2.cell 25).trans av.out;have q2:w'.cell? ⟨w.heap.size+1,26,none⟩=some (.int .u64 (x.s:Int)):=(b2.cell 26).trans ar.out;go_simp;(try with_reducible rfl))
  try simp only [put_lit2,List.set]
  refine Bg 9 (by kernel_rfl) rfl (by kernel_rfl) (fun K hK=> ?_);go_simp;go_wp2_with (go_at_call 83;(with_reducible refine (kb.out _ ah).mono ?_);rintro _ v1 ⟨A1,c1,rfl,o1,f1⟩;have ak:=ab.fr f1 zq;have ao:=ac.fr f1 zq;have aw:=OpL.frame ah f1;have aq:=af.trans f1 zr;have ax:OutAt v1 w0.heap.size (w0.heap.size+1) A1 c1 D:=o1);refine hK.out _ _ ⟨ak,ao⟩ (fun _=> ?_);clear hK K;try simp only [put_lit2,List.set]
  refine Bg 10 (by kernel_rfl) rfl (by kernel_rfl) (fun K hK=> ?_);go_simp;go_wp2_with (go_at_call 84;(with_reducible refine (Mv _ _ A1 c1 _ _ ax (by omega)).mono ?_);rintro _ v2 ⟨A2,c2,rfl,o2,f2⟩;have ap:=ak.fr f2 zq;have al:=ao.fr f2 zq;have az:=OpL.frame aw f2;have ay:=aq.trans f2 zr);refine hK.out _ _ ⟨ap,al⟩ (fun _=> ?_);clear hK K;try simp only [put_lit2,List.set]
  refine Bg 13 (by kernel_rfl) rfl (by kernel_rfl) (fun K hK=> ?_);go_simp;go_wp2_with (go_at_call 85;(with_reducible refine (kc.out _ _ _ _ o2).mono ?_);rintro _ v3 ⟨rfl,f3⟩;have ag:=ap.fr f3 zq;have ai:=al.fr f3 zq;have a0:=OpL.frame az f3;have au:=ay.trans f3 zr);refine hK.out _ _ ⟨ag,ai⟩ (fun _=> ?_);clear hK K;try simp only [put_lit2,List.set]
  refine wpAnyH_take (i:=14) (v:=?_) rfl (by kernel_rfl) (by kernel_rfl) (by kernel_rfl) (fun _ _ _ h=>h) (Or.inl ⟨by kernel_rfl,?_⟩) ⟨ag,ai⟩ ?_;rotate_left
  focus (intro w' aa;have b1:=aa.1;have b2:=aa.2;go_simp;(try with_reducible rfl))
  try simp only [put_lit2,List.set]
  refine wpAnyH_take (i:=15) (v:=?_) rfl (by kernel_rfl) (by kernel_rfl) (by kernel_rfl) (fun _ _ _ h=>h) (Or.inl ⟨by kernel_rfl,?_⟩) ⟨ag,ai⟩ ?_;rotate_left
  focus (intro w' aa;have b1:=aa.1;have b2:=aa.2;go_simp;(try with_reducible rfl))
  try simp only [put_lit2,List.set]
  refine oD ?_;go_wp2
  go_ret
  exact ⟨rfl,au⟩
 ·
  have hb:(x.by_==d)=false:=by simp [hd]
  have ad:Hid (((x.by_==d)&&V)=false):=by show _=_;rw [hb];simp
  rw [ad.out];clear hd ad;go_enter Tryz.func44,Tryz.ntmps44;go_upto_region 1 with (fail)
  generalize (w.alloc (.cells #[.int .i64 d,.int .i64 m,.int .u64 (ld:Int),.int .u64 (kp:Int),.int .u64 (sg:Int)] 95)).alloc (.cells CS 44)=w0 at*;refine wp_region_held_drew (S:=fun w'=>Blk w' w.heap.size 95 #[.int .i64 d,.int .i64 m,.int .u64 (ld:Int),.int .u64 (kp:Int),.int .u64 (sg:Int)]∧Blk w' (w.heap.size+1) 44 CS) (by kernel_rfl) ⟨ab,ac⟩ (fun _=> ?_);refine wpAnyH_take (i:=0) (v:=?_) rfl (by kernel_rfl) (by kernel_rfl) (by kernel_rfl) (fun _ _ _ h=>h) (Or.inl ⟨by kernel_rfl,?_⟩) ⟨ab,ac⟩ ?_;rotate_left
  focus (intro w' aa;have b1:=aa.1;have b2:=aa.2;go_simp;(try with_reducible rfl))
  try simp only [put_lit2,List.set]
  refine wpAnyH_take (i:=1) (v:=?_) rfl (by kernel_rfl) (by kernel_rfl) (by kernel_rfl) (fun _ _ _ h=>h) (Or.inl ⟨by kernel_rfl,?_⟩) ⟨ab,ac⟩ ?_;rotate_left
  focus (intro w' aa;have b1:=aa.1;have b2:=aa.2;have q:w'.cell? ⟨w.heap.size+1,0,none⟩=some (.int .i64 x.by_):=(b2.cell 0).trans e0.out;go_simp;(try with_reducible rfl))
  try simp only [put_lit2,List.set]
  refine wpAnyH_take (i:=2) (v:=?_) rfl (by kernel_rfl) (by kernel_rfl) (by kernel_rfl) (fun _ _ _ h=>h) (Or.inl ⟨by kernel_rfl,?_⟩) ⟨ab,ac⟩ ?_;rotate_left
  focus (intro w' aa;have b1:=aa.1;have b2:=aa.2;go_simp;(try with_reducible rfl))
  try simp only [put_lit2,List.set]
  refine wpAnyH_take (i:=3) (v:=?_) rfl (by kernel_rfl) (by kernel_rfl) (by kernel_rfl) (fun _ _ _ h=>h) (Or.inl ⟨by kernel_rfl,?_⟩) ⟨ab,ac⟩ ?_;rotate_left
  focus (intro w' aa;have b1:=aa.1;have b2:=aa.2;have q:w'.cell? ⟨w.heap.size,0,none⟩=some (.int .i64 d):=b1.cell 0;go_simp;(try with_reducible rfl))
  try simp only [put_lit2,List.set]
  refine wpAnyH_take (i:=4) (v:=?_) rfl (by kernel_rfl) (by kernel_rfl) (by kernel_rfl) (fun _ _ _ h=>h) (Or.inl ⟨by kernel_rfl,?_⟩) ⟨ab,ac⟩ ?_;rotate_left
  focus (intro w' aa;have b1:=aa.1;have b2:=aa.2;go_simp;(try with_reducible rfl))
  try simp only [put_lit2,List.set]
  refine wpAnyH_take (i:=5) (v:=?_) rfl (by kernel_rfl) (by kernel_rfl) (by kernel_rfl) (fun _ _ _ h=>h) (Or.inl ⟨by kernel_rfl,?_⟩) ⟨ab,ac⟩ ?_;rotate_left
  focus (intro w' aa;have b1:=aa.1;have b2:=aa.2;go_simp;(try with_reducible rfl))
  try simp only [put_lit2,List.set]
  refine wpAnyH_take (i:=6) (v:=undef) rfl (by kernel_rfl) (by kernel_rfl) (by kernel_rfl) (fun _ _ _ h=>h) (Or.inr ⟨by kernel_rfl,rfl⟩) ⟨ab,ac⟩ ?_;try simp only [put_lit2,List.set]
  refine wpAnyH_take (i:=7) (v:=undef) rfl (by kernel_rfl) (by kernel_rfl) (by kernel_rfl) (fun _ _ _ h=>h) (Or.inr ⟨by kernel_rfl,rfl⟩) ⟨ab,ac⟩ ?_;try simp only [put_lit2,List.set]
  refine wpAnyH_take (i:=8) (v:=undef) rfl (by kernel_rfl) (by kernel_rfl) (by kernel_rfl) (fun _ _ _ h=>h) (Or.inr ⟨by kernel_rfl,rfl⟩) ⟨ab,ac⟩ ?_;try simp only [put_lit2,List.set]
  refine wpAnyH_take (i:=9) (v:=undef) rfl (by kernel_rfl) (by kernel_rfl) (by kernel_rfl) (fun _ _ _ h=>h) (Or.inr ⟨by kernel_rfl,rfl⟩) ⟨ab,ac⟩ ?_;try simp only [put_lit2,List.set]
  refine wpAnyH_take (i:=10) (v:=undef) rfl (by kernel_rfl) (by kernel_rfl) (by kernel_rfl) (fun _ _ _ h=>h) (Or.inr ⟨by kernel_rfl,rfl⟩) ⟨ab,ac⟩ ?_;try simp only [put_lit2,List.set]
  refine wpAnyH_take (i:=11) (v:=undef) rfl (by kernel_rfl) (by kernel_rfl) (by kernel_rfl) (fun _ _ _ h=>h) (Or.inr ⟨by kernel_rfl,rfl⟩) ⟨ab,ac⟩ ?_;try simp only [put_lit2,List.set]
  refine wpAnyH_take (i:=12) (v:=undef) rfl (by kernel_rfl) (by kernel_rfl) (by kernel_rfl) (fun _ _ _ h=>h) (Or.inr ⟨by kernel_rfl,rfl⟩) ⟨ab,ac⟩ ?_;try simp only [put_lit2,List.set]
  refine wpAnyH_take (i:=13) (v:=undef) rfl (by kernel_rfl) (by kernel_rfl) (by kernel_rfl) (fun _ _ _ h=>h) (Or.inr ⟨by kernel_rfl,rfl⟩) ⟨ab,ac⟩ ?_;try simp only [put_lit2,List.set]
  refine wpAnyH_take (i:=14) (v:=?_) rfl (by kernel_rfl) (by kernel_rfl) (by kernel_rfl) (fun _ _ _ h=>h) (Or.inl ⟨by kernel_rfl,?_⟩) ⟨ab,ac⟩ ?_;rotate_left
  focus (intro w' aa;have b1:=aa.1;have b2:=aa.2;go_simp;(try with_reducible rfl))
  try simp only [put_lit2,List.set]
  refine wpAnyH_take (i:=15) (v:=?_) rfl (by kernel_rfl) (by kernel_rfl) (by kernel_rfl) (fun _ _ _ h=>h) (Or.inl ⟨by kernel_rfl,?_⟩) ⟨ab,ac⟩ ?_;rotate_left
  focus (intro w' aa;have b1:=aa.1;have b2:=aa.2;go_simp;(try with_reducible rfl))
  try simp only [put_lit2,List.set]
  refine oD ?_;go_wp2
  go_ret
  exact ⟨by go_simp,af⟩
theorem O6 {x:OpL} {w:World} {B:Nat} (o:x.at w B) (r s:Nat):({x with r:=r,s:=s}:OpL).at w B:=⟨o.past,o.path,o.nodes,o.body,o.refs,o.guards,o.boxes,o.hist,o.seals⟩
theorem Wo (x:OpL) (R S:Nat):({x with r:=R,s:=S}:OpL).op={x.op with r:=R,s:=S}:=rfl
def Bb:List UInt8:=[115,105,103,110]
def Kk (x:OpL) (secret:Nat) (w:World) (r:Ending) (w':World):Prop:=
 r=.returned (.agg ({x with r:=Sg.r secret x.op.bare,s:=Sg.s secret x.op.bare}:OpL).cells)∧Fr Non w w'
theorem Ic (x:OpL) (u:Nat) (w:World) (hu:IntKind.u64.wrap x.by_=(u:Int)) (hu':u<18446744073709551616) (hat:x.at w w.heap.size) (hok:x.op.ok):
  Calls Tryz.prog 28 #[.agg x.cells] w (Kk x (sec Bb u) w):=by
 have hi:(Tryz.prog.info? 44).map (·.size)=some 27:=by kernel_rfl
 have ak:Blk ((w.alloc (.cells x.cells 44)).alloc (.cells zO 44)).drew w.heap.size 44 x.cells:=((Blk.new w 44 _).alloc _).drew
 have av:Blk ((w.alloc (.cells x.cells 44)).alloc (.cells zO 44)).drew (w.heap.size+1) 44 zO:=by
  have:=(Blk.new (w.alloc (.cells x.cells 44)) 44 zO).drew;rwa [Am6] at this
 have ah:Fr Non w ((w.alloc (.cells x.cells 44)).alloc (.cells zO 44)).drew:=(((Fr.refl Non w).alloc _).alloc _).drew;have a0:=OpL.frame hat ah;have hs:=Gu Bb u;have k1:Hid (∀w':World,Calls Tryz.prog 57 #[.string ⟨#[115,105,103,110]⟩,.int .i64 x.by_] w' (Ce (sec Bb u) w')):=fun w'=>Oz Bb x.by_ u w' hu hu' (by decide);have kb:=Lib.hid (fun w' (h:x.at w' w'.heap.size)=>Ho x w' h hok);have lb:=Op.bare_len x.op hok;have ks:=Lib.hid (fun (A:Option Addr) (c:Nat) (w':World) (B:Nat) (h:Own w' B 5 1 A x.op.bare.length c (x.op.bare.map Bv))=>Wn (sec Bb u) w'.heap.size x.op.bare.length c A x.op.bare w' (by omega) rfl (by omega) (Am8 _) h.rd);have ab:∀(R S:Nat) (w':World),Sg.r (sec Bb u) x.op.bare=R→Sg.s (sec Bb u) x.op.bare=S→({x with r:=R,s:=S}:OpL).at w' w'.heap.size→Fr Non w w'→Kk x (sec Bb u) w (.returned (.agg ({x with r:=R,s:=S}:OpL).cells)) w':=fun R S w' h1 h2 h3 h4=>by subst h1;subst h2;exact ⟨rfl,h4⟩
 obtain ⟨D,hD⟩:=Aa x.op.bare;rw [hD.out] at kb lb ks ab;generalize sec Bb u=V at*;obtain ⟨R,hR⟩:=Aa (Sg.r V D);obtain ⟨S,hS⟩:=Aa (Sg.s V D);unfold Ov Ec at ks;rw [hR.out,hS.out] at ks;have aa:=Lib.hid (fun w'=>ab R S w' hR.out hS.out);generalize Kk x V w=POST at aa ⊢;have a7:=Aq (P:=Tryz.prog) w.heap.size 44 Tryz.underlying44 rfl (cs:=x.cells) hi;have ad:=Lib.hid hat;clear ab hat hok hs hD hR hS hu hu';go_enter Tryz.func28,Tryz.ntmps28;go_upto_region 1 with (fail)
 generalize (w.alloc (.cells x.cells 44)).alloc (.cells zO 44)=w0 at*;have c0:w0.drew.cell? ⟨w.heap.size,0,none⟩=some (.int .i64 x.by_):=ak.cell 0;have f0:Fr Non w0.drew w0.drew:=Fr.refl _ _
 go_region_with (first
  |(go_at_call 57;(with_reducible refine (k1.out _).mono ?_);rintro _ v1 ⟨rfl,f1⟩;have a5:=ak.fr f1 zq;have aj:=OpL.frame a0 f1;have ao:=av.fr f1 zq;have al:=ah.trans f1 zr)
  |(go_at_call 49;(with_reducible refine (kb.out _ aj).mono ?_);rintro _ v2 ⟨A2,c2,rfl,o2,f2⟩;have aw:=a5.fr f2 zq;have a3:=OpL.frame aj f2;have ap:=ao.fr f2 zq;have ay:=al.trans f2 zr)
  |(go_at_call 62;(with_reducible refine (ks.out _ _ _ _ o2).mono ?_);rintro _ v3 ⟨rfl,f3⟩;have ae:=aw.fr f3 zq;have a9:=OpL.frame a3 f3;have a1:=ap.fr f3 zq;have ar:=ay.trans f3 zr;have a8:v3.cell? ⟨w.heap.size,25,none⟩=some _:=ae.cell 25;have bb:v3.cell? ⟨w.heap.size,26,none⟩=some _:=ae.cell 26;have bc:=ae.frozen 25;have ba:=ae.frozen 26))
 all_goals
  have au:Blk _ w.heap.size 44 ({x with r:=R,s:=S}:OpL).cells:=(ae.set 25 (.int .u64 (R:Int))).set 26 (.int .u64 (S:Int));have a6:=((Fr.refl (One w.heap.size) v3).setOne 25 (.int .u64 (R:Int))).setOne 26 (.int .u64 (S:Int));have a4:=a1.fr a6 (fun e=>by have e':w.heap.size+1=w.heap.size:=e;omega);have ag:=(ar.setNew (Am8 _) 25 (.int .u64 (R:Int))).setNew (Am8 _) 26 (.int .u64 (S:Int));have ai:=O6 (OpL.frame ad.out ag) R S;generalize (v3.setCell ⟨w.heap.size,25,none⟩ (.int .u64 (R:Int))).setCell ⟨w.heap.size,26,none⟩ (.int .u64 (S:Int))=w4 at*;have ac:=Bm ({x with r:=R,s:=S}:OpL)
  have ax:Hid (∀wz,Fr (One (w.heap.size+1)) w4 wz→POST (.returned (.agg ({x with r:=R,s:=S}:OpL).cells)) wz):=by
   intro wz hf;have az:=ag.trans hf (fun k hk e=>absurd hk (by have e':k=w.heap.size+1:=e;omega));exact aa.out wz (O6 (OpL.frame ad.out az) R S) az
  clear ai aa ad ag ak a5 aw ae av ao ap a1 a0 aj a3 a9 ah al ay ar a8 bb bc ba a6 a7 o2 f1 f2 f3 c0 f0;generalize ({x with r:=R,s:=S}:OpL)=v at au ac ax;have af:True:=trivial
  go_wp2_with (first
   |(have _t:=af;refine Ms rfl 44 (.tmp 1) rfl rfl au Tryz.underlying44 rfl hi ?_;clear af _t)
   |(refine Fg rfl 44 (.tmp 2) (.tmp 10) rfl rfl rfl rfl a4 hi rfl ac ?_;have aq:=(Fr.refl (One (w.heap.size+1)) w4).setRow (g:=w.heap.size+1) (fun _=>rfl) v.cells;have a2:=a4.setRow (cs:=v.cells);generalize w4.setRow (w.heap.size+1) v.cells=wz at aq a2 ⊢;(repeat (first|go_values|go_skip|go_guarded|go_step));exact Cu (t:=44) rfl rfl a2 rfl Tryz.underlying44 (by kernel_rfl) rfl (ax.out wz aq)))
def Fj:List UInt8:=[108,101,97,100]
def Fk:List UInt8:=[107,101,101,112]
def Bt (i:Nat) (m:Int):Cd:=⟨(i:Int)+1,m,Sg.pub (sec Fj (i+1)),Sg.pub (sec Fk (i+1)),Sg.pub (sec Bb (i+1))⟩
def Ba (i:Nat):List Int→List Cd
 |[]=>[]
 |m::r=>Bt i m::Ba (i+1) r
theorem O7 (l:List Int):∀i,(Ba i l).length=l.length:=by
 induction l with
 |nil=>intro i;rfl
 |cons m r ih=>intro i;simp [Ba,ih]
theorem Wp (l:List Int) (m:Int):∀i,Ba i (l++[m])=Ba i l++[Bt (i+l.length) m]:=by
 induction l with
 |nil=>intro i;rfl
 |cons x r ih=>
  intro i;show Bt i x::Ba (i+1) (r++[m])=_;rw [ih,List.length_cons,show i+1+r.length=i+(r.length+1) by omega];rfl
theorem slCd:SlT Tryz.prog 23 95 (.agg zC) 5 40:=⟨Tryz.underlying23,by kernel_rfl,rfl,by decide⟩
def O8 (l:List Int) (n:Nat) (w:World) (r:Ending) (w':World):Prop:=
 ∃A c,r=.returned (.slice A n c)∧Own w' w.heap.size 95 5 A n c ((Ba 0 l).flatMap Cd.cells)∧Fr Non w w'
theorem O9 (n c:Nat) (A:Option Addr) (l:List Int) (w:World) (hn:Hid (l.length=n)) (hl:n≤1000) (hr:Rd w w.heap.size 1 A n (l.map Iv)):
  Calls Tryz.prog 24 #[.slice A n c] w (O8 l n w):=by
 have ap:∀(kind:List UInt8) (k:Nat) (w':World),k<n→kind.length≤1000→Calls Tryz.prog 57 #[.string (str kind),.int .i64 ((k:Int)+1)] w' (Ce (sec kind (k+1)) w'):=fun kind k w' hkn hkl=>Oz kind _ (k+1) w' (by rw [IntKind.wrap_u64];omega) (by omega) hkl;go_enter Tryz.func24,Tryz.ntmps24;go_wp2
 go_loopw [3,4] (fun s v wr=>∃(k:Nat) (A':Option Addr) (c':Nat),v=.int .i64 (k:Int)∧s=.slice A' k c'∧k≤n∧Own wr w.heap.size 95 5 A' k c' ((Ba 0 (l.take k)).flatMap Cd.cells)∧Fr Non w wr) (fun _ v _=>n-(intOf v).toNat)
 case atStart=>exact ⟨0,none,0,rfl,rfl,by omega,Own.nil _ _ _ _,Fr.refl _ _⟩
 case round=>
  obtain ⟨k,A',c',rfl,rfl,hk,ab,hf⟩:=hrel
  by_cases hlt:k<n
  ·
   obtain ⟨b,a4,v,rfl,hb,hu,hc⟩:=(hr.fr hf zr).at hlt;rw [Ao3] at hu;obtain ⟨mm,ba,rfl⟩:=Option.map_eq_some_iff.1 hu
   have bb:l.take (k+1)=l.take k++[mm]:=by
    obtain ⟨hx,rfl⟩:=List.getElem?_eq_some_iff.1 ba;exact Ao4 hx
   have ay:(l.take k).length=k:=by rw [List.length_take,hn.out];omega
   have a2:Hid (((Ba 0 (l.take (k+1))).flatMap Cd.cells)=(Ba 0 (l.take k)).flatMap Cd.cells++(Bt k mm).cells):=by
    show _=_;rw [bb,Wp,ay,Am7,List.flatMap_append,An6,List.flatMap_nil,List.append_nil]
   obtain ⟨V1,be⟩:=Aa (sec Fj (k+1));obtain ⟨V2,az⟩:=Aa (sec Fk (k+1));obtain ⟨V3,a7⟩:=Aa (sec Bb (k+1));have l1:=Gu Fj (k+1);have l2:=Gu Fk (k+1);have l3:=Gu Bb (k+1);have k1:Hid (∀w':World,Calls Tryz.prog 57 #[.string ⟨#[108,101,97,100]⟩,.int .i64 ((k:Int)+1)] w' (Ce (sec Fj (k+1)) w')):=fun w'=>ap Fj k w' hlt (by decide);have k2:Hid (∀w':World,Calls Tryz.prog 57 #[.string ⟨#[107,101,101,112]⟩,.int .i64 ((k:Int)+1)] w' (Ce (sec Fk (k+1)) w')):=fun w'=>ap Fk k w' hlt (by decide);have k3:Hid (∀w':World,Calls Tryz.prog 57 #[.string ⟨#[115,105,103,110]⟩,.int .i64 ((k:Int)+1)] w' (Ce (sec Bb (k+1)) w')):=fun w'=>ap Bb k w' hlt (by decide);have p1:=Lib.hid (fun w'=>Ib (sec Fj (k+1)) w' (by omega));have p2:=Lib.hid (fun w'=>Ib (sec Fk (k+1)) w' (by omega));have p3:=Lib.hid (fun w'=>Ib (sec Bb (k+1)) w' (by omega))
   have ad:Hid ((Bt k mm).cells=[.int .i64 ((k:Int)+1),.int .i64 mm,.int .u64 (Sg.pub (sec Fj (k+1)):Int),.int .u64 (Sg.pub (sec Fk (k+1)):Int),.int .u64 (Sg.pub (sec Bb (k+1)):Int)]):=by
    show _=_;unfold Bt;exact Uq _ _ _ _ _
   rw [be.out] at k1 p1 ad l1;rw [az.out] at k2 p2 ad l2;rw [a7.out] at k3 p3 ad l3;obtain ⟨Q1,bd⟩:=Aa (Sg.pub V1);obtain ⟨Q2,a9⟩:=Aa (Sg.pub V2);obtain ⟨Q3,a8⟩:=Aa (Sg.pub V3);rw [bd.out] at p1 ad;rw [a9.out] at p2 ad;rw [a8.out] at p3 ad;have ai:Hid (∀(A2:Option Addr) (c2:Nat) (w2:World),Own w2 w.heap.size 95 5 A2 (k+1) c2 ((Ba 0 (l.take k)).flatMap Cd.cells++[.int .i64 ((k:Int)+1),.int .i64 mm,.int .u64 (Q1:Int),.int .u64 (Q2:Int),.int .u64 (Q3:Int)])→Own w2 w.heap.size 95 5 A2 (k+1) c2 ((Ba 0 (l.take (k+1))).flatMap Cd.cells)):=fun A2 c2 w2 h=>by rw [a2.out,ad.out];exact h
   clear be az a7 bd a9 a8 a2 ad bb ay ba hu hn ap;obtain ⟨XS,bg⟩:=Aa ((Ba 0 (l.take k)).flatMap Cd.cells);rw [bg.out] at ab ai;have bn:b<w.heap.size:=hb;have ac:wr.drew.cell? ⟨b,a4+k,none⟩=some (.int .i64 mm):=hc;have al:Own wr.drew w.heap.size 95 5 A' k c' XS:=ab;have bl:=hf.drew;go_upto_region 6 with (fail)
   refine wp_region_held_drew (S:=fun w'=>w'.cell? ⟨b,a4+k,none⟩=some (.int .i64 mm)) (by kernel_rfl) ac (fun _=> ?_);refine wpAnyH_take (i:=0) (v:=?_) rfl (by kernel_rfl) (by kernel_rfl) (by kernel_rfl) (fun _ _ _ h=>h) (Or.inl ⟨by kernel_rfl,?_⟩) ac ?_;rotate_left
   focus (intro w' aa;have b1:=aa;(try dsimp only at b1);go_simp;(try with_reducible rfl))
   try simp only [put_lit2,List.set]
   refine wpAnyH_take (i:=1) (v:=?_) rfl (by kernel_rfl) (by kernel_rfl) (by kernel_rfl) (fun _ _ _ h=>h) (Or.inl ⟨by kernel_rfl,?_⟩) ac ?_;rotate_left
   focus (intro w' aa;have b1:=aa;(try dsimp only at b1);go_simp;(try with_reducible rfl))
   try simp only [put_lit2,List.set]
   refine wpAnyH_take (i:=2) (v:=?_) rfl (by kernel_rfl) (by kernel_rfl) (by kernel_rfl) (fun _ _ _ h=>h) (Or.inl ⟨by kernel_rfl,?_⟩) ac ?_;rotate_left
   focus (intro w' aa;have b1:=aa;(try dsimp only at b1);go_simp;(try with_reducible rfl))
   try simp only [put_lit2,List.set]
   refine wpAnyH_take (i:=3) (v:=?_) rfl (by kernel_rfl) (by kernel_rfl) (by kernel_rfl) (fun _ _ _ h=>h) (Or.inl ⟨by kernel_rfl,?_⟩) ac ?_;rotate_left
   focus (intro w' aa;have b1:=aa;(try dsimp only at b1);go_simp;(try with_reducible rfl))
   try simp only [put_lit2,List.set]
   refine wpAnyH_take (i:=4) (v:=?_) rfl (by kernel_rfl) (by kernel_rfl) (by kernel_rfl) (fun _ _ _ h=>h) (Or.inl ⟨by kernel_rfl,?_⟩) ac ?_;rotate_left
   focus (intro w' aa;have b1:=aa;(try dsimp only at b1);go_simp;(try with_reducible rfl))
   try simp only [put_lit2,List.set]
   refine wpAnyH_take (i:=5) (v:=?_) rfl (by kernel_rfl) (by kernel_rfl) (by kernel_rfl) (fun _ _ _ h=>h) (Or.inl ⟨by kernel_rfl,?_⟩) ac ?_;rotate_left
   focus (intro w' aa;have b1:=aa;(try dsimp only at b1);go_simp;(try with_reducible rfl))
   try simp only [put_lit2,List.set]
   refine wpAnyH_take (i:=6) (v:=?_) rfl (by kernel_rfl) (by kernel_rfl) (by kernel_rfl) (fun _ _ _ h=>h) (Or.inl ⟨by kernel_rfl,?_⟩) ac ?_;rotate_left
   focus (intro w' aa;have b1:=aa;(try dsimp only at b1);go_simp;(try with_reducible rfl))
   try simp only [put_lit2,List.set]
   refine wpAnyH_take (i:=9) (v:=?_) rfl (by kernel_rfl) (by kernel_rfl) (by kernel_rfl) (fun _ _ _ h=>h) (Or.inl ⟨by kernel_rfl,?_⟩) ac ?_;rotate_left
   focus (intro w' aa;have b1:=aa;(try dsimp only at b1);go_simp;(try with_reducible rfl))
   try simp only [put_lit2,List.set]
   refine wpAnyH_take (i:=12) (v:=?_) rfl (by kernel_rfl) (by kernel_rfl) (by kernel_rfl) (fun _ _ _ h=>h) (Or.inl ⟨by kernel_rfl,?_⟩) ac ?_;rotate_left
   focus (intro w' aa;have b1:=aa;(try dsimp only at b1);go_simp;(try with_reducible rfl))
   try simp only [put_lit2,List.set]
   refine Bg 7 (by kernel_rfl) rfl (by kernel_rfl) (fun K hK=> ?_);go_simp;go_wp2_with (go_at_call 57;(with_reducible refine (k1.out _).mono ?_);rintro _ v1 ⟨rfl,f1⟩;have a6:=f1.cell ac zq;have ag:=al.fr f1 zr;have bf:=bl.trans f1 zr);refine hK.out _ _ a6 (fun _=> ?_);clear hK K;try simp only [put_lit2,List.set]
   refine Bg 8 (by kernel_rfl) rfl (by kernel_rfl) (fun K hK=> ?_);go_simp;go_wp2_with (go_at_call 56;(with_reducible refine (p1.out _).mono ?_);rintro _ v2 ⟨rfl,f2⟩;have aw:=f2.cell a6 zq;have af:=ag.fr f2 zr;have bh:=bf.trans f2 zr);refine hK.out _ _ aw (fun _=> ?_);clear hK K;try simp only [put_lit2,List.set]
   refine Bg 10 (by kernel_rfl) rfl (by kernel_rfl) (fun K hK=> ?_);go_simp;go_wp2_with (go_at_call 57;(with_reducible refine (k2.out _).mono ?_);rintro _ v3 ⟨rfl,f3⟩;have a3:=f3.cell aw zq;have ah:=af.fr f3 zr;have bk:=bh.trans f3 zr);refine hK.out _ _ a3 (fun _=> ?_);clear hK K;try simp only [put_lit2,List.set]
   refine Bg 11 (by kernel_rfl) rfl (by kernel_rfl) (fun K hK=> ?_);go_simp;go_wp2_with (go_at_call 56;(with_reducible refine (p2.out _).mono ?_);rintro _ v4 ⟨rfl,f4⟩;have bc:=f4.cell a3 zq;have aj:=ah.fr f4 zr;have bj:=bk.trans f4 zr);refine hK.out _ _ bc (fun _=> ?_);clear hK K;try simp only [put_lit2,List.set]
   refine Bg 13 (by kernel_rfl) rfl (by kernel_rfl) (fun K hK=> ?_);go_simp;go_wp2_with (go_at_call 57;(with_reducible refine (k3.out _).mono ?_);rintro _ v5 ⟨rfl,f5⟩;have a1:=f5.cell bc zq;have ae:=aj.fr f5 zr;have bi:=bj.trans f5 zr);refine hK.out _ _ a1 (fun _=> ?_);clear hK K;try simp only [put_lit2,List.set]
   refine Bg 14 (by kernel_rfl) rfl (by kernel_rfl) (fun K hK=> ?_);go_simp;go_wp2_with (go_at_call 56;(with_reducible refine (p3.out _).mono ?_);rintro _ v6 ⟨rfl,f6⟩;have ar:=f6.cell a1 zq;have ao:=ae.fr f6 zr;have a0:=bi.trans f6 zr);refine hK.out _ _ ar (fun _=> ?_);clear hK K;try simp only [put_lit2,List.set]
   refine wpAnyH_take (i:=15) (v:=?_) rfl (by kernel_rfl) (by kernel_rfl) (by kernel_rfl) (fun _ _ _ h=>h) (Or.inl ⟨by kernel_rfl,?_⟩) ar ?_;rotate_left
   focus (intro w' aa;have b1:=aa;(try dsimp only at b1);go_simp;(try with_reducible rfl))
   try simp only [put_lit2,List.set]
   refine Bg 16 (by kernel_rfl) rfl (by kernel_rfl) (fun K hK=> ?_);go_simp;have a5:=Jx ar (.cells #[.int .i64 ((k:Int)+1),.int .i64 mm,.int .u64 (Q1:Int),.int .u64 (Q2:Int),.int .u64 (Q3:Int)] 95);have ak:=ao.alloc (.cells #[.int .i64 ((k:Int)+1),.int .i64 mm,.int .u64 (Q1:Int),.int .u64 (Q2:Int),.int .u64 (Q3:Int)] 95);have aq:=Rd.blk (n:=1) (size:=5) (Blk.new v6 95 #[.int .i64 ((k:Int)+1),.int .i64 mm,.int .u64 (Q1:Int),.int .u64 (Q2:Int),.int .u64 (Q3:Int)]) rfl;refine hK.out _ _ a5 (fun _=> ?_);clear hK K;go_simp;refine wpAnyH_ready (rs:=[17]) (by kernel_rfl) (by simp) (AllReadyH.cons rfl (fun K hK=> ?_) AllReadyH.nil);refine Jn (base:=w.heap.size) (.tmp 14) (.tmp 30) 23 (by rfl) (by rfl) (by rfl) (by rfl) slCd ak aq (by simp [Value.oneCell']) (by omega) (by omega) (by rw [Am6];have:=a0.size;omega) ?_;intro A2 c2 w9 au av bm;have ax:=av.cell a5 (fun e=>by have h:w.heap.size≤b:=(ab.row b e).1;omega);refine hK.out _ _ ax (fun _=> ?_);clear hK K;go_simp;refine wpAnyH_take (i:=18) (v:=?_) rfl (by kernel_rfl) (by kernel_rfl) (by kernel_rfl) (fun _ _ _ h=>h) (Or.inl ⟨by kernel_rfl,?_⟩) ax ?_;rotate_left
   focus (intro w' aa;have b1:=aa;(try dsimp only at b1);go_simp;(try with_reducible rfl))
   try simp only [put_lit2,List.set]
   refine oD ?_;go_wp2;go_roundw
   case rel=>exact ⟨k+1,A2,c2,by go_num,rfl,by omega,ai.out A2 c2 _ au,(a0.alloc _).trans av (fun j hj e=>by have:=(ab.row j e).1;omega)⟩
   case measure=>simp [intOf];omega
  ·
   obtain rfl:k=n:=by omega
   have ht:l.take k=l:=List.take_of_length_le (by rw [hn.out];exact Am8 _);rw [ht] at ab;go_wp2
   go_ret
   exact ⟨A',c',rfl,ab,hf⟩
end Oq
namespace Oq
theorem Wq {P:Program} {t e:TypeId} (hu:P.underlying t=some (.slice e)) (A:Option Addr) (n c:Nat) (w:World):(Go.Op.equal t (.slice A n c) (.slice none 0 0)).run P w=.ok A.isNone w:=by
 show (Go.Op.equalIn (9999+1) t (.slice A n c) (.slice none 0 0)).run P w=_;generalize 9999=d
 cases A<;>simp [Go.Op.equalIn,run_underlying hu]
theorem E2 {P:Program} {t e:TypeId} (hu:P.underlying t=some (.slice e)) (A:Option Addr) (n c:Nat) (w:World):(binOp .eql t (.slice A n c) (.slice none 0 0)).run P w=.ok (.bool A.isNone) w:=by
 have h:binOp .eql t (.slice A n c) (.slice none 0 0)=(do pure (.bool (← Go.Op.equal t (.slice A n c) (.slice none 0 0)))):=by
  unfold binOp;rfl
 rw [h];simp [Wq hu]
theorem Own.empty (w:World) (t:TypeId) (size:Nat):Own (w.alloc (.cells #[] t)) w.heap.size t size (some ⟨w.heap.size,0,none⟩) 0 0 []:=
 ⟨by simp,.inr ⟨w.heap.size,0,#[],rfl,Am8 _,heap_alloc_new w _,Am8 _,by omega,by simp,by simp⟩⟩
def Aw (e:TypeId) (size n:Nat) (xs:List Value) (w:World) (r:Ending) (w':World):Prop:=∃A' c',r=.returned (.slice A' n c')∧Own w' w.heap.size e size A' n c' xs∧Fr Non w w'
theorem Pa (B n c:Nat) (A:Option Addr) (xs:List Value) (w:World) (hr:Rd w B 3 A n xs) (h1:∀u∈xs,u.oneCell'=true) (hn:n≤1000000):
  Calls Tryz.prog 38 #[.slice A n c] w (Aw 36 3 n xs w):=by
 have heq:=fun w'=>E2 (P:=Tryz.prog) Tryz.underlying25 A n c w'
 cases A with
 |none=>
  replace heq:∀w',(binOp .eql 25 (.slice none n c) (.slice none 0 0)).run Tryz.prog w'=.ok (.bool true) w':=heq
  have h0:n=0:=by
   rcases hr.2 with h|⟨_,_,h,_⟩
   · exact h
   · cases h
  have hx:xs=[]:=An0 (by rw [hr.1,h0,Am9]);subst h0;subst hx;have fin:Aw 36 3 0 [] w (.returned (.slice none 0 0)) w:=⟨none,0,rfl,Own.nil _ _ _ _,Fr.refl _ _⟩;generalize Aw 36 3 0 [] w=POST at*;replace fin:=Lib.hid fin;go_enter Tryz.func38,Tryz.ntmps38;go_wp2_with (fail);exact fin.out
 |some ad=>
  replace heq:∀w',(binOp .eql 25 (.slice (some ad) n c) (.slice none 0 0)).run Tryz.prog w'=.ok (.bool false) w':=heq;have hem:=Own.empty w 36 3;have hr1:=hr.fr ((Fr.refl Non w).alloc (.cells #[] 36)) zr
  have fin:∀A' c' w',Own w' w.heap.size 36 3 A' (0+n) c' ([]++xs)→Fr (fun k=>Ac (some (⟨w.heap.size,0,none⟩:Addr))=some k) (w.alloc (.cells #[] 36)) w'→Aw 36 3 n xs w (.returned (.slice A' n c')) w':=by
   intro A' c' w' h2 h3;rw [Am7,An1] at h2;refine ⟨A',c',rfl,h2,((Fr.refl Non w).alloc (.cells #[] 36)).trans h3 (fun k hk e=> ?_)⟩;have e':w.heap.size=k:=Option.some.inj e;omega
  replace fin:=Lib.hid fin;generalize Aw 36 3 n xs w=POST at*;go_enter Tryz.func38,Tryz.ntmps38;go_upto_region 3 with (fail)
  go_wp2_with (at_builtin;go_loud (refine Az (base:=w.heap.size) (.tmp 5) (.tmp 6) 25 rfl rfl rfl rfl Cw hem hr1 h1 (by omega) (by omega) (by rw [Am6];omega) ?_);intro A1 c1 w2 own1 fr1 hat1;have hdone:=Lib.hid (fin.out _ _ _ own1 fr1);clear own1 fr1 hat1 fin);exact hdone.out
theorem Pb (B n c:Nat) (A:Option Addr) (xs:List Value) (w:World) (hr:Rd w B 1 A n xs) (h1:∀u∈xs,u.oneCell'=true) (hn:n≤1000000):
  Calls Tryz.prog 76 #[.slice A n c] w (Aw 5 1 n xs w):=by
 have heq:=fun w'=>E2 (P:=Tryz.prog) Tryz.underlying37 A n c w'
 cases A with
 |none=>
  replace heq:∀w',(binOp .eql 37 (.slice none n c) (.slice none 0 0)).run Tryz.prog w'=.ok (.bool true) w':=heq
  have h0:n=0:=by
   rcases hr.2 with h|⟨_,_,h,_⟩
   · exact h
   · cases h
  have hx:xs=[]:=An0 (by rw [hr.1,h0,Am9]);subst h0;subst hx;have fin:Aw 5 1 0 [] w (.returned (.slice none 0 0)) w:=⟨none,0,rfl,Own.nil _ _ _ _,Fr.refl _ _⟩;generalize Aw 5 1 0 [] w=POST at*;replace fin:=Lib.hid fin;go_enter Tryz.func76,Tryz.ntmps76;go_wp2_with (fail);exact fin.out
 |some ad=>
  replace heq:∀w',(binOp .eql 37 (.slice (some ad) n c) (.slice none 0 0)).run Tryz.prog w'=.ok (.bool false) w':=heq;have hem:=Own.empty w 5 1;have hr1:=hr.fr ((Fr.refl Non w).alloc (.cells #[] 5)) zr
  have fin:∀A' c' w',Own w' w.heap.size 5 1 A' (0+n) c' ([]++xs)→Fr (fun k=>Ac (some (⟨w.heap.size,0,none⟩:Addr))=some k) (w.alloc (.cells #[] 5)) w'→Aw 5 1 n xs w (.returned (.slice A' n c')) w':=by
   intro A' c' w' h2 h3;rw [Am7,An1] at h2;refine ⟨A',c',rfl,h2,((Fr.refl Non w).alloc (.cells #[] 5)).trans h3 (fun k hk e=> ?_)⟩;have e':w.heap.size=k:=Option.some.inj e;omega
  replace fin:=Lib.hid fin;generalize Aw 5 1 n xs w=POST at*;go_enter Tryz.func76,Tryz.ntmps76;go_upto_region 3 with (fail)
  go_wp2_with (at_builtin;go_loud (refine Az (base:=w.heap.size) (.tmp 5) (.tmp 6) 37 rfl rfl rfl rfl slB hem hr1 h1 (by omega) (by omega) (by rw [Am6];omega) ?_);intro A1 c1 w2 own1 fr1 hat1;have hdone:=Lib.hid (fin.out _ _ _ own1 fr1);clear own1 fr1 hat1 fin);exact hdone.out
theorem Wr (B n c:Nat) (A:Option Addr) (xs:List Value) (w:World) (hr:Rd w B 1 A n xs) (h1:∀u∈xs,u.oneCell'=true) (hn:n≤1000000):
  Calls Tryz.prog 77 #[.slice A n c] w (Aw 34 1 n xs w):=by
 have heq:=fun w'=>E2 (P:=Tryz.prog) Tryz.underlying38 A n c w'
 cases A with
 |none=>
  replace heq:∀w',(binOp .eql 38 (.slice none n c) (.slice none 0 0)).run Tryz.prog w'=.ok (.bool true) w':=heq
  have h0:n=0:=by
   rcases hr.2 with h|⟨_,_,h,_⟩
   · exact h
   · cases h
  have hx:xs=[]:=An0 (by rw [hr.1,h0,Am9]);subst h0;subst hx;have fin:Aw 34 1 0 [] w (.returned (.slice none 0 0)) w:=⟨none,0,rfl,Own.nil _ _ _ _,Fr.refl _ _⟩;generalize Aw 34 1 0 [] w=POST at*;replace fin:=Lib.hid fin;go_enter Tryz.func77,Tryz.ntmps77;go_wp2_with (fail);exact fin.out
 |some ad=>
  replace heq:∀w',(binOp .eql 38 (.slice (some ad) n c) (.slice none 0 0)).run Tryz.prog w'=.ok (.bool false) w':=heq;have hem:=Own.empty w 34 1;have hr1:=hr.fr ((Fr.refl Non w).alloc (.cells #[] 34)) zr
  have fin:∀A' c' w',Own w' w.heap.size 34 1 A' (0+n) c' ([]++xs)→Fr (fun k=>Ac (some (⟨w.heap.size,0,none⟩:Addr))=some k) (w.alloc (.cells #[] 34)) w'→Aw 34 1 n xs w (.returned (.slice A' n c')) w':=by
   intro A' c' w' h2 h3;rw [Am7,An1] at h2;refine ⟨A',c',rfl,h2,((Fr.refl Non w).alloc (.cells #[] 34)).trans h3 (fun k hk e=> ?_)⟩;have e':w.heap.size=k:=Option.some.inj e;omega
  replace fin:=Lib.hid fin;generalize Aw 34 1 n xs w=POST at*;go_enter Tryz.func77,Tryz.ntmps77;go_upto_region 3 with (fail)
  go_wp2_with (at_builtin;go_loud (refine Az (base:=w.heap.size) (.tmp 5) (.tmp 6) 38 rfl rfl rfl rfl Mt hem hr1 h1 (by omega) (by omega) (by rw [Am6];omega) ?_);intro A1 c1 w2 own1 fr1 hat1;have hdone:=Lib.hid (fin.out _ _ _ own1 fr1);clear own1 fr1 hat1 fin);exact hdone.out
theorem Ws (B n c:Nat) (A:Option Addr) (xs:List Value) (w:World) (hr:Rd w B 1 A n xs) (h1:∀u∈xs,u.oneCell'=true) (hn:n≤1000000):
  Calls Tryz.prog 78 #[.slice A n c] w (Aw 3 1 n xs w):=by
 have heq:=fun w'=>E2 (P:=Tryz.prog) Tryz.underlying22 A n c w'
 cases A with
 |none=>
  replace heq:∀w',(binOp .eql 22 (.slice none n c) (.slice none 0 0)).run Tryz.prog w'=.ok (.bool true) w':=heq
  have h0:n=0:=by
   rcases hr.2 with h|⟨_,_,h,_⟩
   · exact h
   · cases h
  have hx:xs=[]:=An0 (by rw [hr.1,h0,Am9]);subst h0;subst hx;have fin:Aw 3 1 0 [] w (.returned (.slice none 0 0)) w:=⟨none,0,rfl,Own.nil _ _ _ _,Fr.refl _ _⟩;generalize Aw 3 1 0 [] w=POST at*;replace fin:=Lib.hid fin;go_enter Tryz.func78,Tryz.ntmps78;go_wp2_with (fail);exact fin.out
 |some ad=>
  replace heq:∀w',(binOp .eql 22 (.slice (some ad) n c) (.slice none 0 0)).run Tryz.prog w'=.ok (.bool false) w':=heq;have hem:=Own.empty w 3 1;have hr1:=hr.fr ((Fr.refl Non w).alloc (.cells #[] 3)) zr
  have fin:∀A' c' w',Own w' w.heap.size 3 1 A' (0+n) c' ([]++xs)→Fr (fun k=>Ac (some (⟨w.heap.size,0,none⟩:Addr))=some k) (w.alloc (.cells #[] 3)) w'→Aw 3 1 n xs w (.returned (.slice A' n c')) w':=by
   intro A' c' w' h2 h3;rw [Am7,An1] at h2;refine ⟨A',c',rfl,h2,((Fr.refl Non w).alloc (.cells #[] 3)).trans h3 (fun k hk e=> ?_)⟩;have e':w.heap.size=k:=Option.some.inj e;omega
  replace fin:=Lib.hid fin;generalize Aw 3 1 n xs w=POST at*;go_enter Tryz.func78,Tryz.ntmps78;go_upto_region 3 with (fail)
  go_wp2_with (at_builtin;go_loud (refine Az (base:=w.heap.size) (.tmp 5) (.tmp 6) 22 rfl rfl rfl rfl Ju hem hr1 h1 (by omega) (by omega) (by rw [Am6];omega) ?_);intro A1 c1 w2 own1 fr1 hat1;have hdone:=Lib.hid (fin.out _ _ _ own1 fr1);clear own1 fr1 hat1 fin);exact hdone.out
theorem Pc (B n c:Nat) (A:Option Addr) (xs:List Value) (w:World) (hr:Rd w B 4 A n xs) (h1:∀u∈xs,u.oneCell'=true) (hn:n≤1000000):
  Calls Tryz.prog 79 #[.slice A n c] w (Aw 129 4 n xs w):=by
 have heq:=fun w'=>E2 (P:=Tryz.prog) Tryz.underlying39 A n c w'
 cases A with
 |none=>
  replace heq:∀w',(binOp .eql 39 (.slice none n c) (.slice none 0 0)).run Tryz.prog w'=.ok (.bool true) w':=heq
  have h0:n=0:=by
   rcases hr.2 with h|⟨_,_,h,_⟩
   · exact h
   · cases h
  have hx:xs=[]:=An0 (by rw [hr.1,h0,Am9]);subst h0;subst hx;have fin:Aw 129 4 0 [] w (.returned (.slice none 0 0)) w:=⟨none,0,rfl,Own.nil _ _ _ _,Fr.refl _ _⟩;generalize Aw 129 4 0 [] w=POST at*;replace fin:=Lib.hid fin;go_enter Tryz.func79,Tryz.ntmps79;go_wp2_with (fail);exact fin.out
 |some ad=>
  replace heq:∀w',(binOp .eql 39 (.slice (some ad) n c) (.slice none 0 0)).run Tryz.prog w'=.ok (.bool false) w':=heq;have hem:=Own.empty w 129 4;have hr1:=hr.fr ((Fr.refl Non w).alloc (.cells #[] 129)) zr
  have fin:∀A' c' w',Own w' w.heap.size 129 4 A' (0+n) c' ([]++xs)→Fr (fun k=>Ac (some (⟨w.heap.size,0,none⟩:Addr))=some k) (w.alloc (.cells #[] 129)) w'→Aw 129 4 n xs w (.returned (.slice A' n c')) w':=by
   intro A' c' w' h2 h3;rw [Am7,An1] at h2;refine ⟨A',c',rfl,h2,((Fr.refl Non w).alloc (.cells #[] 129)).trans h3 (fun k hk e=> ?_)⟩;have e':w.heap.size=k:=Option.some.inj e;omega
  replace fin:=Lib.hid fin;generalize Aw 129 4 n xs w=POST at*;go_enter Tryz.func79,Tryz.ntmps79;go_upto_region 3 with (fail)
  go_wp2_with (at_builtin;go_loud (refine Az (base:=w.heap.size) (.tmp 5) (.tmp 6) 39 rfl rfl rfl rfl slBx hem hr1 h1 (by omega) (by omega) (by rw [Am6];omega) ?_);intro A1 c1 w2 own1 fr1 hat1;have hdone:=Lib.hid (fin.out _ _ _ own1 fr1);clear own1 fr1 hat1 fin);exact hdone.out
theorem Wt (B n c:Nat) (A:Option Addr) (xs:List Value) (w:World) (hr:Rd w B 2 A n xs) (h1:∀u∈xs,u.oneCell'=true) (hn:n≤1000000):
  Calls Tryz.prog 80 #[.slice A n c] w (Aw 71 2 n xs w):=by
 have heq:=fun w'=>E2 (P:=Tryz.prog) Tryz.underlying33 A n c w'
 cases A with
 |none=>
  replace heq:∀w',(binOp .eql 33 (.slice none n c) (.slice none 0 0)).run Tryz.prog w'=.ok (.bool true) w':=heq
  have h0:n=0:=by
   rcases hr.2 with h|⟨_,_,h,_⟩
   · exact h
   · cases h
  have hx:xs=[]:=An0 (by rw [hr.1,h0,Am9]);subst h0;subst hx;have fin:Aw 71 2 0 [] w (.returned (.slice none 0 0)) w:=⟨none,0,rfl,Own.nil _ _ _ _,Fr.refl _ _⟩;generalize Aw 71 2 0 [] w=POST at*;replace fin:=Lib.hid fin;go_enter Tryz.func80,Tryz.ntmps80;go_wp2_with (fail);exact fin.out
 |some ad=>
  replace heq:∀w',(binOp .eql 33 (.slice (some ad) n c) (.slice none 0 0)).run Tryz.prog w'=.ok (.bool false) w':=heq;have hem:=Own.empty w 71 2;have hr1:=hr.fr ((Fr.refl Non w).alloc (.cells #[] 71)) zr
  have fin:∀A' c' w',Own w' w.heap.size 71 2 A' (0+n) c' ([]++xs)→Fr (fun k=>Ac (some (⟨w.heap.size,0,none⟩:Addr))=some k) (w.alloc (.cells #[] 71)) w'→Aw 71 2 n xs w (.returned (.slice A' n c')) w':=by
   intro A' c' w' h2 h3;rw [Am7,An1] at h2;refine ⟨A',c',rfl,h2,((Fr.refl Non w).alloc (.cells #[] 71)).trans h3 (fun k hk e=> ?_)⟩;have e':w.heap.size=k:=Option.some.inj e;omega
  replace fin:=Lib.hid fin;generalize Aw 71 2 n xs w=POST at*;go_enter Tryz.func80,Tryz.ntmps80;go_upto_region 3 with (fail)
  go_wp2_with (at_builtin;go_loud (refine Az (base:=w.heap.size) (.tmp 5) (.tmp 6) 33 rfl rfl rfl rfl slNd hem hr1 h1 (by omega) (by omega) (by rw [Am6];omega) ?_);intro A1 c1 w2 own1 fr1 hat1;have hdone:=Lib.hid (fin.out _ _ _ own1 fr1);clear own1 fr1 hat1 fin);exact hdone.out
theorem Wu (B n c:Nat) (A:Option Addr) (xs:List Value) (w:World) (hr:Rd w B 4 A n xs) (h1:∀u∈xs,u.oneCell'=true) (hn:n≤1000000):
  Calls Tryz.prog 81 #[.slice A n c] w (Aw 133 4 n xs w):=by
 have heq:=fun w'=>E2 (P:=Tryz.prog) Tryz.underlying40 A n c w'
 cases A with
 |none=>
  replace heq:∀w',(binOp .eql 40 (.slice none n c) (.slice none 0 0)).run Tryz.prog w'=.ok (.bool true) w':=heq
  have h0:n=0:=by
   rcases hr.2 with h|⟨_,_,h,_⟩
   · exact h
   · cases h
  have hx:xs=[]:=An0 (by rw [hr.1,h0,Am9]);subst h0;subst hx;have fin:Aw 133 4 0 [] w (.returned (.slice none 0 0)) w:=⟨none,0,rfl,Own.nil _ _ _ _,Fr.refl _ _⟩;generalize Aw 133 4 0 [] w=POST at*;replace fin:=Lib.hid fin;go_enter Tryz.func81,Tryz.ntmps81;go_wp2_with (fail);exact fin.out
 |some ad=>
  replace heq:∀w',(binOp .eql 40 (.slice (some ad) n c) (.slice none 0 0)).run Tryz.prog w'=.ok (.bool false) w':=heq;have hem:=Own.empty w 133 4;have hr1:=hr.fr ((Fr.refl Non w).alloc (.cells #[] 133)) zr
  have fin:∀A' c' w',Own w' w.heap.size 133 4 A' (0+n) c' ([]++xs)→Fr (fun k=>Ac (some (⟨w.heap.size,0,none⟩:Addr))=some k) (w.alloc (.cells #[] 133)) w'→Aw 133 4 n xs w (.returned (.slice A' n c')) w':=by
   intro A' c' w' h2 h3;rw [Am7,An1] at h2;refine ⟨A',c',rfl,h2,((Fr.refl Non w).alloc (.cells #[] 133)).trans h3 (fun k hk e=> ?_)⟩;have e':w.heap.size=k:=Option.some.inj e;omega
  replace fin:=Lib.hid fin;generalize Aw 133 4 n xs w=POST at*;go_enter Tryz.func81,Tryz.ntmps81;go_upto_region 3 with (fail)
  go_wp2_with (at_builtin;go_loud (refine Az (base:=w.heap.size) (.tmp 5) (.tmp 6) 40 rfl rfl rfl rfl slSl hem hr1 h1 (by omega) (by omega) (by rw [Am6];omega) ?_);intro A1 c1 w2 own1 fr1 hat1;have hdone:=Lib.hid (fin.out _ _ _ own1 fr1);clear own1 fr1 hat1 fin);exact hdone.out
theorem Ww (B n c:Nat) (A:Option Addr) (xs:List Value) (w:World) (hr:Rd w B 5 A n xs) (h1:∀u∈xs,u.oneCell'=true) (hn:n≤1000000):
  Calls Tryz.prog 58 #[.slice A n c] w (Aw 95 5 n xs w):=by
 have heq:=fun w'=>E2 (P:=Tryz.prog) Tryz.underlying23 A n c w'
 cases A with
 |none=>
  replace heq:∀w',(binOp .eql 23 (.slice none n c) (.slice none 0 0)).run Tryz.prog w'=.ok (.bool true) w':=heq
  have h0:n=0:=by
   rcases hr.2 with h|⟨_,_,h,_⟩
   · exact h
   · cases h
  have hx:xs=[]:=An0 (by rw [hr.1,h0,Am9]);subst h0;subst hx;have fin:Aw 95 5 0 [] w (.returned (.slice none 0 0)) w:=⟨none,0,rfl,Own.nil _ _ _ _,Fr.refl _ _⟩;generalize Aw 95 5 0 [] w=POST at*;replace fin:=Lib.hid fin;go_enter Tryz.func58,Tryz.ntmps58;go_wp2_with (fail);exact fin.out
 |some ad=>
  replace heq:∀w',(binOp .eql 23 (.slice (some ad) n c) (.slice none 0 0)).run Tryz.prog w'=.ok (.bool false) w':=heq;have hem:=Own.empty w 95 5;have hr1:=hr.fr ((Fr.refl Non w).alloc (.cells #[] 95)) zr
  have fin:∀A' c' w',Own w' w.heap.size 95 5 A' (0+n) c' ([]++xs)→Fr (fun k=>Ac (some (⟨w.heap.size,0,none⟩:Addr))=some k) (w.alloc (.cells #[] 95)) w'→Aw 95 5 n xs w (.returned (.slice A' n c')) w':=by
   intro A' c' w' h2 h3;rw [Am7,An1] at h2;refine ⟨A',c',rfl,h2,((Fr.refl Non w).alloc (.cells #[] 95)).trans h3 (fun k hk e=> ?_)⟩;have e':w.heap.size=k:=Option.some.inj e;omega
  replace fin:=Lib.hid fin;generalize Aw 95 5 n xs w=POST at*;go_enter Tryz.func58,Tryz.ntmps58;go_upto_region 3 with (fail)
  go_wp2_with (at_builtin;go_loud (refine Az (base:=w.heap.size) (.tmp 5) (.tmp 6) 23 rfl rfl rfl rfl slCd hem hr1 h1 (by omega) (by omega) (by rw [Am6];omega) ?_);intro A1 c1 w2 own1 fr1 hat1;have hdone:=Lib.hid (fin.out _ _ _ own1 fr1);clear own1 fr1 hat1 fin);exact hdone.out
end Oq
end
section
open Go.RowKit
section
variable {P : Program} {ops : Array Oper} {Q : Exit → Act → World → Prop} {md : Region.Mode} {S : World → Prop} {g : Nat}
def Cz (P:Program) (md:Region.Mode) (ops:Array Oper) (Q:Exit→Act→World→Prop) (S:World→Prop) (g:Nat) (fuel:Nat) (listed:Array Bool) (a:Act) (w:World):Prop:=
 match fuel with
 |0=>Region.ready md ops listed=[]∧Q .normal a w
 |k+1=>(Region.ready md ops listed=[]→Q .normal a w)∧
   ∀i∈Region.ready md ops listed,wpOp P ops Q i (fun a' w'=>((listed.setIfInBounds i true).getD g true=false→S w')∧Cz P md ops Q S g k (listed.setIfInBounds i true) a' w') a w
theorem Wx:∀(fuel:Nat) (listed:Array Bool) (a:Act) (w:World),Cz P md ops Q S g fuel listed a w→wpAny P md ops Q fuel listed a w:=by
 intro fuel
 induction fuel with
 |zero=>intro _ _ _ h;exact h
 |succ k ih=>intro l a w h;exact ⟨h.1,fun i hi=>wpOp_mono (fun a' w' h'=>ih _ a' w' h'.2) (h.2 i hi)⟩
theorem Wy:∀(fuel:Nat) (listed:Array Bool) (a:Act) (w:World),listed.getD g true=true→wpAny P md ops Q fuel listed a w→Cz P md ops Q S g fuel listed a w:=by
 intro fuel
 induction fuel with
 |zero=>intro _ _ _ _ h;exact h
 |succ k ih=>
  intro l a w hg h;refine ⟨h.1,fun i hi=>wpOp_mono (fun a' w' h'=> ?_) (h.2 i hi)⟩
  have hg':(l.setIfInBounds i true).getD g true=true:=by
   by_cases hgi:i=g
   ·
    subst hgi
    by_cases hb:i<l.size
    · simp [Ao1,hb]
    · simp [Ao1,hb]
   ·
    rw [getD_set_ne true hgi];exact hg
  exact ⟨fun h0=>(by rw [hg'] at h0;cases h0),ih _ a' w' hg' h'⟩
theorem Wz {i:Nat} {oi og:Oper} {v:Value} (hi:ops[i]? =some oi) (hog:ops[g]? =some og) (hgi:g≠i) (hwait:∃e∈og.after,Region.binds md e=true∧e.on=i)
  (hsel:∀(j:Nat) (o:Oper) cs b,ops[j]? =some o→o.op≠ .select cs b) (hQ:∀c a w,Q (.panic c) (a.put oi.dst v) w→Q (.panic c) a w):
  ∀(fuel:Nat) (listed:Array Bool) (a:Act) (w:World),listed.getD g true=false→
   (∀j oj,ops[j]? =some oj→j≠i→listed.getD j true=false→(∀e∈oj.after,Region.binds md e=true→e.on≠i)→oi.apart ops oj=true)→
   i∈Region.ready md ops listed→YieldsIf P ops S oi v a→S w→
   Cz P md ops Q S g fuel (listed.setIfInBounds i true) (a.put oi.dst v) w→Cz P md ops Q S g (fuel+1) listed a w:=by
 intro fuel
 induction fuel with
 |zero=>
  intro listed a w hg _ hr hy hS H;refine ⟨fun h=>(by rw [h] at hr;cases hr),fun j hj=> ?_⟩
  by_cases hji:j=i
  · subst hji;exact hy.wpOp hi hS ⟨fun _=>hS,H⟩
  ·
   have h0:=ready_mono hj hji;rw [H.1] at h0
   cases h0
 |succ k ih=>
  intro listed a w hg hfree hr hy hS H;refine ⟨fun h=>(by rw [h] at hr;cases hr),fun j hj=> ?_⟩
  by_cases hji:j=i
  · subst hji;exact hy.wpOp hi hS ⟨fun _=>hS,H⟩
  ·
   have hpend:=(mem_ready.1 hr).1;obtain ⟨hjun,oj,hoj,hall⟩:=mem_ready.1 hj
   have hbl:∀e∈oj.after,Region.binds md e=true→e.on≠i:=fun e he hb heq=>by
    have h1:=hall e he hb;rw [heq] at h1
    rcases Nat.lt_or_ge i listed.size with h'|h'
    · simp [h'] at hpend h1;rw [hpend] at h1;cases h1
    · simp [Array.getElem?_eq_none h'] at h1
   have hjg:j≠g:=by
    rintro rfl;obtain ⟨e,he,hb,heq⟩:=hwait;rw [hog] at hoj
    cases hoj
    exact hbl e he hb heq
   have h1:=H.2 j (ready_mono hj hji);have h2:=wpOp_putIf hoj (hfree j oj hoj hji hjun hbl) (fun cs b=>hsel i oi cs b hi) (fun cs b=>hsel j oj cs b hoj) hQ hy h1;have hg':(listed.setIfInBounds j true).getD g true=false:=by rw [getD_set_ne true hjg];exact hg
   have hgij:((listed.setIfInBounds i true).setIfInBounds j true).getD g true=false:=by rw [getD_set_ne true hjg,getD_set_ne true (Ne.symm hgi)];exact hg
   have hfree':∀m om,ops[m]? =some om→m≠i→(listed.setIfInBounds j true).getD m true=false→
     (∀e∈om.after,Region.binds md e=true→e.on≠i)→oi.apart ops om=true:=fun m om hm hmi hun hno=>by
    refine hfree m om hm hmi ?_ hno
    by_cases hjm:j=m
    · subst hjm;exact hjun
    · rw [getD_set_ne true hjm] at hun;exact hun
   refine wpOp_mono (fun a' w' h3=> ?_) h2;have hS':=h3.2.1 hgij;refine ⟨fun _=>hS',ih _ a' w' hg' hfree' (ready_mono hr (Ne.symm hji)) h3.1 hS' ?_⟩;rw [Array.setIfInBounds_comm _ _ hji];exact h3.2.2
def Ie (md:Region.Mode) (ops:Array Oper) (g i:Nat):Bool:=match ops[g]? with|some og=>og.after.any (fun e=>Region.binds md e&&e.on==i)|none=>false
theorem W4 {i:Nat} (h:Ie md ops g i=true):∃og,ops[g]? =some og∧∃e∈og.after,Region.binds md e=true∧e.on=i:=by
 unfold Ie at h
 split at h
 ·
  rename_i og hog;obtain ⟨e,he,hb⟩:=Array.any_eq_true'.1 h;simp only [Ao5,beq_iff_eq] at hb;exact ⟨og,hog,e,he,hb.1,hb.2⟩
 · cases h
end
theorem Et {P:Program} {Q:Exit→Act→World→Prop} {md:Region.Mode} {S:World→Prop} {g:Nat} {l:List Oper} {i:Nat} {d:Tmp} {op:Op} {ty:TypeId} {pos:String} {after:Array Edge} {gd:Option (Nat × Bool)} {v:Value} {fuel:Nat} {listed:Array Bool} {tl:List Value} {ds:List Deferred} {w:World} (hi:l[i]? =some ⟨some d,op,ty,pos,after,gd⟩)
  (hgate:(listed.getD g true==false&&g !=i&&Ie md l.toArray g i)=true)
  (hs:Region.noSelect l.toArray=true) (hf:Region.free md l.toArray listed i=true) (hr:(Region.ready md l.toArray listed).contains i=true)
  (hQ:∀c a w,Q (.panic c) (a.put (some d) v) w→Q (.panic c) a w) (hy:YieldsIf P l.toArray S ⟨some d,op,ty,pos,after,gd⟩ v ⟨tl.toArray,ds⟩) (hS:S w)
  (h:Cz P md l.toArray Q S g fuel (listed.setIfInBounds i true) ⟨(tl.set d v).toArray,ds⟩ w):Cz P md l.toArray Q S g (fuel+1) listed ⟨tl.toArray,ds⟩ w:=by
 simp only [Ao5,beq_iff_eq,bne_iff_ne] at hgate;obtain ⟨og,hog,hwait⟩:=W4 hgate.2;have hi':l.toArray[i]? =some ⟨some d,op,ty,pos,after,gd⟩:=by rw [Ao6];exact hi
 exact Wz hi' hog hgate.1.2 hwait (Region.noSelect_spec hs) hQ fuel listed _ w hgate.1.1 (Region.free_spec hi' hf) (by simpa using hr) hy hS (by rw [Ab];exact h)
theorem Bc {P:Program} {Q:Exit→Act→World→Prop} {l:List Oper} {md:Region.Mode} {S:World→Prop} {g fuel:Nat} {listed:Array Bool} {a:Act} {w:World} (i:Nat) {d:Option Tmp} {op:Op} {ty:TypeId} {pos:String} {after:Array Edge} (hr:Region.ready md l.toArray listed=[i]) (ho:l[i]? =some ⟨d,op,ty,pos,after,none⟩)
  (h:∀K':Act→World→Prop,Shut (∀a w,S w→(S w→Cz P md l.toArray Q S g fuel (listed.setIfInBounds i true) a w)→K' a w)→Oper.wp P ⟨d,op,ty,pos,after,none⟩ a w K' Q):
  Cz P md l.toArray Q S g (fuel+1) listed a w:=by
 refine ⟨fun h0=>(by rw [hr] at h0;cases h0),fun j hj=> ?_⟩;rw [hr] at hj;obtain rfl:=List.mem_singleton.1 hj;refine wpOp_step (o:=⟨d,op,ty,pos,after,none⟩) (by rw [Ao6];exact ho) (fun K' hK=> ?_);rw [if_pos (show Region.wanted _ _=true from rfl)];exact h K' (fun a w hS hW=>hK a w ⟨fun _=>hS,hW hS⟩)
theorem Co {P:Program} {Q:Exit→Act→World→Prop} {l:List Oper} {md:Region.Mode} {S:World→Prop} {g fuel:Nat} {listed:Array Bool} {a:Act} {w:World} (hr:Region.ready md l.toArray listed=[g])
  (h:wpAnyH P md l.toArray Q (fun _=>True) (fuel+1) listed a w):Cz P md l.toArray Q S g (fuel+1) listed a w:=by
 refine ⟨h.1,fun j hj=>wpOp_mono (fun a' w' h'=> ?_) (h.2 j hj)⟩;rw [hr] at hj;obtain rfl:=List.mem_singleton.1 hj
 have hg':(listed.setIfInBounds j true).getD j true=true:=by
  by_cases hb:j<listed.size
  · simp [Ao1,hb]
  · simp [Ao1,hb]
 exact ⟨fun h0=>(by rw [hg'] at h0;cases h0),Wy _ _ _ _ hg' (wpAny_of_held _ _ _ _ h'.2)⟩
theorem Cq {P:Program} {Q:Exit→Act→World→Prop} {S:World→Prop} (g:Nat) {id:Nat} {l:List Oper} {a:Act} {w:World} (hm:P.follows .mixedOrders=true)
  (h:Cz P .any l.toArray Q S g l.toArray.size (Array.replicate l.toArray.size false) a w.drew):(Code.region id l.toArray true).wp P Q a w:=
 wp_region_any hm (Wx _ _ _ _ h)
theorem tkG (i:Nat) {P:Program} {Q:Exit→Act→World→Prop} {md:Region.Mode} {S:World→Prop} {gt:Nat} {l:List Oper} {d:Tmp} {op:Op} {ty:TypeId} {pos:String} {after:Array Edge} {g:Option (Nat × Bool)} {v:Value} {fuel:Nat} {listed:Array Bool} {tl:List Value} {ds:List Deferred} {w:World} (hS:S w) (hi:l[i]? =some ⟨some d,op,ty,pos,after,g⟩:=by rfl)
  (hgate:(listed.getD gt true==false&&gt !=i&&Ie md l.toArray gt i)=true:=by kernel_rfl)
  (hs:Region.noSelect l.toArray=true:=by kernel_rfl) (hf:Region.free md l.toArray listed i=true:=by kernel_rfl) (hr:(Region.ready md l.toArray listed).contains i=true:=by kernel_rfl)
  (hQ:∀c a w,Q (.panic c) (a.put (some d) v) w→Q (.panic c) a w:=by exact fun _ _ _ h=>h) (hy:YieldsIf P l.toArray S ⟨some d,op,ty,pos,after,g⟩ v ⟨tl.toArray,ds⟩:=by (refine Or.inl ⟨by kernel_rfl,?_⟩;intro w' hSw;(try dsimp only at hSw);(try simp only [List.set]);go_simp;(try with_reducible rfl)))
  (h:Cz P md l.toArray Q S gt fuel (listed.setIfInBounds i true) ⟨(tl.set d v).toArray,ds⟩ w):
  Cz P md l.toArray Q S gt (fuel+1) listed ⟨tl.toArray,ds⟩ w:=Et hi hgate hs hf hr hQ hy hS h
theorem Own.setAt {w:World} {base n c size:Nat} {t:TypeId} {A:Option Addr} {xs:List Value} (h:Own w base t size A n c xs) {j:Nat} (hj:j<n*size) (u:Value):
  ∃g,A=some ⟨g,0,none⟩∧base≤g∧g<w.heap.size∧(∀v,xs[j]? =some v→w.cell? ⟨g,j,none⟩=some v)∧w.frozen? ⟨g,j,none⟩=false∧Own (w.setCell ⟨g,j,none⟩ u) base t size A n c (xs.set j u):=by
 rcases h.2 with ⟨_,h0⟩|⟨g,cap,cur,hv,hb,hg,h1,h2,h3,h4⟩
 ·
  subst h0;omega
 ·
  injection hv with hA hn hc
  have hblk:Blk w g t cur:=hg;have hset:=hblk.set j u;refine ⟨g,hA,hb,hblk.lt,?_,hblk.frozen j,?_⟩
  ·
   intro v hv';rw [hblk.cell j];rw [← h4,List.getElem?_take_of_lt hj] at hv';simpa using hv'
  ·
   refine ⟨by rw [List.length_set];exact h.1,.inr ⟨g,cap,cur.setIfInBounds j u,?_,hb,hset,h1,h2,by simpa using h3,?_⟩⟩
   · subst hA hc;rfl
   · rw [Array.toList_setIfInBounds,List.take_set,h4]
theorem Gv {α:Type} {f:α→List Value} {size:Nat} (hf:∀x,(f x).length=size) {j:Nat} (hj:j<size) (v:Value) (y:α):∀(l:List α) (k:Nat) (x:α),l[k]? =some x→(f x).set j v=f y→
  (l.flatMap f).set (k*size+j) v=(l.set k y).flatMap f:=by
 intro l
 induction l with
 |nil=>intro k x hx _;simp at hx
 |cons a r ih=>
  intro k x hx hy
  cases k with
  |zero=>
   simp only [List.getElem?_cons_zero,Option.some.injEq] at hx;subst hx;rw [An6,List.set_cons_zero,An6,Am9,Am7,List.set_append_left _ _ (by rw [hf];exact hj),hy]
  |succ m=>
   rw [List.getElem?_cons_succ] at hx;rw [An6,List.set_cons_succ,An6,List.set_append_right _ _ (by rw [hf,An9];omega),hf,show (m+1)*size+j-size=m*size+j by rw [An9];omega,ih m x hx hy]
theorem Pd {α β:Type} (nd:α→β) (l:List α) (k:Nat) {y y':α} (h:l[k]? =some y) (e:nd y'=nd y):(l.set k y').map nd=l.map nd:=by
 rw [List.map_set,e];apply List.ext_getElem?;intro i;rw [List.getElem?_set]
 by_cases hi:k=i
 ·
  subst hi;rw [Ao3,h];have hk:k<(l.map nd).length:=by rw [List.length_map];exact (List.getElem?_eq_some_iff.1 h).1
  simp [(List.getElem?_eq_some_iff.1 h).1]
 · rw [if_neg hi]
theorem Pe {α:Type} (l m:List α) (k:Nat) (y':α) (h:l.drop k=m.drop k):(l.set k y').drop (k+1)=m.drop (k+1):=by
 rw [List.drop_set_of_lt (by omega)];have h2:=congrArg (List.drop 1) h;rwa [List.drop_drop,List.drop_drop] at h2
theorem Kl {α:Type} (l:List α) (k:Nat) {y:α} (y':α) (h:l[k]? =some y):(l.set k y').take (k+1)=l.take k++[y']:=by
 have hk:=(List.getElem?_eq_some_iff.1 h).1;rw [Ao4 (by rw [List.length_set];exact hk),List.take_set_of_le (by omega)];simp
theorem Km {α:Type} {l m:List α} {k:Nat} (h:l.drop k=m.drop k):l[k]? =m[k]? :=by
 have h2:=congrArg (fun t=>t[0]?) h;simpa [List.getElem?_drop] using h2
end
end Go.Proofs.YthpkjfliibdnjaaGreatDoor
