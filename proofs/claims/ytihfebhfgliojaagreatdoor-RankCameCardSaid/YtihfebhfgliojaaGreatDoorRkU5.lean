/-
  Contracts of the functions that the claim's statement reaches, walked one by one (part 5).
  Conditions: as each theorem says.
-/
import Derived.Test.YtihfebhfgliojaaGreatDoorRkU4
set_option maxRecDepth 100000
set_option maxHeartbeats 16000000
open Bool renaming and_eq_true->Ax3,false_and->Ay0,true_and->Ay1,or_eq_true->Ay3,eq_iff_iff->Az2
open Int renaming le_trans->Ax9,le_max_left->Az9
open List renaming getElem?_append_left->Ax5,getElem?_map->Ax8,mem_of_getElem?->Ay2,range->Az4,any_eq_false->Az5,mem_cons_self->Az6,mem_cons_of_mem->Az7,any_eq_true->Az8,map_congr_left->A00,take_succ_eq_append_getElem->A01,foldl_append->A02,getElem?_eq_none->A03,findIdx?_append->A05,getElem?_of_mem->A06,contains_iff_mem->A07
open Nat renaming le_refl->Ax4,mod_lt->Ax6,mul_mod->Ax7,lt_or_ge->Ay4,pow_mul->Ay5,mod_mod->Ay6,add_mod->Ay7,le_trans->Ay9,strongRecOn->Az0,mul_comm->Az1,pow_mod->Az3,lt_of_lt_of_le->A04
open Go.World renaming size_alloc->Ay8
open Go.Proofs.Tryz
open Go.Proofs.Tryz renaming prog->zp
open Go.Lib renaming hid->lh
open List renaming set->zl
open Go.Ending renaming returned->ze
namespace Go.Proofs.YtihfebhfgliojaaGreatDoor
open Go.RowKit
attribute [local go_sem ↓] Go.wp_at_zero Go.wp_at_succ
namespace Dv
def Top (u t q s:Nat):Prop:=q*4294967295+s=u/\s<4294967296/\(u*4294967296+t)/18446744073709551600<=q
theorem over1 {u t q s:Nat} (h1:q*4294967295+s=u) (hq:4294967296*s+t<q*4294967280):u*4294967296+t<q*18446744073709551600:=by omega
theorem over2 {U q:Nat} (h:U<q*18446744073709551600):U/18446744073709551600<=q-1/\0<q:=by
 have h1:U/18446744073709551600<q:=Nat.div_lt_of_lt_mul (by rw [Az1];exact h);omega
theorem over {u t q s:Nat} (h:Top u t q s) (hq:4294967296*s+t<q*4294967280):(u*4294967296+t)/18446744073709551600<=q-1/\0<q:=over2 (over1 h.1 hq)
theorem step (k d u:Nat) (h:(d+1)*k+0=u):d*k+k=u:=by rw [<- h,Nat.succ_mul,Nat.add_zero]
theorem left {W V:Int} (hW:Hid (4294967296=W)) (hV:Hid (18446744073709551600=V)) {u t q z:Nat} (hq:(u*4294967296+t)/18446744073709551600=q) (hz:Hid (u*4294967296+t-q*18446744073709551600=z)):
  IntKind.u64.wrap (IntKind.u64.wrap (IntKind.u64.wrap ((u:Int)*W)+(t:Int))-IntKind.u64.wrap ((q:Int)*V))=(z:Int)/\z<18446744073709551600:=by
 rw [<- hz.out,<- hW.out,<- hV.out];simp only [IntKind.wrap_u64];omega
theorem rest {W1:Int} (hW1:Hid (4294967295=W1)) {u q1 r1:Nat} (_hu:u<18446744073709551616) (hq1:Hid (u/4294967295=q1)) (hr1:Hid (u-u/4294967295*4294967295=r1)):IntKind.u64.wrap ((u:Int)-IntKind.u64.wrap ((q1:Int)*W1))=(r1:Int):=by
 rw [<- hW1.out,IntKind.wrap_u64,IntKind.wrap_u64,<- hq1.out,<- hr1.out];omega
end Dv
namespace Sg
def lSigned:List UInt8:=[115,105,103,110,101,100]
def lSig:List UInt8:=[115,105,103]
def lNonce:List UInt8:=[110,111,110,99,101]
def m (bs:List UInt8):Nat:=Hs.ofBytes lSigned bs
def e (r pub:Nat) (bs:List UInt8):Nat:=Hs.of lSig [r,pub,m bs]
def pub (secret:Nat):Nat:=Fd.pow 37 secret
def once (secret:Nat) (bs:List UInt8):Nat:=Hs.secret lNonce [secret,m bs]
def r (secret:Nat) (bs:List UInt8):Nat:=Fd.pow 37 (once secret bs)
def x (secret:Nat) (bs:List UInt8):Nat:=e (r secret bs) (pub secret) bs*secret%2305843009213693950
def s (secret:Nat) (bs:List UInt8):Nat:=(once secret bs+x secret bs)%2305843009213693950
def within (n lo hi:Int):Bool:=decide (lo<=n)&&decide (n<=hi)
def check (pub:Nat) (bs:List UInt8) (R S:Nat):Bool:=
 within pub 1 2305843009213693950&&within R 1 2305843009213693950&&within S 0 2305843009213693949&&(Fd.pow 37 S==Fd.mul R (Fd.pow pub (e R pub bs)))
theorem m_lt (bs:List UInt8):m bs<2305843009213693951:=Hs.of_lt _ _
theorem e_lt (r pub:Nat) (bs:List UInt8):e r pub bs<2305843009213693951:=Hs.of_lt _ _
theorem once_lt (secret:Nat) (bs:List UInt8):once secret bs<2305843009213693950:=Hs.secret_lt _ _
theorem r_lt (secret:Nat) (bs:List UInt8):r secret bs<2305843009213693951:=Fd.pow_lt _ _
theorem x_lt (secret:Nat) (bs:List UInt8):x secret bs<2305843009213693950:=Ax6 _ (by omega)
theorem s_lt (secret:Nat) (bs:List UInt8):s secret bs<2305843009213693950:=Ax6 _ (by omega)
end Sg
section
open Go.RowKit Go.Shelf
def Xl (m e:Nat) (w:World) (r:Ending) (w':World):Prop:=r=.returned (.tuple #[.int .u64 (m:Int),.int .u64 (e:Int)])/\Fr Non w w'
theorem Xm (pub r B n c:Nat) (A:Option Addr) (bs:List UInt8) (w:World) (hp:pub<18446744073709551616) (hr0:r<18446744073709551616) (hlen:Hid (bs.length=n)) (hnc:n<=c) (hn:n<=1099511627775) (hB:B<=w.heap.size) (hr:Rd w B 1 A n (bs.map Bv)):
  Calls zp 184 #[.int .u64 (pub:Int),.int .u64 (r:Int),.slice A n c] w (Xl (Sg.m bs) (Sg.e r pub bs) w):=by
 have he:Hid (Sg.e r pub bs=Hs.of Sg.lSig [r,pub,Sg.m bs]):=rfl;have hm:=Sg.m_lt bs;have hby:=lh (Qc Sg.lSigned B n c A bs w hlen hnc hn (by decide) hB hr);have hmm:Hid (Hs.ofBytes Sg.lSigned bs=Sg.m bs):=rfl;rw [hmm.out] at hby;obtain ⟨v,hv⟩:=Aa (Sg.m bs);rw [hv.out] at he hm hby;rw [he.out,hv.out];go_enter func184,ntmps184;go_wp2_with fail;refine hby.out.mono ?_;rintro _ w1 ⟨rfl,hf1⟩;go_wp2_with fail;have hnew:=Blk.new w1 23 #[.int .u64 (r:Int),.int .u64 (pub:Int),.int .u64 (v:Int)]
 have hrd:Rd (w1.alloc (.cells #[.int .u64 (r:Int),.int .u64 (pub:Int),.int .u64 (v:Int)] 23)) (w1.heap.size+1) 1 (some ⟨w1.heap.size,0,none⟩) 3 ([r,pub,v].map Wv):=by
  refine ⟨rfl,.inr ⟨w1.heap.size,0,rfl,by omega,fun j u hu=> ?_⟩⟩;rw [hnew.cell]
  match j,hu with
  |0,hu=>simpa [Wv] using hu
  |1,hu=>simpa [Wv] using hu
  |2,hu=>simpa [Wv] using hu
 refine (Jh Sg.lSig [r,pub,v] _ 3 3 _ _ rfl (by decide) (by omega) hrd (by simp;omega)).mono ?_;rintro _ w2 ⟨rfl,hf2⟩;go_wp2
 go_ret2
 exact ⟨rfl,(hf1.alloc _).trans hf2 zr⟩
def Ev (R S:Nat):Value:=.agg #[.int .u64 (R:Int),.int .u64 (S:Int)]
def Qh (secret:Nat) (bs:List UInt8) (w:World) (r:Ending) (w':World):Prop:=r=.returned (Ev (Sg.r secret bs) (Sg.s secret bs))/\Fr Non w w'
theorem Mo (n lo hi:Int) (b:Bool) (w:World) (hb:Hid (Sg.within n lo hi=b)):
  Calls zp 183 #[.int .u64 n,.int .u64 lo,.int .u64 hi] w fun e w'=>e=.returned (.bool b)/\w=w':=by
 have hb':=hb.out;unfold Sg.within at hb'
 by_cases h1:lo<=n
 ·
  by_cases h2:n<=hi
  ·
   have hbb:Hid (true=b):=by rw [<- hb'];simp [h1,h2,Hid]
   clear hb' hb;go_enter func183,ntmps183;go_wp2
   go_ret
   exact ⟨congrArg (fun z=>ze (.bool z)) (Eq.trans (by first|simp|(simp;omega)) hbb.out),rfl⟩
  ·
   have hbb:Hid (false=b):=by rw [<- hb'];simp [h2,Hid]
   clear hb' hb;go_enter func183,ntmps183;go_wp2
   go_ret
   exact ⟨congrArg (fun z=>ze (.bool z)) (Eq.trans (by first|simp|(simp;omega)) hbb.out),rfl⟩
 ·
  have hbb:Hid (false=b):=by rw [<- hb'];simp [h1,Hid]
  clear hb' hb;go_enter func183,ntmps183;go_wp2
  go_ret
  exact ⟨congrArg (fun z=>ze (.bool z)) hbb.out,rfl⟩
theorem Mp (pub R S B n c:Nat) (A:Option Addr) (bs:List UInt8) (w:World) (hp:pub<18446744073709551616) (hR:R<18446744073709551616) (hS:S<18446744073709551616) (hlen:Hid (bs.length=n)) (hnc:n<=c) (hn:n<=1099511627775) (hB:B<=w.heap.size) (hr:Rd w B 1 A n (bs.map Bv)):
  Calls zp 128 #[.int .u64 (pub:Int),.slice A n c,Ev R S] w (Ag (Sg.check pub bs R S) w):=by
 unfold Ev;have aa:Hid (Sg.check pub bs R S=(Sg.within pub 1 2305843009213693950&&Sg.within R 1 2305843009213693950&&Sg.within S 0 2305843009213693949&&(Fd.pow 37 S==Fd.mul R (Fd.pow pub (Sg.e R pub bs))))):=rfl;have ae:=Blk.new w 25 #[.int .u64 (R:Int),.int .u64 (S:Int)];have ac:Fr Non w (w.alloc (.cells #[.int .u64 (R:Int),.int .u64 (S:Int)] 25)):=(Fr.refl _ _).alloc _;have c0:=ae.cell 0;have c1:=ae.cell 1;have ah:=hr.alloc (.cells #[.int .u64 (R:Int),.int .u64 (S:Int)] 25);obtain ⟨b1,h1⟩:=Aa (Sg.within pub 1 2305843009213693950);obtain ⟨b2,h2⟩:=Aa (Sg.within R 1 2305843009213693950);obtain ⟨b3,h3⟩:=Aa (Sg.within S 0 2305843009213693949);have k1:=lh (fun w=>Mo pub 1 2305843009213693950 b1 w h1);have k2:=lh (fun w=>Mo R 1 2305843009213693950 b2 w h2);have k3:=lh (fun w=>Mo S 0 2305843009213693949 b3 w h3);rw [h1.out,h2.out,h3.out] at aa
 cases b1 with
 |false=>
  rw [Ay0,Ay0,Ay0] at aa;rw [aa.out];go_enter func128,ntmps128;go_wp2_with (first|(go_at_call 183;refine (k1.out _).mono ?_;rintro _ _ ⟨rfl,rfl⟩))
  go_ret
  exact ⟨rfl,ac⟩
 |true=>
  cases b2 with
  |false=>
   rw [Ay1,Ay0,Ay0] at aa;rw [aa.out];go_enter func128,ntmps128;go_wp2_with (first|(go_at_call 183;(with_reducible refine (k1.out _).mono ?_);rintro _ _ ⟨rfl,rfl⟩)|(go_at_call 183;(with_reducible refine (k2.out _).mono ?_);rintro _ _ ⟨rfl,rfl⟩))
   go_ret
   exact ⟨rfl,ac⟩
  |true=>
   cases b3 with
   |false=>
    rw [Ay1,Ay1,Ay0] at aa;rw [aa.out];go_enter func128,ntmps128;go_wp2_with (first|(go_at_call 183;(with_reducible refine (k1.out _).mono ?_);rintro _ _ ⟨rfl,rfl⟩)|(go_at_call 183;(with_reducible refine (k2.out _).mono ?_);rintro _ _ ⟨rfl,rfl⟩)|(go_at_call 183;(with_reducible refine (k3.out _).mono ?_);rintro _ _ ⟨rfl,rfl⟩))
    go_ret
    exact ⟨rfl,ac⟩
   |true=>
    rw [Ay1,Ay1,Ay1] at aa;have le:=Sg.e_lt R pub bs;go_enter func128,ntmps128;go_wp2_with (first|(go_at_call 183;(with_reducible refine (k1.out _).mono ?_);rintro _ _ ⟨rfl,rfl⟩)|(go_at_call 183;(with_reducible refine (k2.out _).mono ?_);rintro _ _ ⟨rfl,rfl⟩)|(go_at_call 183;(with_reducible refine (k3.out _).mono ?_);rintro _ _ ⟨rfl,rfl⟩));refine (Xm pub R B n c A bs _ hp hR hlen hnc hn (by simp;omega) ah).mono ?_;rintro _ w1 ⟨rfl,ag⟩;have ai:=ae.fr ag zq;have ak:=ac.trans ag zr;obtain ⟨E,hE⟩:=Aa (Sg.e R pub bs);rw [hE.out] at le aa;rw [hE.out];generalize Sg.m bs=m0;have p1:=lh (fun w=>Mk 37 S w (by omega) hS);have p2:=lh (fun w=>Mk pub E w hp (by omega));have lq:=Fd.pow_lt pub E;obtain ⟨q,hq⟩:=Aa (Fd.pow pub E);obtain ⟨t,ht⟩:=Aa (Fd.pow 37 S);rw [hq.out] at p2 lq aa;rw [ht.out] at p1 aa;have p3:=lh (fun w=>Jc R q hR (by omega) w);obtain ⟨v,hv⟩:=Aa (Fd.mul R q);rw [hv.out] at p3 aa;have aj:Hid (∀w,Calls zp 185 #[.int .u64 37,.int .u64 (S:Int)] w (Cp t w)):=p1.out;have ab:Blk w1.drew w.heap.size 25 #[.int .u64 (R:Int),.int .u64 (S:Int)]:=ai;have d0:=ab.cell 0;have d1:=ab.cell 1;clear c0 c1;go_wp2_with fail
    go_region_held3 (fun w'=>w'.cell? ⟨w.heap.size,0,none⟩=some (.int .u64 (R:Int))/\w'.cell? ⟨w.heap.size,1,none⟩=some (.int .u64 (S:Int))) (go_keep) (first
     |(go_at_call 185;(with_reducible refine (aj.out _).mono ?_);rintro _ w2 ⟨rfl,ad⟩;obtain ⟨g0,g1⟩:=zk2 ad d0 d1)
     |(go_at_call 185;(with_reducible refine (p2.out _).mono ?_);rintro _ w3 ⟨rfl,af⟩;obtain ⟨ao,al⟩:=zk2 af g0 g1)
     |(go_at_call 186;(with_reducible refine (p3.out _).mono ?_);rintro _ _ ⟨rfl,rfl⟩))
    go_wp2
    go_ret
    refine ⟨congrArg (fun z=>ze (.bool z)) ?_,(((ak.drew.trans ad zr).trans af zr))⟩;rw [aa.out,Az2];simp only [beq_iff_eq];exact Int.ofNat_inj
end
namespace Sg
theorem Xn {M:Nat} (hM:M=2305843009213693950):37^M%2305843009213693951=1:=by
 have h:=Fd.pow_eq 37 M (by omega);rw [<- h,hM]
 decide+kernel
theorem pow_one {M:Nat} (hM:M=2305843009213693950) (k:Nat):(37^M)^k%2305843009213693951=1:=by
 rw [Az3,Xn hM,Nat.one_pow]
theorem Xo {M:Nat} (hM:M=2305843009213693950) (k:Nat):37^(k%M)%2305843009213693951=37^k%2305843009213693951:=by
 conv=>rhs;rw [<- Nat.div_add_mod k M,Nat.pow_add,Ay5,Ax7,pow_one hM,Nat.one_mul,Ay6]
theorem Xp (k:Nat):37^(k%2305843009213693950)%2305843009213693951=37^k%2305843009213693951:=Xo rfl k
theorem Xq {M:Nat} (hM:M=2305843009213693950) (k:Nat):37^k%2305843009213693951≠0:=by
 intro h;have h1:(37^k)^M%2305843009213693951=1:=by rw [<- Ay5,Az1,Ay5];exact pow_one hM k
 rw [Az3,h,Nat.zero_pow (by omega)] at h1;simp at h1
theorem Xr (k:Nat):37^k%2305843009213693951≠0:=Xq rfl k
theorem Qi {k:Nat} (hk:k<18446744073709551616):1<=Fd.pow 37 k:=by
 rw [Fd.pow_eq 37 k hk];exact Nat.one_le_iff_ne_zero.2 (Xr k)
theorem sides {x o e:Nat} (hx:x<18446744073709551616) (ho:o<18446744073709551616) (he:e<18446744073709551616):
  Fd.pow 37 ((o+e*x%2305843009213693950)%2305843009213693950)=Fd.mul (Fd.pow 37 o) (Fd.pow (Fd.pow 37 x) e):=by
 have hs:(o+e*x%2305843009213693950)%2305843009213693950=(o+e*x)%2305843009213693950:=by rw [Nat.add_mod_mod]
 have hlt:(o+e*x)%2305843009213693950<18446744073709551616:=by have:=Ax6 (o+e*x) (show 0<2305843009213693950 by omega);omega
 rw [hs,Fd.pow_eq _ _ hlt,Xp,Nat.pow_add];unfold Fd.mul;rw [Fd.pow_eq _ _ ho,Fd.pow_eq _ _ he,Fd.pow_eq _ _ hx,<- Az3,<- Ax7,<- Ay5,Az1 x e]
theorem within_yes {n lo hi:Nat} (h1:lo<=n) (h2:n<=hi):within n lo hi=true:=by
 unfold within;simp;omega
theorem takes (x:Nat) (bs:List UInt8) (hx:x<18446744073709551616):check (pub x) bs (r x bs) (s x bs)=true:=by
 have lo:=once_lt x bs;have lr:=r_lt x bs;have ls:=s_lt x bs;have lp:=Fd.pow_lt 37 x;have le:=e_lt (r x bs) (pub x) bs;have p1:1<=Fd.pow 37 x:=Qi hx;have p2:1<=r x bs:=Qi (by omega);have w1:within (pub x) 1 2305843009213693950=true:=within_yes (lo:=1) (hi:=2305843009213693950) p1 (by unfold pub;omega);have w2:within (r x bs) 1 2305843009213693950=true:=within_yes (lo:=1) (hi:=2305843009213693950) p2 (by omega);have w3:within (s x bs) 0 2305843009213693949=true:=within_yes (lo:=0) (hi:=2305843009213693949) (by omega) (by omega);unfold check;rw [w1,w2,w3];have h:=sides (x:=x) (o:=once x bs) (e:=e (r x bs) (pub x) bs) hx (by omega) (by omega);have hs:s x bs=(once x bs+e (r x bs) (pub x) bs*x%2305843009213693950)%2305843009213693950:=rfl;have hr:r x bs=Fd.pow 37 (once x bs):=rfl;rw [hs,h,<- hr];simp [pub]
end Sg
namespace R8
theorem step (M o x h:Nat):((o+x)%M+(x+x)%M*h)%M=(o+x*(2*h+1))%M:=by
 have e:o+x*(2*h+1)=(o+x)+(x+x)*h:=by rw [Nat.mul_add,Nat.add_mul,Nat.mul_one,<- Nat.mul_assoc,Nat.mul_two,Nat.add_mul];omega
 rw [e,Ay7 (o+x) ((x+x)*h),Ax7 (x+x) h,Ay7 ((o+x)%M),Ay6,Ax7 ((x+x)%M),Ay6]
theorem step0 (M o x h:Nat):(o+(x+x)%M*h)%M=(o+x*(2*h))%M:=by
 have e:x*(2*h)=(x+x)*h:=by rw [<- Nat.mul_assoc,Nat.mul_two]
 rw [e,Ay7 o ((x+x)*h),Ax7 (x+x) h,Ay7 o,Ax7 ((x+x)%M),Ay6]
end R8
theorem Jk (w:World):Calls zp 101 #[] w fun e w'=>e=.returned (.int .u64 2305843009213693950)/\w=w':=by
 go_enter func101,ntmps101;go_wp2
 go_ret
 exact ⟨rfl,rfl⟩
theorem Xs (a b:Nat) (w:World):Calls zp 99 #[.int .u64 (a:Int),.int .u64 (b:Int)] w fun e w'=>e=.returned (.int .u64 ((a*b%2305843009213693950:Nat):Int))/\w=w':=by
 obtain ⟨x,hx⟩:=Aa (a%2305843009213693950);obtain ⟨y,hy⟩:=Aa (b%2305843009213693950);have lx:x<2305843009213693950:=by rw [<- hx.out];exact Ax6 _ (by omega)
 have ly:y<2305843009213693950:=by rw [<- hy.out];exact Ax6 _ (by omega)
 have ab:Hid ((0+x*y)%2305843009213693950=a*b%2305843009213693950):=by show _=_;rw [Nat.zero_add,<- hx.out,<- hy.out,<- Ax7]
 obtain ⟨r,hr⟩:=Aa (a*b%2305843009213693950);rw [hr.out] at ab ⊢;obtain ⟨fa,au⟩:=R1.nn 2305843009213693950 rfl hx.out;obtain ⟨fb,aq⟩:=R1.nn 2305843009213693950 rfl hy.out;have z1:¬(2305843009213693950:Int)=0:=by decide
 have ho:Hid (∀w,Calls zp 101 #[] w fun e w'=>e=.returned (.int .u64 2305843009213693950)/\w=w'):=fun w=>Jk w;clear hx hy;go_enter func99,ntmps99;unfold Hid at ho;generalize eM:(2305843009213693950:Int)=M at*;have hM:=lh eM;have ac:=lh ho;clear eM ho;go_wp2_with fail;refine (ac.out _).mono ?_;rintro _ _ ⟨rfl,rfl⟩;go_wp2_with fail;refine (ac.out _).mono ?_;rintro _ _ ⟨rfl,rfl⟩;go_wp2_with fail
 go_loopw [0,1,5] (fun p q o wr=>∃x' y' o':Nat,p=.int .u64 (x':Int)/\q=.int .u64 (y':Int)/\o=.int .u64 (o':Int)/\x'<2305843009213693950/\y'<2305843009213693950/\o'<2305843009213693950/\Hid ((o'+x'*y')%2305843009213693950=r)/\wr=w) (fun _ q _ _=>(intOf q).toNat)
 case atStart=>exact ⟨x,y,0,rfl,rfl,rfl,lx,ly,by omega,ab,rfl⟩
 case round=>
  obtain ⟨x',y',o',rfl,rfl,rfl,ap,ao,ag,hd,rfl⟩:=hrel
  by_cases hz:y'=0
  ·
   subst hz;have e:o'=r:=by have h:=hd.out;rw [Nat.mul_zero,Nat.add_zero,Nat.mod_eq_of_lt ag] at h;exact h
   go_wp2
   go_ret
   exact ⟨by rw [<- e];rfl,rfl⟩
  ·
   have ar:(0:Int)<(y':Int):=by omega
   have l1:(o'+x')%2305843009213693950<2305843009213693950:=Ax6 _ (by omega);have l2:(x'+x')%2305843009213693950<2305843009213693950:=Ax6 _ (by omega);have s1:=R8.step 2305843009213693950 o' x' (y'/2);have s0:=R8.step0 2305843009213693950 o' x' (y'/2);obtain ⟨ox,ae⟩:=Aa ((o'+x')%2305843009213693950);obtain ⟨xx,af⟩:=Aa ((x'+x')%2305843009213693950);obtain ⟨g1,ai⟩:=R1.nn M hM.out ae.out;obtain ⟨g2,al⟩:=R1.nn M hM.out af.out;rw [Int.natCast_add] at g1 ai g2 al;rw [ae.out] at l1 s1;rw [af.out] at l2 s1 s0;have aj:=lh s1;have ah:=lh s0;clear s1 s0;have aa:y'%2=1\/y'%2=0:=by omega
   rcases aa with hp|hp
   ·
    have ak:((y':Int)%2==1)=true:=by simp;omega
    have ad:Hid ((ox+xx*(y'/2))%2305843009213693950=r):=by show _=_;rw [aj.out,show 2*(y'/2)+1=y' by omega];exact hd.out
    clear hd hp;go_wp2_with (first|(go_at_call 101;refine (ac.out _).mono ?_;rintro _ _ ⟨rfl,rfl⟩));exact ⟨⟨xx,y'/2,ox,rfl,by go_num,rfl,l2,by omega,l1,ad,by first|rfl|trivial⟩,by simp [intOf];omega⟩
   ·
    have ak:((y':Int)%2==1)=false:=by simp;omega
    have ad:Hid ((o'+xx*(y'/2))%2305843009213693950=r):=by show _=_;rw [ah.out,show 2*(y'/2)=y' by omega];exact hd.out
    clear hd hp;go_wp2_with (first|(go_at_call 101;refine (ac.out _).mono ?_;rintro _ _ ⟨rfl,rfl⟩));exact ⟨⟨xx,y'/2,o',rfl,by go_num,rfl,l2,by omega,ag,ad,by first|rfl|trivial⟩,by simp [intOf];omega⟩
theorem Jl (n:Nat) (w:World) (hn:n<18446744073709551616):Calls zp 90 #[.int .u64 (n:Int)] w (Cp (Sg.pub n) w):=by
 have hp:Hid (∀w,Calls zp 98 #[.int .u64 37,.int .u64 (n:Int)] w fun e w'=>e=.returned (.int .u64 (Sg.pub n:Int))/\∃k,w'=w.drewN k):=fun w=>Hy 37 n w (by omega) hn;go_enter func90,ntmps90;go_wp2_with fail;refine (hp.out _).mono ?_;rintro _ _ ⟨rfl,k,rfl⟩;go_wp2
 go_ret
 exact ⟨rfl,(Fr.refl _ _).drewN _⟩
theorem Qj (B n c:Nat) (A:Option Addr) (bs:List UInt8) (w:World) (hlen:Hid (bs.length=n)) (hn:n<=1099511627775) (hB:B<=w.heap.size) (hr:Rd w B 1 A n (bs.map Bv)):
  Calls zp 97 #[.slice A n c] w (Cp (Sg.m bs) w):=by
 have hby:Hid (Calls zp 113 #[.string ⟨#[115,105,103,110,101,100]⟩,.slice A n c] w (Cp (Sg.m bs) w)):=Qf Sg.lSigned B n c A bs w hlen hn (by decide) hB hr;go_enter func97,ntmps97;go_wp2_with fail;refine hby.out.mono ?_;rintro _ w1 ⟨rfl,hf1⟩;go_wp2
 go_ret
 exact ⟨rfl,hf1⟩
theorem Qk (r pub B n c:Nat) (A:Option Addr) (bs:List UInt8) (w:World) (hr0:r<18446744073709551616) (hp:pub<18446744073709551616) (hlen:Hid (bs.length=n)) (hn:n<=1099511627775) (hB:B<=w.heap.size) (hr:Rd w B 1 A n (bs.map Bv)):
  Calls zp 100 #[.int .u64 (r:Int),.int .u64 (pub:Int),.slice A n c] w (Cp (Sg.e r pub bs) w):=by
 have he:Hid (Sg.e r pub bs=Hs.of Sg.lSig [r,pub,Sg.m bs]):=rfl;have hm:=Sg.m_lt bs;have hby:=lh (Qj B n c A bs w hlen hn hB hr);obtain ⟨v,hv⟩:=Aa (Sg.m bs);rw [hv.out] at he hm hby;rw [he.out];go_enter func100,ntmps100;go_wp2_with fail;refine hby.out.mono ?_;rintro _ w1 ⟨rfl,hf1⟩;go_wp2_with fail;have hnew:=Blk.new w1 23 #[.int .u64 (r:Int),.int .u64 (pub:Int),.int .u64 (v:Int)]
 have hrd:Rd (w1.alloc (.cells #[.int .u64 (r:Int),.int .u64 (pub:Int),.int .u64 (v:Int)] 23)) (w1.heap.size+1) 1 (some ⟨w1.heap.size,0,none⟩) 3 ([r,pub,v].map Wv):=by
  refine ⟨rfl,.inr ⟨w1.heap.size,0,rfl,by omega,fun j u hu=> ?_⟩⟩;rw [hnew.cell]
  match j,hu with
  |0,hu=>simpa [Wv] using hu
  |1,hu=>simpa [Wv] using hu
  |2,hu=>simpa [Wv] using hu
 refine (Mm Sg.lSig [r,pub,v] _ 3 3 _ _ rfl (by decide) (by omega) hrd (by simp;omega)).mono ?_;rintro _ w2 ⟨rfl,hf2⟩;go_wp2
 go_ret
 exact ⟨rfl,(hf1.alloc _).trans hf2 zr⟩
theorem Xt (o X S:Nat) (ho:o<2305843009213693950) (hX:X<2305843009213693950) (hS:Hid ((o+X)%2305843009213693950=S)):((o:Int)+(X:Int))%2305843009213693950=(S:Int)/\((o:Int)+(X:Int)).tmod 2305843009213693950=(S:Int):=by
 have h2:((o:Int)+(X:Int))%2305843009213693950=(S:Int):=by rw [<- hS.out];omega
 exact ⟨h2,by rw [Int.tmod_eq_emod_of_nonneg (by omega),h2]⟩
theorem Xu (secret B n c:Nat) (A:Option Addr) (bs:List UInt8) (w:World) (hs:secret<18446744073709551616) (hlen:Hid (bs.length=n)) (hn:n<=1099511627775) (hB:B<=w.heap.size) (hr:Rd w B 1 A n (bs.map Bv)):
  Calls zp 52 #[.int .u64 (secret:Int),.slice A n c] w (Qh secret bs w):=by
 have au:=Blk.new w 25 #[.int .u64 0,.int .u64 0];have ax:Fr Non w (w.alloc (.cells #[.int .u64 0,.int .u64 0] 25)):=(Fr.refl _ _).alloc _;have ap:=hr.alloc (.cells #[.int .u64 0,.int .u64 0] 25);have lp:=Fd.pow_lt 37 secret;have lm:=Sg.m_lt bs;have lo:=Sg.once_lt secret bs;have lr:=Sg.r_lt secret bs;have al:Hid (Sg.x secret bs=Sg.e (Sg.r secret bs) (Sg.pub secret) bs*secret%2305843009213693950):=rfl;have ah:Hid ((Sg.once secret bs+Sg.x secret bs)%2305843009213693950=Sg.s secret bs):=rfl;have lx:=Sg.x_lt secret bs;have ls:=Sg.s_lt secret bs;have af:Hid (∀w,Calls zp 98 #[.int .u64 37,.int .u64 (Sg.once secret bs:Int)] w fun e w'=>e=.returned (.int .u64 (Sg.r secret bs:Int))/\∃k,w'=w.drewN k):=fun w=>Hy 37 (Sg.once secret bs) w (by omega) (by omega);have ar:Sg.pub secret<2305843009213693951:=lp;have le:=Sg.e_lt (Sg.r secret bs) (Sg.pub secret) bs;have ab:Hid (Sg.once secret bs=Hs.secret Sg.lNonce [secret,Sg.m bs]):=rfl;have ac:=lh (fun w=>Jl secret w hs);obtain ⟨P,hP⟩:=Aa (Sg.pub secret);obtain ⟨m,hm⟩:=Aa (Sg.m bs);obtain ⟨o,ho⟩:=Aa (Sg.once secret bs);obtain ⟨R,hR⟩:=Aa (Sg.r secret bs);rw [hR.out,hP.out] at al le;rw [hR.out,ho.out] at af;rw [ho.out] at ah lo ab;rw [hm.out] at ab lm;rw [hR.out] at lr;rw [hP.out] at ar ac;obtain ⟨E,hE⟩:=Aa (Sg.e R P bs);rw [hE.out] at al le;have aa:Hid (∀w,Calls zp 99 #[.int .u64 (E:Int),.int .u64 (secret:Int)] w fun e w'=>e=.returned (.int .u64 (Sg.x secret bs:Int))/\w=w'):=fun w=>by rw [al.out];exact Xs E secret w
 obtain ⟨X,hX⟩:=Aa (Sg.x secret bs);obtain ⟨S,hS⟩:=Aa (Sg.s secret bs);rw [hX.out] at aa lx ah;rw [hS.out] at ah ls;obtain ⟨v1,v2⟩:=Xt o X S lo lx ah;have ad:Hid (∀w,Calls zp 101 #[] w fun e w'=>e=.returned (.int .u64 2305843009213693950)/\w=w'):=fun w=>Jk w;have z1:¬(2305843009213693950:Int)=0:=by decide
 go_enter func52,ntmps52;go_wp2_with fail;refine (Qj B n c A bs _ hlen hn (by simp;omega) ap).mono ?_;rw [hm.out];rintro _ w2 ⟨rfl,ai⟩;go_wp2_with fail;have ao:=Blk.new w2 23 #[.int .u64 (secret:Int),.int .u64 (m:Int)]
 have av:Rd (w2.alloc (.cells #[.int .u64 (secret:Int),.int .u64 (m:Int)] 23)) (w2.heap.size+1) 1 (some ⟨w2.heap.size,0,none⟩) 2 ([secret,m].map Wv):=by
  refine ⟨rfl,.inr ⟨w2.heap.size,0,rfl,by omega,fun j u hu=> ?_⟩⟩;rw [ao.cell]
  match j,hu with
  |0,hu=>simpa [Wv] using hu
  |1,hu=>simpa [Wv] using hu
 refine (Qg Sg.lNonce [secret,m] _ 2 2 _ _ rfl (by decide) (by omega) av (by simp;omega)).mono ?_;rw [<- ab.out];rintro _ w3 ⟨rfl,ak⟩;go_wp2_with fail;refine (af.out _).mono ?_;rintro _ _ ⟨rfl,k4,rfl⟩;go_wp2_with fail;refine (ac.out _).mono ?_;rintro _ w4 ⟨rfl,aj⟩;have ay:=ai.size;have az:=ak.size;have aw:=aj.size;simp only [Ay8] at ay az;have a0:w3.heap.size<=w4.heap.size:=aw;have a1:=((((ap.fr ai zr).alloc (.cells #[.int .u64 (secret:Int),.int .u64 (m:Int)] 23)).fr ak zr).drewN k4).fr aj zr;go_wp2_with fail;refine (Qk R P B n c A bs w4 (by omega) (by omega) hlen hn (by omega) a1).mono ?_;rw [hE.out];rintro _ w5 ⟨rfl,aq⟩;go_wp2_with fail;refine (aa.out _).mono ?_;rintro _ _ ⟨rfl,rfl⟩;unfold Hid at ad;generalize (2305843009213693950:Int)=M at*;have ae:=lh ad;clear ad;go_wp2_with fail;refine (ae.out _).mono ?_;rintro _ _ ⟨rfl,rfl⟩;have ag:=(((((au.fr ai zq).alloc (.cells #[.int .u64 (secret:Int),.int .u64 (m:Int)] 23)).fr ak zq).drewN k4).fr aj zq).fr aq zq;have a2:=(((((ax.trans ai zr).alloc (.cells #[.int .u64 (secret:Int),.int .u64 (m:Int)] 23)).trans ak zr).drewN k4).trans aj zr).trans aq zr;have a4:=ag.cell 0;have a6:=ag.cell 1;have a3:=ag.frozen 0;have a5:=ag.frozen 1;go_wp2;refine Ez rfl rfl ((ag.set 0 _).set 1 _) rfl underlying25 (by kernel_rfl) rfl ⟨?_,(a2.setNew (Ax4 _) _ _).setNew (Ax4 _) _ _⟩;rw [hR.out,hS.out];rfl
namespace Oq
attribute [local go_sem ↓] Cj
attribute [local go_sem] Bool.not_false Bool.not_true
theorem Ah (l:List Value) (ds:List Deferred) (i:Nat) (v:Value):(⟨l.toArray,ds⟩:Act).put (some i) v=⟨(l.set i v).toArray,ds⟩:=by simp [Act.put]
theorem Di {P:Program} {Q:Exit->Act->World->Prop} {ops:Array Oper} {md:Region.Mode} {S:World->Prop} {fuel:Nat} {listed:Array Bool} {a:Act} {w:World} (i:Nat) {o:Oper} (hr:Region.ready md ops listed=[i]) (ho:ops[i]? =some o)
  (hw:Region.wanted o (yielded ops a.tmps)=true)
  (h:∀K':Act->World->Prop,Shut (∀a w,S w->(S w->wpAnyH P md ops Q S fuel (listed.setIfInBounds i true) a w)->K' a w)->Oper.wp P o a w K' Q):
  wpAnyH P md ops Q S (fuel+1) listed a w:=
 wpAnyH_ready hr (by simp) (AllReadyH.cons ho (fun K' hK=>by rw [if_pos hw];exact h K' hK) AllReadyH.nil)
def sec (kind:List UInt8) (u:Nat):Nat:=Hs.secret kind [u]
theorem Hz (kind:List UInt8) (u:Nat):sec kind u<2305843009213693950:=Hs.secret_lt _ _
theorem Ql (kind:List UInt8) (d:Int) (u:Nat) (w:World) (hu:IntKind.u64.wrap d=(u:Int)) (hu':u<18446744073709551616) (hk:kind.length<=1000):
  Calls zp 53 #[.string (str kind),.int .i64 d] w (Cp (sec kind u) w):=by
 have hb:=Blk.new w 23 #[.int .u64 (u:Int)];have hr:Rd (w.alloc (.cells #[.int .u64 (u:Int)] 23)) (w.alloc (.cells #[.int .u64 (u:Int)] 23)).heap.size 1 (some ⟨w.heap.size,0,none⟩) 1 ([u].map Wv):=Rd.blk (n:=1) (size:=1) (l:=[.int .u64 (u:Int)]) hb rfl;have hf:Fr Non w (w.alloc (.cells #[.int .u64 (u:Int)] 23)):=(Fr.refl Non w).alloc _;obtain ⟨st,hst⟩:=Aa (str kind);have k:=lh (Qg kind [u] (some ⟨w.heap.size,0,none⟩) 1 1 _ _ rfl (by omega) (by omega) hr (by simp;omega));rw [hst.out] at k ⊢;go_enter func53,ntmps53;go_wp2_with fail;refine k.out.mono ?_;rintro _ w1 ⟨rfl,f1⟩;go_wp2
 go_ret
 exact ⟨rfl,hf.trans f1 zr⟩
theorem Qm (d m:Int) (ld kp sg:Nat) (x:OpL) (w:World) (hat:x.at w w.heap.size) (hok:x.op.ok) (hsg:sg<18446744073709551616):
  Calls zp 66 #[.agg #[.int .i64 d,.int .i64 m,.int .u64 (ld:Int),.int .u64 (kp:Int),.int .u64 (sg:Int)],.agg x.cells] w (Ag ((x.by_==d)&&Sg.check sg x.op.bare x.r x.s) w):=by
 have ak:x.cells.size=27:=rfl;obtain ⟨CS,ae⟩:=Aa x.cells;have e0:Hid (CS[0]? =some (.int .i64 x.by_)):=by show _=_;rw [<- ae.out];rfl
 have aq:Hid (CS[25]? =some (.int .u64 (x.r:Int))):=by show _=_;rw [<- ae.out];rfl
 have az:Hid (CS[26]? =some (.int .u64 (x.s:Int))):=by show _=_;rw [<- ae.out];rfl
 have ab:Blk ((w.alloc (.cells #[.int .i64 d,.int .i64 m,.int .u64 (ld:Int),.int .u64 (kp:Int),.int .u64 (sg:Int)] 104)).alloc (.cells x.cells 44)).drew w.heap.size 104 #[.int .i64 d,.int .i64 m,.int .u64 (ld:Int),.int .u64 (kp:Int),.int .u64 (sg:Int)]:=((Blk.new w 104 _).alloc _).drew
 have ac:Blk ((w.alloc (.cells #[.int .i64 d,.int .i64 m,.int .u64 (ld:Int),.int .u64 (kp:Int),.int .u64 (sg:Int)] 104)).alloc (.cells x.cells 44)).drew (w.heap.size+1) 44 x.cells:=by
  have:=(Blk.new (w.alloc (.cells #[.int .i64 d,.int .i64 m,.int .u64 (ld:Int),.int .u64 (kp:Int),.int .u64 (sg:Int)] 104)) 44 x.cells).drew;rwa [Ay8] at this
 have af:Fr Non w ((w.alloc (.cells #[.int .i64 d,.int .i64 m,.int .u64 (ld:Int),.int .u64 (kp:Int),.int .u64 (sg:Int)] 104)).alloc (.cells x.cells 44)).drew:=(((Fr.refl Non w).alloc _).alloc _).drew;have ai:=OpL.frame hat af;have kb:=lh (fun w' (h:x.at w' w'.heap.size)=>Pt x w' h hok);have lb:=Op.bare_len x.op hok;have hr:=hok.r;have hs:=hok.s;have kc:=lh (fun (A:Option Addr) (c:Nat) (w':World) (B:Nat) (h:Own w' B 5 1 A x.op.bare.length c (x.op.bare.map Bv))=>Mp sg x.r x.s w'.heap.size x.op.bare.length c A x.op.bare w' hsg hr hs rfl h.cap.1 (by omega) (Ax4 _) h.rd);obtain ⟨D,hD⟩:=Aa x.op.bare;rw [hD.out] at kb lb kc;rw [hD.out];rw [ae.out] at ak ac ab kb ai af;rw [ae.out];have hi:(zp.info? 44).map (·.size)=some CS.size:=by rw [ak];kernel_rfl
 have hl:=Bi (P:=zp) (w.heap.size+1) 44 underlying44 rfl hi;obtain ⟨V,hV⟩:=Aa (Sg.check sg D x.r x.s);rw [hV.out] at kc ⊢;unfold Ev at kc;clear hat hok hr hs hD
 by_cases hd:x.by_=d
 ·
  have hb:(x.by_==d)=true:=by simp [hd]
  have ad:Hid (((x.by_==d)&&V)=V):=by show _=_;rw [hb];simp
  rw [ad.out];clear hd ad;go_enter func66,ntmps66;go_upto_region 1 with (fail)
  generalize (w.alloc (.cells #[.int .i64 d,.int .i64 m,.int .u64 (ld:Int),.int .u64 (kp:Int),.int .u64 (sg:Int)] 104)).alloc (.cells CS 44)=w0 at*;refine wp_region_held_drew (S:=fun w'=>Blk w' w.heap.size 104 #[.int .i64 d,.int .i64 m,.int .u64 (ld:Int),.int .u64 (kp:Int),.int .u64 (sg:Int)]/\Blk w' (w.heap.size+1) 44 CS) (by kernel_rfl) ⟨ab,ac⟩ (fun _=> ?_);refine tkH 0 ⟨ab,ac⟩ (h:=?_);(try simp only [zl]);refine wpAnyH_take (i:=1) (v:=?_) rfl (by kernel_rfl) (by kernel_rfl) (by kernel_rfl) (fun _ _ _ h=>h) (Or.inl ⟨by kernel_rfl,?_⟩) ⟨ab,ac⟩ ?_;rotate_left
  focus (intro w' aa;have b1:=aa.1;have b2:=aa.2;have q:cI w' (w.heap.size+1) 0 x.by_:=(b2.cell 0).trans e0.out;go_simp;(try with_reducible rfl))
  try simp only [Ah,zl]
  refine tkH 2 ⟨ab,ac⟩ (h:=?_);(try simp only [zl]);refine wpAnyH_take (i:=3) (v:=?_) rfl (by kernel_rfl) (by kernel_rfl) (by kernel_rfl) (fun _ _ _ h=>h) (Or.inl ⟨by kernel_rfl,?_⟩) ⟨ab,ac⟩ ?_;rotate_left
  focus (intro w' aa;have b1:=aa.1;have b2:=aa.2;have q:cI w' w.heap.size 0 d:=b1.cell 0;go_simp;(try with_reducible rfl))
  try simp only [Ah,zl]
  refine tkH 4 ⟨ab,ac⟩ (h:=?_);(try simp only [zl]);refine tkH 5 ⟨ab,ac⟩ (h:=?_);(try simp only [zl]);refine tkH 6 ⟨ab,ac⟩ (h:=?_);(try simp only [zl]);refine wpAnyH_take (i:=7) (v:=?_) rfl (by kernel_rfl) (by kernel_rfl) (by kernel_rfl) (fun _ _ _ h=>h) (Or.inl ⟨by kernel_rfl,?_⟩) ⟨ab,ac⟩ ?_;rotate_left
  focus (intro w' aa;have b1:=aa.1;have b2:=aa.2;have q:cU w' w.heap.size 4 sg:=b1.cell 4;go_simp;(try with_reducible rfl))
  try simp only [Ah,zl]
  refine tkH 8 ⟨ab,ac⟩ (h:=?_);(try simp only [zl]);refine tkH 11 ⟨ab,ac⟩ (h:=?_);(try simp only [zl]);refine wpAnyH_take (i:=12) (v:=?_) rfl (by kernel_rfl) (by kernel_rfl) (by kernel_rfl) (fun _ _ _ h=>h) (Or.inl ⟨by kernel_rfl,?_⟩) ⟨ab,ac⟩ ?_;rotate_left
  focus (intro w' aa;have b1:=aa.1;have b2:=aa.2;have q1:cU w' (w.heap.size+1) 25 x.r:=(b2.cell 25).trans aq.out;have q2:cU w' (w.heap.size+1) 26 x.s:=(b2.cell 26).trans az.out;go_simp;(try with_reducible rfl))
  try simp only [Ah,zl]
  refine Di 9 (by kernel_rfl) rfl (by kernel_rfl) (fun K hK=> ?_);go_simp;go_wp2_with (go_at_call 126;(with_reducible refine (kb.out _ ai).mono ?_);rintro _ v1 ⟨A1,c1,rfl,o1,f1⟩;have ap:=ab.fr f1 zq;have al:=ac.fr f1 zq;have au:=OpL.frame ai f1;have av:=af.trans f1 zr;have ay:OutAt v1 w0.heap.size (w0.heap.size+1) A1 c1 D:=o1);refine hK.out _ _ ⟨ap,al⟩ (fun _=> ?_);clear hK K;try simp only [Ah,zl]
  refine Di 10 (by kernel_rfl) rfl (by kernel_rfl) (fun K hK=> ?_);go_simp;go_wp2_with (go_at_call 127;(with_reducible refine (Ov _ _ A1 c1 _ _ ay (by omega)).mono ?_);rintro _ v2 ⟨A2,c2,rfl,o2,f2⟩;have aj:=ap.fr f2 zq;have ao:=al.fr f2 zq;have aw:=OpL.frame au f2;have ar:=av.trans f2 zr);refine hK.out _ _ ⟨aj,ao⟩ (fun _=> ?_);clear hK K;try simp only [Ah,zl]
  refine Di 13 (by kernel_rfl) rfl (by kernel_rfl) (fun K hK=> ?_);go_simp;go_wp2_with (go_at_call 128;(with_reducible refine (kc.out _ _ _ _ o2).mono ?_);rintro _ v3 ⟨rfl,f3⟩;have ag:=aj.fr f3 zq;have ah:=ao.fr f3 zq;have a0:=OpL.frame aw f3;have ax:=ar.trans f3 zr);refine hK.out _ _ ⟨ag,ah⟩ (fun _=> ?_);clear hK K;try simp only [Ah,zl]
  refine tkH 14 ⟨ag,ah⟩ (h:=?_);(try simp only [zl]);refine tkH 15 ⟨ag,ah⟩ (h:=?_);(try simp only [zl]);refine oD ?_;go_wp2
  go_ret
  exact ⟨rfl,ax⟩
 ·
  have hb:(x.by_==d)=false:=by simp [hd]
  have ad:Hid (((x.by_==d)&&V)=false):=by show _=_;rw [hb];simp
  rw [ad.out];clear hd ad;go_enter func66,ntmps66;go_upto_region 1 with (fail)
  generalize (w.alloc (.cells #[.int .i64 d,.int .i64 m,.int .u64 (ld:Int),.int .u64 (kp:Int),.int .u64 (sg:Int)] 104)).alloc (.cells CS 44)=w0 at*;refine wp_region_held_drew (S:=fun w'=>Blk w' w.heap.size 104 #[.int .i64 d,.int .i64 m,.int .u64 (ld:Int),.int .u64 (kp:Int),.int .u64 (sg:Int)]/\Blk w' (w.heap.size+1) 44 CS) (by kernel_rfl) ⟨ab,ac⟩ (fun _=> ?_);refine tkH 0 ⟨ab,ac⟩ (h:=?_);(try simp only [zl]);refine wpAnyH_take (i:=1) (v:=?_) rfl (by kernel_rfl) (by kernel_rfl) (by kernel_rfl) (fun _ _ _ h=>h) (Or.inl ⟨by kernel_rfl,?_⟩) ⟨ab,ac⟩ ?_;rotate_left
  focus (intro w' aa;have b1:=aa.1;have b2:=aa.2;have q:cI w' (w.heap.size+1) 0 x.by_:=(b2.cell 0).trans e0.out;go_simp;(try with_reducible rfl))
  try simp only [Ah,zl]
  refine tkH 2 ⟨ab,ac⟩ (h:=?_);(try simp only [zl]);refine wpAnyH_take (i:=3) (v:=?_) rfl (by kernel_rfl) (by kernel_rfl) (by kernel_rfl) (fun _ _ _ h=>h) (Or.inl ⟨by kernel_rfl,?_⟩) ⟨ab,ac⟩ ?_;rotate_left
  focus (intro w' aa;have b1:=aa.1;have b2:=aa.2;have q:cI w' w.heap.size 0 d:=b1.cell 0;go_simp;(try with_reducible rfl))
  try simp only [Ah,zl]
  refine tkH 4 ⟨ab,ac⟩ (h:=?_);(try simp only [zl]);refine tkH 5 ⟨ab,ac⟩ (h:=?_);(try simp only [zl]);refine wpAnyH_take (i:=6) (v:=undef) rfl (by kernel_rfl) (by kernel_rfl) (by kernel_rfl) (fun _ _ _ h=>h) (Or.inr ⟨by kernel_rfl,rfl⟩) ⟨ab,ac⟩ ?_;try simp only [Ah,zl]
  refine wpAnyH_take (i:=7) (v:=undef) rfl (by kernel_rfl) (by kernel_rfl) (by kernel_rfl) (fun _ _ _ h=>h) (Or.inr ⟨by kernel_rfl,rfl⟩) ⟨ab,ac⟩ ?_;try simp only [Ah,zl]
  refine wpAnyH_take (i:=8) (v:=undef) rfl (by kernel_rfl) (by kernel_rfl) (by kernel_rfl) (fun _ _ _ h=>h) (Or.inr ⟨by kernel_rfl,rfl⟩) ⟨ab,ac⟩ ?_;try simp only [Ah,zl]
  refine wpAnyH_take (i:=9) (v:=undef) rfl (by kernel_rfl) (by kernel_rfl) (by kernel_rfl) (fun _ _ _ h=>h) (Or.inr ⟨by kernel_rfl,rfl⟩) ⟨ab,ac⟩ ?_;try simp only [Ah,zl]
  refine wpAnyH_take (i:=10) (v:=undef) rfl (by kernel_rfl) (by kernel_rfl) (by kernel_rfl) (fun _ _ _ h=>h) (Or.inr ⟨by kernel_rfl,rfl⟩) ⟨ab,ac⟩ ?_;try simp only [Ah,zl]
  refine wpAnyH_take (i:=11) (v:=undef) rfl (by kernel_rfl) (by kernel_rfl) (by kernel_rfl) (fun _ _ _ h=>h) (Or.inr ⟨by kernel_rfl,rfl⟩) ⟨ab,ac⟩ ?_;try simp only [Ah,zl]
  refine wpAnyH_take (i:=12) (v:=undef) rfl (by kernel_rfl) (by kernel_rfl) (by kernel_rfl) (fun _ _ _ h=>h) (Or.inr ⟨by kernel_rfl,rfl⟩) ⟨ab,ac⟩ ?_;try simp only [Ah,zl]
  refine wpAnyH_take (i:=13) (v:=undef) rfl (by kernel_rfl) (by kernel_rfl) (by kernel_rfl) (fun _ _ _ h=>h) (Or.inr ⟨by kernel_rfl,rfl⟩) ⟨ab,ac⟩ ?_;try simp only [Ah,zl]
  refine tkH 14 ⟨ab,ac⟩ (h:=?_);(try simp only [zl]);refine tkH 15 ⟨ab,ac⟩ (h:=?_);(try simp only [zl]);refine oD ?_;go_wp2
  go_ret
  exact ⟨by go_simp,af⟩
theorem Qn {x:OpL} {w:World} {B:Nat} (o:x.at w B) (r s:Nat):({x with r:=r,s:=s}:OpL).at w B:=⟨o.past,o.path,o.nodes,o.body,o.refs,o.guards,o.boxes,o.hist,o.seals⟩
theorem Xv (x:OpL) (R S:Nat):({x with r:=R,s:=S}:OpL).op={x.op with r:=R,s:=S}:=rfl
def Bz:List UInt8:=[115,105,103,110]
def Mq (x:OpL) (secret:Nat) (w:World) (r:Ending) (w':World):Prop:=
 r=.returned (.agg ({x with r:=Sg.r secret x.op.bare,s:=Sg.s secret x.op.bare}:OpL).cells)/\Fr Non w w'
theorem Xw (x:OpL) (u:Nat) (w:World) (hu:IntKind.u64.wrap x.by_=(u:Int)) (hu':u<18446744073709551616) (hat:x.at w w.heap.size) (hok:x.op.ok):
  Calls zp 15 #[.agg x.cells] w (Mq x (sec Bz u) w):=by
 have hi:(zp.info? 44).map (·.size)=some 27:=by kernel_rfl
 have ak:Blk ((w.alloc (.cells x.cells 44)).alloc (.cells zO 44)).drew w.heap.size 44 x.cells:=((Blk.new w 44 _).alloc _).drew
 have aq:Blk ((w.alloc (.cells x.cells 44)).alloc (.cells zO 44)).drew (w.heap.size+1) 44 zO:=by
  have:=(Blk.new (w.alloc (.cells x.cells 44)) 44 zO).drew;rwa [Ay8] at this
 have aj:Fr Non w ((w.alloc (.cells x.cells 44)).alloc (.cells zO 44)).drew:=(((Fr.refl Non w).alloc _).alloc _).drew;have a6:=OpL.frame hat aj;have hs:=Hz Bz u;have k1:Hid (∀w':World,Calls zp 53 #[.string ⟨#[115,105,103,110]⟩,.int .i64 x.by_] w' (Cp (sec Bz u) w')):=fun w'=>Ql Bz x.by_ u w' hu hu' (by decide);have kb:=lh (fun w' (h:x.at w' w'.heap.size)=>Mf x w' h hok);have lb:=Op.bare_len x.op hok;have ks:=lh (fun (A:Option Addr) (c:Nat) (w':World) (B:Nat) (h:Own w' B 5 1 A x.op.bare.length c (x.op.bare.map Bv))=>Xu (sec Bz u) w'.heap.size x.op.bare.length c A x.op.bare w' (by omega) rfl (by omega) (Ax4 _) h.rd);have ab:∀(R S:Nat) (w':World),Sg.r (sec Bz u) x.op.bare=R->Sg.s (sec Bz u) x.op.bare=S->({x with r:=R,s:=S}:OpL).at w' w'.heap.size->Fr Non w w'->Mq x (sec Bz u) w (.returned (.agg ({x with r:=R,s:=S}:OpL).cells)) w':=fun R S w' h1 h2 h3 h4=>by subst h1;subst h2;exact ⟨rfl,h4⟩
 obtain ⟨D,hD⟩:=Aa x.op.bare;rw [hD.out] at kb lb ks ab;generalize sec Bz u=V at*;obtain ⟨R,hR⟩:=Aa (Sg.r V D);obtain ⟨S,hS⟩:=Aa (Sg.s V D);unfold Qh Ev at ks;rw [hR.out,hS.out] at ks;have aa:=lh (fun w'=>ab R S w' hR.out hS.out);generalize Mq x V w=POST at aa ⊢;have ba:=Bi (P:=zp) w.heap.size 44 underlying44 rfl (cs:=x.cells) hi;have ad:=lh hat;clear ab hat hok hs hD hR hS hu hu';go_enter func15,ntmps15;go_upto_region 1 with (fail)
 generalize (w.alloc (.cells x.cells 44)).alloc (.cells zO 44)=w0 at*;have c0:cI w0.drew w.heap.size 0 x.by_:=ak.cell 0;have f0:Fr Non w0.drew w0.drew:=Fr.refl _ _
 go_region_with (first
  |(go_at_call 53;(with_reducible refine (k1.out _).mono ?_);rintro _ v1 ⟨rfl,f1⟩;have ay:=ak.fr f1 zq;have ah:=OpL.frame a6 f1;have az:=aq.fr f1 zq;have au:=aj.trans f1 zr)
  |(go_at_call 54;(with_reducible refine (kb.out _ ah).mono ?_);rintro _ v2 ⟨A2,c2,rfl,o2,f2⟩;have a2:=ay.fr f2 zq;have av:=OpL.frame ah f2;have a3:=az.fr f2 zq;have al:=au.trans f2 zr)
  |(go_at_call 52;(with_reducible refine (ks.out _ _ _ _ o2).mono ?_);rintro _ v3 ⟨rfl,f3⟩;have ae:=a2.fr f3 zq;have bc:=OpL.frame av f3;have a1:=a3.fr f3 zq;have aw:=al.trans f3 zr;have a7:v3.cell? ⟨w.heap.size,25,none⟩=some _:=ae.cell 25;have bb:v3.cell? ⟨w.heap.size,26,none⟩=some _:=ae.cell 26;have a9:=ae.frozen 25;have a8:=ae.frozen 26))
 all_goals
  have a5:Blk _ w.heap.size 44 ({x with r:=R,s:=S}:OpL).cells:=(ae.set 25 (.int .u64 (R:Int))).set 26 (.int .u64 (S:Int));have a0:=((Fr.refl (One w.heap.size) v3).setOne 25 (.int .u64 (R:Int))).setOne 26 (.int .u64 (S:Int));have ax:=a1.fr a0 (fun e=>by have e':w.heap.size+1=w.heap.size:=e;omega);have ai:=(aw.setNew (Ax4 _) 25 (.int .u64 (R:Int))).setNew (Ax4 _) 26 (.int .u64 (S:Int));have ag:=Qn (OpL.frame ad.out ai) R S;generalize (v3.setCell ⟨w.heap.size,25,none⟩ (.int .u64 (R:Int))).setCell ⟨w.heap.size,26,none⟩ (.int .u64 (S:Int))=w4 at*;have ac:=Dr ({x with r:=R,s:=S}:OpL)
  have ao:Hid (∀wz,Fr (One (w.heap.size+1)) w4 wz->POST (.returned (.agg ({x with r:=R,s:=S}:OpL).cells)) wz):=by
   intro wz hf;have ap:=ai.trans hf (fun k hk e=>absurd hk (by have e':k=w.heap.size+1:=e;omega));exact aa.out wz (Qn (OpL.frame ad.out ap) R S) ap
  clear ag aa ad ai ak ay a2 ae aq az a3 a1 a6 ah av bc aj au al aw a7 bb a9 a8 a0 ba o2 f1 f2 f3 c0 f0;generalize ({x with r:=R,s:=S}:OpL)=v at a5 ac ao;have af:True:=trivial
  go_wp2_with (first
   |(have _t:=af;refine Oo rfl 44 (.tmp 1) rfl rfl a5 underlying44 rfl hi ?_;clear af _t)
   |(refine Lr rfl 44 (.tmp 2) (.tmp 10) rfl rfl rfl rfl ax hi rfl ac ?_;have a4:=(Fr.refl (One (w.heap.size+1)) w4).setRow (g:=w.heap.size+1) (fun _=>rfl) v.cells;have ar:=ax.setRow (cs:=v.cells);generalize w4.setRow (w.heap.size+1) v.cells=wz at a4 ar ⊢;(repeat (first|go_values|go_skip|go_guarded|go_step));exact Ez (t:=44) rfl rfl ar rfl underlying44 (by kernel_rfl) rfl (ao.out wz a4)))
def Gd:List UInt8:=[108,101,97,100]
def Ge:List UInt8:=[107,101,101,112]
def Da (i:Nat) (m:Int):Cd:=⟨(i:Int)+1,m,Sg.pub (sec Gd (i+1)),Sg.pub (sec Ge (i+1)),Sg.pub (sec Bz (i+1))⟩
def Bm (i:Nat):List Int->List Cd
 |[]=>[]
 |m::r=>Da i m::Bm (i+1) r
theorem Mr (l:List Int):∀i,(Bm i l).length=l.length:=by
 induction l with
 |nil=>intro i;rfl
 |cons m r ih=>intro i;simp [Bm,ih]
theorem Xx (l:List Int) (m:Int):∀i,Bm i (l++[m])=Bm i l++[Da (i+l.length) m]:=by
 induction l with
 |nil=>intro i;rfl
 |cons x r ih=>
  intro i;show Da i x::Bm (i+1) (r++[m])=_;rw [ih,List.length_cons,show i+1+r.length=i+(r.length+1) by omega];rfl
theorem slCd:SlT zp 26 104 (.agg zC) 5 40:=⟨underlying26,by kernel_rfl,rfl,by decide⟩
def Qo (l:List Int) (n:Nat) (w:World) (r:Ending) (w':World):Prop:=
 ∃A c,r=.returned (.slice A n c)/\Own w' w.heap.size 104 5 A n c ((Bm 0 l).flatMap Cd.cells)/\Fr Non w w'
theorem Xy (n c:Nat) (A:Option Addr) (l:List Int) (w:World) (hn:Hid (l.length=n)) (hl:n<=1000) (hr:Rd w w.heap.size 1 A n (l.map Iv)):
  Calls zp 42 #[.slice A n c] w (Qo l n w):=by
 have ap:∀(kind:List UInt8) (k:Nat) (w':World),k<n->kind.length<=1000->Calls zp 53 #[.string (str kind),.int .i64 ((k:Int)+1)] w' (Cp (sec kind (k+1)) w'):=fun kind k w' hkn hkl=>Ql kind _ (k+1) w' (by rw [IntKind.wrap_u64];omega) (by omega) hkl;go_enter func42,ntmps42;go_wp2
 go_loopw [3,4] (fun s v wr=>∃(k:Nat) (A':Option Addr) (c':Nat),v=.int .i64 (k:Int)/\s=.slice A' k c'/\k<=n/\Own wr w.heap.size 104 5 A' k c' ((Bm 0 (l.take k)).flatMap Cd.cells)/\Fr Non w wr) (fun _ v _=>n-(intOf v).toNat)
 case atStart=>exact ⟨0,none,0,rfl,rfl,by omega,Own.nil _ _ _ _,Fr.refl _ _⟩
 case round=>
  obtain ⟨k,A',c',rfl,rfl,hk,ab,hf⟩:=hrel
  by_cases hlt:k<n
  ·
   obtain ⟨b,a3,v,rfl,hb,hu,hc⟩:=(hr.fr hf zr).at hlt;rw [Ax8] at hu;obtain ⟨mm,a4,rfl⟩:=Option.map_eq_some_iff.1 hu
   have ba:l.take (k+1)=l.take k++[mm]:=by
    obtain ⟨hx,rfl⟩:=List.getElem?_eq_some_iff.1 a4;exact A01 hx
   have a0:(l.take k).length=k:=by rw [List.length_take,hn.out];omega
   have a7:Hid (((Bm 0 (l.take (k+1))).flatMap Cd.cells)=(Bm 0 (l.take k)).flatMap Cd.cells++(Da k mm).cells):=by
    show _=_;rw [ba,Xx,a0,Nat.zero_add,List.flatMap_append,List.flatMap_cons,List.flatMap_nil,List.append_nil]
   obtain ⟨V1,a9⟩:=Aa (sec Gd (k+1));obtain ⟨V2,a8⟩:=Aa (sec Ge (k+1));obtain ⟨V3,bc⟩:=Aa (sec Bz (k+1));have l1:=Hz Gd (k+1);have l2:=Hz Ge (k+1);have l3:=Hz Bz (k+1);have k1:Hid (∀w':World,Calls zp 53 #[.string ⟨#[108,101,97,100]⟩,.int .i64 ((k:Int)+1)] w' (Cp (sec Gd (k+1)) w')):=fun w'=>ap Gd k w' hlt (by decide);have k2:Hid (∀w':World,Calls zp 53 #[.string ⟨#[107,101,101,112]⟩,.int .i64 ((k:Int)+1)] w' (Cp (sec Ge (k+1)) w')):=fun w'=>ap Ge k w' hlt (by decide);have k3:Hid (∀w':World,Calls zp 53 #[.string ⟨#[115,105,103,110]⟩,.int .i64 ((k:Int)+1)] w' (Cp (sec Bz (k+1)) w')):=fun w'=>ap Bz k w' hlt (by decide);have p1:=lh (fun w'=>Jl (sec Gd (k+1)) w' (by omega));have p2:=lh (fun w'=>Jl (sec Ge (k+1)) w' (by omega));have p3:=lh (fun w'=>Jl (sec Bz (k+1)) w' (by omega))
   have ad:Hid ((Da k mm).cells=[.int .i64 ((k:Int)+1),.int .i64 mm,.int .u64 (Sg.pub (sec Gd (k+1)):Int),.int .u64 (Sg.pub (sec Ge (k+1)):Int),.int .u64 (Sg.pub (sec Bz (k+1)):Int)]):=by
    show _=_;unfold Da;exact V9 _ _ _ _ _
   rw [a9.out] at k1 p1 ad l1;rw [a8.out] at k2 p2 ad l2;rw [bc.out] at k3 p3 ad l3;obtain ⟨Q1,a6⟩:=Aa (Sg.pub V1);obtain ⟨Q2,a5⟩:=Aa (Sg.pub V2);obtain ⟨Q3,ay⟩:=Aa (Sg.pub V3);rw [a6.out] at p1 ad;rw [a5.out] at p2 ad;rw [ay.out] at p3 ad;have af:Hid (∀(A2:Option Addr) (c2:Nat) (w2:World),Own w2 w.heap.size 104 5 A2 (k+1) c2 ((Bm 0 (l.take k)).flatMap Cd.cells++[.int .i64 ((k:Int)+1),.int .i64 mm,.int .u64 (Q1:Int),.int .u64 (Q2:Int),.int .u64 (Q3:Int)])->Own w2 w.heap.size 104 5 A2 (k+1) c2 ((Bm 0 (l.take (k+1))).flatMap Cd.cells)):=fun A2 c2 w2 h=>by rw [a7.out,ad.out];exact h
   clear a9 a8 bc a6 a5 ay a7 ad ba a0 a4 hu hn ap;obtain ⟨XS,bj⟩:=Aa ((Bm 0 (l.take k)).flatMap Cd.cells);rw [bj.out] at ab af;have bn:b<w.heap.size:=hb;have ac:cI wr.drew b (a3+k) mm:=hc;have aj:Own wr.drew w.heap.size 104 5 A' k c' XS:=ab;have bl:=hf.drew;go_upto_region 6 with (fail)
   refine wp_region_held_drew (S:=fun w'=>cI w' b (a3+k) mm) (by kernel_rfl) ac (fun _=> ?_);refine tkH 0 ac (h:=?_);(try simp only [zl]);refine tkH 1 ac (h:=?_);(try simp only [zl]);refine tkH 2 ac (h:=?_);(try simp only [zl]);refine tkH 3 ac (h:=?_);(try simp only [zl]);refine tkH 4 ac (h:=?_);(try simp only [zl]);refine tkH 5 ac (h:=?_);(try simp only [zl]);refine tkH 6 ac (h:=?_);(try simp only [zl]);refine tkH 9 ac (h:=?_);(try simp only [zl]);refine tkH 12 ac (h:=?_);(try simp only [zl]);refine Di 7 (by kernel_rfl) rfl (by kernel_rfl) (fun K hK=> ?_);go_simp;go_wp2_with (go_at_call 53;(with_reducible refine (k1.out _).mono ?_);rintro _ v1 ⟨rfl,f1⟩;have a1:=f1.cell ac zq;have ak:=aj.fr f1 zr;have bm:=bl.trans f1 zr);refine hK.out _ _ a1 (fun _=> ?_);clear hK K;try simp only [Ah,zl]
   refine Di 8 (by kernel_rfl) rfl (by kernel_rfl) (fun K hK=> ?_);go_simp;go_wp2_with (go_at_call 90;(with_reducible refine (p1.out _).mono ?_);rintro _ v2 ⟨rfl,f2⟩;have az:=f2.cell a1 zq;have ah:=ak.fr f2 zr;have bi:=bm.trans f2 zr);refine hK.out _ _ az (fun _=> ?_);clear hK K;try simp only [Ah,zl]
   refine Di 10 (by kernel_rfl) rfl (by kernel_rfl) (fun K hK=> ?_);go_simp;go_wp2_with (go_at_call 53;(with_reducible refine (k2.out _).mono ?_);rintro _ v3 ⟨rfl,f3⟩;have be:=f3.cell az zq;have ag:=ah.fr f3 zr;have bh:=bi.trans f3 zr);refine hK.out _ _ be (fun _=> ?_);clear hK K;try simp only [Ah,zl]
   refine Di 11 (by kernel_rfl) rfl (by kernel_rfl) (fun K hK=> ?_);go_simp;go_wp2_with (go_at_call 90;(with_reducible refine (p2.out _).mono ?_);rintro _ v4 ⟨rfl,f4⟩;have aw:=f4.cell be zq;have ae:=ag.fr f4 zr;have bg:=bh.trans f4 zr);refine hK.out _ _ aw (fun _=> ?_);clear hK K;try simp only [Ah,zl]
   refine Di 13 (by kernel_rfl) rfl (by kernel_rfl) (fun K hK=> ?_);go_simp;go_wp2_with (go_at_call 53;(with_reducible refine (k3.out _).mono ?_);rintro _ v5 ⟨rfl,f5⟩;have ax:=f5.cell aw zq;have al:=ae.fr f5 zr;have bk:=bg.trans f5 zr);refine hK.out _ _ ax (fun _=> ?_);clear hK K;try simp only [Ah,zl]
   refine Di 14 (by kernel_rfl) rfl (by kernel_rfl) (fun K hK=> ?_);go_simp;go_wp2_with (go_at_call 90;(with_reducible refine (p3.out _).mono ?_);rintro _ v6 ⟨rfl,f6⟩;have au:=f6.cell ax zq;have ao:=al.fr f6 zr;have a2:=bk.trans f6 zr);refine hK.out _ _ au (fun _=> ?_);clear hK K;try simp only [Ah,zl]
   refine tkH 15 au (h:=?_);(try simp only [zl]);refine Di 16 (by kernel_rfl) rfl (by kernel_rfl) (fun K hK=> ?_);go_simp;have av:=Ox au (.cells #[.int .i64 ((k:Int)+1),.int .i64 mm,.int .u64 (Q1:Int),.int .u64 (Q2:Int),.int .u64 (Q3:Int)] 104);have ai:=ao.alloc (.cells #[.int .i64 ((k:Int)+1),.int .i64 mm,.int .u64 (Q1:Int),.int .u64 (Q2:Int),.int .u64 (Q3:Int)] 104);have aq:=Rd.blk (n:=1) (size:=5) (Blk.new v6 104 #[.int .i64 ((k:Int)+1),.int .i64 mm,.int .u64 (Q1:Int),.int .u64 (Q2:Int),.int .u64 (Q3:Int)]) rfl;refine hK.out _ _ av (fun _=> ?_);clear hK K;go_simp;refine wpAnyH_ready (rs:=[17]) (by kernel_rfl) (by simp) (AllReadyH.cons rfl (fun K hK=> ?_) AllReadyH.nil);refine Ll (base:=w.heap.size) (.tmp 14) (.tmp 30) 26 (by rfl) (by rfl) (by rfl) (by rfl) slCd ai aq (by simp [Value.oneCell']) (by omega) (by omega) (by rw [Ay8];have:=a2.size;omega) ?_;intro A2 c2 w9 ar bb bf;have bd:=bb.cell av (fun e=>by have h:w.heap.size<=b:=(ab.row b e).1;omega);refine hK.out _ _ bd (fun _=> ?_);clear hK K;go_simp;refine tkH 18 bd (h:=?_);(try simp only [zl]);refine oD ?_;go_wp2;go_roundw
   case rel=>exact ⟨k+1,A2,c2,by go_num,rfl,by omega,af.out A2 c2 _ ar,(a2.alloc _).trans bb (fun j hj e=>by have:=(ab.row j e).1;omega)⟩
   case measure=>simp [intOf];omega
  ·
   obtain rfl:k=n:=by omega
   have ht:l.take k=l:=List.take_of_length_le (by rw [hn.out];exact Ax4 _);rw [ht] at ab;go_wp2
   go_ret
   exact ⟨A',c',rfl,ab,hf⟩
end Oq
namespace Oq
structure Pn where
 o:Op
 id:Id
 ps:Nat->Bool
 lev:Nat
def Ai.pn (n:Ai):Pn:=⟨n.x.op,n.id,n.past,n.lev⟩
def Gph.pns (g:Gph):List Pn:=g.nodes.map Ai.pn
def plc (l:List Pn) (id:Id):Option Nat:=l.findIdx? (fun n=>decide (n.id=id))
theorem Gf (l:List Ai) (id:Id):plc (l.map Ai.pn) id=Ak l id:=by
 unfold plc Ak;rw [List.findIdx?_map];rfl
theorem Bk {l:List Pn} {id:Id} {i:Nat} (h:plc l id=some i):∃n,l[i]? =some n/\n.id=id:=by
 obtain ⟨hi,h1,_⟩:=List.findIdx?_eq_some_iff_getElem.1 h;exact ⟨l[i],List.getElem?_eq_getElem hi,by simpa using h1⟩
theorem Dj {l:List Pn} {id:Id} {i:Nat} (h:plc l id=some i):i<l.length:=by
 obtain ⟨n,hn,_⟩:=Bk h;exact (List.getElem?_eq_some_iff.1 hn).1
def C9 (l:List Pn) (ids:List Id) (q:Nat):Bool:=ids.any (fun id=>plc l id==some q)
def upB (l:List Pn) (id:Id) (q:Nat):Bool:=match plc l id with|some i=>(l[i]?.map (fun n=>n.ps q)).getD false|none=>false
def Bd (l:List Pn) (ids:List Id) (q:Nat):Bool:=ids.any (fun id=>upB l id q)
def Cf (l:List Pn) (id:Id):Int:=match plc l id with|some i=>(l[i]?.map (fun n=>n.o.at_)).getD 0|none=>0
def late (l:List Pn) (ids:List Id):Int:=ids.foldl (fun t id=>max t (Cf l id)) 0
def Aj (l:List Pn) (id:Id):Nat:=match plc l id with|some i=>(l[i]?.map (fun n=>n.lev)).getD 0|none=>0
def lvl (l:List Pn) (ids:List Id):Nat:=ids.foldl (fun t id=>max t (Aj l id+1)) 1
def clash (l:List Pn) (ids:List Id):Bool:=(Az4 256).any (fun q=>C9 l ids q&&Bd l ids q)
def Ca (l:List Pn) (p:Nat->Bool) (d:Int):Nat->Int
 |0=>0
 |k+1=>match l[k]? with
  |some n=>if (n.o.by_==d&&p k)=true then max (Ca l p d k) n.o.sq else Ca l p d k
  |none=>Ca l p d k
def Cq (l:List Pn) (p:Nat->Bool) (d s:Int):Nat->Bool
 |0=>false
 |k+1=>match l[k]? with
  |some n=>Cq l p d s k||(n.o.by_==d&&p k&&n.o.sq==s-1)
  |none=>Cq l p d s k
def Aq (l:List Pn) (ids:List Id) (q:Nat):Bool:=decide (q<256)&&(Bd l ids q||C9 l ids q)
def Bn (l:List Pn) (p:Nat->Bool) (o:Op):Bool:=decide (o.sq<=Ca l p o.by_ l.length)||(decide (1<o.sq)&& !Cq l p o.by_ o.sq l.length)
def Op.name (o:Op):Id:=⟨o.by_,o.sq,o.id⟩
def Ct (cards:List Cd) (d:Int):Option Cd:=cards.find? (fun c=>c.d==d)
def An (cards:List Cd) (l:List Pn) (o:Op):Int:=
 if o.chk≠0 then o.chk
 else if (plc l o.name).isSome=true then 5
 else if 200<=l.length then 3
 else match Ct cards o.by_ with
  |none=>17
  |some c=>
   if Sg.check c.s o.bare o.r o.s=false then 12
   else if o.kind=1/\l≠[] then 1
   else if o.past.any (fun id=>(plc l id).isNone)=true then 10
   else if clash l o.past=true\/o.at_<late l o.past then 6
   else if Bn l (Aq l o.past) o=true then 11
   else 0
def Be (l:List Pn) (o:Op):Pn:=⟨o,o.name,Aq l o.past,lvl l o.past⟩
theorem Db {α:Type} {l:List α} {k:Nat} {x:α} (h:l[k]? =some x):l.take (k+1)=l.take k++[x]:=by
 obtain ⟨hk,rfl⟩:=List.getElem?_eq_some_iff.1 h;rw [A01 hk]
theorem Xz (l:List Pn) (ids:List Id) (k:Nat) {id:Id} (h:ids[k]? =some id):C9 l (ids.take (k+1))=fun q=>(plc l id==some q)||C9 l (ids.take k) q:=by
 funext q;unfold C9;rw [Db h,List.any_append];simp [Bool.or_comm]
theorem Qp (l:List Pn) (ids:List Id) (k:Nat) {id:Id} (h:ids[k]? =some id):Bd l (ids.take (k+1))=fun q=>Bd l (ids.take k) q||upB l id q:=by
 funext q;unfold Bd;rw [Db h,List.any_append];simp
theorem Qq (l:List Pn) (ids:List Id) (k:Nat) {id:Id} (h:ids[k]? =some id):late l (ids.take (k+1))=max (late l (ids.take k)) (Cf l id):=by
 unfold late;rw [Db h,A02];rfl
theorem Qr (l:List Pn) (ids:List Id) (k:Nat) {id:Id} (h:ids[k]? =some id):lvl l (ids.take (k+1))=max (lvl l (ids.take k)) (Aj l id+1):=by
 unfold lvl;rw [Db h,A02];rfl
theorem Ya (l:List Pn) (m:Int) (hm:0<=m) (h:∀n∈l,n.o.at_<=m) (ids:List Id):late l ids<=m:=by
 have hat:∀id,Cf l id<=m:=by
  intro id;unfold Cf
  split
  ·
   rename_i i hi;obtain ⟨n,hn,_⟩:=Bk hi;rw [hn];exact h n (Ay2 hn)
  · exact hm
 unfold late
 suffices H:∀(t:Int),t<=m->ids.foldl (fun t id=>max t (Cf l id)) t<=m from H 0 hm
 intro t
 induction ids generalizing t with
 |nil=>intro h;exact h
 |cons id r ih=>intro h;exact ih _ (by have:=hat id;dsimp only;omega)
theorem Qs (l:List Pn) (m:Nat) (h:∀n∈l,n.lev<=m) (ids:List Id):lvl l ids<=m+1:=by
 have hat:∀id,Aj l id<=m:=by
  intro id;unfold Aj
  split
  ·
   rename_i i hi;obtain ⟨n,hn,_⟩:=Bk hi;rw [hn];exact h n (Ay2 hn)
  · omega
 unfold lvl
 suffices H:∀(t:Nat),t<=m+1->ids.foldl (fun t id=>max t (Aj l id+1)) t<=m+1 from H 1 (by omega)
 intro t
 induction ids generalizing t with
 |nil=>intro h;exact h
 |cons id r ih=>intro h;exact ih _ (by have:=hat id;dsimp only;omega)
theorem Yb (ws:List Nat) (h:ws.length=4) (k:Nat) (hk:256<=k):((ws.getD (k/64) 0).testBit (k%64))=false:=by
 rw [List.getD_eq_getElem?_getD,A03 (by omega)];simp
theorem Yc {n:Ai} {m:Nat->Bool} (h:Bj n.ws m):n.past=fun q=>decide (q<256)&&m q:=by
 funext q;unfold Ai.past
 by_cases hq:q<256
 ·
  rw [<- h.bit q hq];simp [hq]
 ·
  rw [Yb n.ws rfl q (by omega)];simp [hq]
theorem Yd {a0 a1 a2 a3:Nat} {m:Nat->Bool} (h:Bj [a0,a1,a2,a3] m):(a0==0&&a1==0&&a2==0&&a3==0)=!(Az4 256).any m:=by
 rw [Az2];simp only [Ax3,beq_iff_eq,Bool.not_eq_true',Az5,List.mem_range];constructor
 ·
  rintro ⟨⟨⟨rfl,rfl⟩,rfl⟩,rfl⟩ q hq;rw [h.bit q hq];have hq4:q/64=0\/q/64=1\/q/64=2\/q/64=3:=by omega
  rcases hq4 with e|e|e|e<;>rw [e]<;>simp
 ·
  intro hz
  have key:∀k,k<4->[a0,a1,a2,a3].getD k 0=0:=by
   intro k hk;refine Nat.eq_of_testBit_eq (fun j=> ?_);rw [Nat.zero_testBit]
   by_cases hj:j<64
   ·
    have h1:=h.bit (64*k+j) (by omega);have h2:=hz (64*k+j) (by omega);rw [show (64*k+j)/64=k by omega,show (64*k+j)%64=j by omega] at h1;rw [<- h1];simpa using h2
   ·
    have hu:=h.u64 k
    exact Nat.testBit_lt_two_pow (A04 hu (by
     have:(2:Nat)^64<=2^j:=Nat.pow_le_pow_right (by decide) (by omega);exact Ay9 (by decide) this))
  exact ⟨⟨⟨key 0 (by omega),key 1 (by omega)⟩,key 2 (by omega)⟩,key 3 (by omega)⟩
inductive Rows (cards:List Cd):List Pn->Prop
 |nil:Rows cards []
 |snoc (l:List Pn) (o:Op):Rows cards l->An cards l o=0->Rows cards (l++[Be l o])
structure Jm (cards:List Cd) (l:List Pn) (o:Op):Prop where
 chk:o.chk=0
 new:plc l o.name=none
 room:l.length<200
 card:(Ct cards o.by_).isSome=true
 past:∀id∈o.past,∃i,plc l id=some i
 clash:clash l o.past=false
 late:late l o.past<=o.at_
 seq:Bn l (Aq l o.past) o=false
theorem G9 {cards:List Cd} {l:List Pn} {o:Op} (h:An cards l o=0):Jm cards l o:=by
 unfold An at h
 by_cases h1:o.chk≠0
 · rw [if_pos h1] at h;exact absurd h h1
 rw [if_neg h1] at h
 by_cases h2:(plc l o.name).isSome=true
 · rw [if_pos h2] at h;omega
 rw [if_neg h2] at h
 by_cases h3:200<=l.length
 · rw [if_pos h3] at h;omega
 rw [if_neg h3] at h
 cases hc:Ct cards o.by_ with
 |none=>rw [hc] at h;dsimp only at h;omega
 |some c=>
  rw [hc] at h;dsimp only at h
  by_cases h4:Sg.check c.s o.bare o.r o.s=false
  · rw [if_pos h4] at h;omega
  rw [if_neg h4] at h
  by_cases h5:o.kind=1/\l≠[]
  · rw [if_pos h5] at h;omega
  rw [if_neg h5] at h
  by_cases h6:o.past.any (fun id=>(plc l id).isNone)=true
  · rw [if_pos h6] at h;omega
  rw [if_neg h6] at h
  by_cases h7:Oq.clash l o.past=true\/o.at_<Oq.late l o.past
  · rw [if_pos h7] at h;omega
  rw [if_neg h7] at h
  by_cases h8:Bn l (Aq l o.past) o=true
  · rw [if_pos h8] at h;omega
  refine ⟨Decidable.not_not.1 h1,?_,by omega,by rw [hc];rfl,?_,?_,?_,Bool.not_eq_true _▸h8⟩
  ·
   cases hp:plc l o.name with
   |none=>rfl
   |some i=>rw [hp] at h2;exact absurd rfl h2
  ·
   intro id hid
   cases hp:plc l id with
   |some i=>exact ⟨i,rfl⟩
   |none=>exact absurd (List.any_eq_true.2 ⟨id,hid,by rw [hp];rfl⟩) h6
  ·
   cases hcl:Oq.clash l o.past with
   |false=>rfl
   |true=>exact absurd (Or.inl hcl) h7
  · exact Int.not_lt.1 (fun hh=>h7 (Or.inr hh))
theorem E4 {l:List Pn} {id:Id} {i:Nat} (n:Pn) (h:plc l id=some i):plc (l++[n]) id=some i:=by
 unfold plc at h ⊢;rw [A05,h];rfl
theorem Ye {l:List Pn} {n:Pn} (h:plc l n.id=none):plc (l++[n]) n.id=some l.length:=by
 unfold plc at h ⊢;rw [A05,h];simp
theorem Jn {l:List Pn} {p:Nat} {m n:Pn} (h:l[p]? =some m):(l++[n])[p]? =some m:=by
 obtain ⟨hp,hm⟩:=List.getElem?_eq_some_iff.1 h;rw [Ax5 hp];exact h
structure NOk (cards:List Cd) (l:List Pn) (i:Nat) (n:Pn):Prop where
 id:n.id=n.o.name
 plc:plc l n.id=some i
 chk:n.o.chk=0
 card:(Ct cards n.o.by_).isSome=true
 par:∀id∈n.o.past,∃p,p<i/\Oq.plc l id=some p
 lt:∀q,n.ps q=true->q<i
 ps:∀q,n.ps q=true<->∃id∈n.o.past,∃p m,Oq.plc l id=some p/\l[p]? =some m/\(q=p\/m.ps q=true)
 anti:∀id∈n.o.past,∀id'∈n.o.past,∀p p' m,Oq.plc l id=some p->Oq.plc l id'=some p'->l[p]? =some m->m.ps p'=false
 late:∀id∈n.o.past,∀p m,Oq.plc l id=some p->l[p]? =some m->m.o.at_<=n.o.at_
 lev:n.lev=lvl l n.o.past
 seqs:∀q m,n.ps q=true->l[q]? =some m->m.o.by_=n.o.by_->m.o.sq<n.o.sq
 one:n.o.sq=1\/∃q m,n.ps q=true/\l[q]? =some m/\m.o.by_=n.o.by_/\m.o.sq=n.o.sq-1
theorem Ms {l l':List Pn} {ids:List Id} (h:∀id∈ids,Aj l' id=Aj l id):lvl l' ids=lvl l ids:=by
 unfold lvl
 suffices H:∀t:Nat,ids.foldl (fun t id=>max t (Aj l' id+1)) t=ids.foldl (fun t id=>max t (Aj l id+1)) t from H 1
 induction ids with
 |nil=>intro t;rfl
 |cons x r ih=>intro t;rw [List.foldl_cons,List.foldl_cons,h x Az6];exact ih (fun y hy=>h y (Az7 _ hy)) _
theorem NOk.keep {cards:List Cd} {l:List Pn} {i:Nat} {n n':Pn} (h:NOk cards l i n) (hi:l[i]? =some n):NOk cards (l++[n']) i n:=by
 have hil:i<l.length:=(List.getElem?_eq_some_iff.1 hi).1
 have hpar:∀id∈n.o.past,∀p,Oq.plc (l++[n']) id=some p->Oq.plc l id=some p:=by
  intro id hid p hp;obtain ⟨q,_,hq⟩:=h.par id hid;rw [E4 n' hq] at hp;injection hp with hp
  subst hp;exact hq
 have hat:∀id∈n.o.past,∀p m,Oq.plc l id=some p->(l++[n'])[p]? =some m->l[p]? =some m:=by
  intro id hid p m hp hm;rw [Ax5 (Dj hp)] at hm;exact hm
 have hlow:∀q m,n.ps q=true->(l++[n'])[q]? =some m->l[q]? =some m:=by
  intro q m hq hm;rw [Ax5 (Nat.lt_trans (h.lt q hq) hil)] at hm;exact hm
 refine ⟨h.id,E4 n' h.plc,h.chk,h.card,fun id hid=> ?_,h.lt,fun q=>(h.ps q).trans ⟨?_,?_⟩,?_,?_,?_,?_,?_⟩
 ·
  obtain ⟨p,hp,hq⟩:=h.par id hid;exact ⟨p,hp,E4 n' hq⟩
 ·
  rintro ⟨id,hid,p,m,h1,h2,h3⟩;exact ⟨id,hid,p,m,E4 n' h1,Jn h2,h3⟩
 ·
  rintro ⟨id,hid,p,m,h1,h2,h3⟩;have h1':=hpar id hid p h1;exact ⟨id,hid,p,m,h1',hat id hid p m h1' h2,h3⟩
 ·
  intro id hid id' hid' p p' m h1 h2 h3;have h1':=hpar id hid p h1;exact h.anti id hid id' hid' p p' m h1' (hpar id' hid' p' h2) (hat id hid p m h1' h3)
 ·
  intro id hid p m h1 h2;have h1':=hpar id hid p h1;exact h.late id hid p m h1' (hat id hid p m h1' h2)
 ·
  rw [h.lev];refine (Ms (fun id hid=> ?_)).symm;obtain ⟨p,_,hq⟩:=h.par id hid;unfold Aj;rw [E4 n' hq,hq];dsimp only;rw [Ax5 (Dj hq)]
 ·
  intro q m hq hm;exact h.seqs q m hq (hlow q m hq hm)
 ·
  rcases h.one with h1|⟨q,m,h1,h2,h3⟩
  · exact .inl h1
  · exact .inr ⟨q,m,h1,Jn h2,h3⟩
theorem upB_iff {l:List Pn} {id:Id} {q:Nat}:upB l id q=true<->∃p m,plc l id=some p/\l[p]? =some m/\m.ps q=true:=by
 unfold upB;constructor
 ·
  intro h
  split at h
  ·
   rename_i p hp;obtain ⟨m,hm,_⟩:=Bk hp;rw [hm] at h;exact ⟨p,m,hp,hm,h⟩
  · cases h
 ·
  rintro ⟨p,m,h1,h2,h3⟩;rw [h1];dsimp only;rw [h2];exact h3
theorem Mt {l:List Pn} {ids:List Id} (hlen:l.length<=200) (hlt:∀(p:Nat) (m:Pn),l[p]? =some m->∀q,m.ps q=true->q<p) (q:Nat):
  Aq l ids q=true<->∃id∈ids,∃p m,plc l id=some p/\l[p]? =some m/\(q=p\/m.ps q=true):=by
 unfold Aq Bd C9;rw [Ax3,Ay3,Az8,Az8,decide_eq_true_eq];constructor
 ·
  rintro ⟨_,⟨id,hid,h⟩|⟨id,hid,h⟩⟩
  ·
   obtain ⟨p,m,h1,h2,h3⟩:=upB_iff.1 h;exact ⟨id,hid,p,m,h1,h2,.inr h3⟩
  ·
   have h1:plc l id=some q:=by simpa using h
   obtain ⟨m,hm,_⟩:=Bk h1;exact ⟨id,hid,q,m,h1,hm,.inl rfl⟩
 ·
  rintro ⟨id,hid,p,m,h1,h2,h3⟩;have hp:=Dj h1
  rcases h3 with rfl|h3
  · exact ⟨by omega,.inr ⟨id,hid,by rw [h1];exact beq_self_eq_true _⟩⟩
  ·
   have:=hlt p m h2 q h3;exact ⟨by omega,.inl ⟨id,hid,upB_iff.2 ⟨p,m,h1,h2,h3⟩⟩⟩
theorem Qt {l:List Pn} {ids:List Id} {id:Id} (h:id∈ids):Cf l id<=late l ids:=by
 unfold late
 have mono:∀(r:List Id) (t:Int),t<=r.foldl (fun t id=>max t (Cf l id)) t:=by
  intro r
  induction r with
  |nil=>intro t;exact Int.le_refl _
  |cons y r ih=>intro t;exact Ax9 (Az9 _ _) (ih _)
 suffices H:∀t:Int,Cf l id<=ids.foldl (fun t id=>max t (Cf l id)) t from H 0
 induction ids with
 |nil=>cases h
 |cons x r ih=>
  intro t
  rcases List.mem_cons.1 h with rfl|h'
  · exact Ax9 (Int.le_max_right t _) (mono r _)
  · exact ih h' _
theorem Qu {l:List Pn} {ids:List Id} {id:Id} (h:id∈ids):Aj l id+1<=lvl l ids:=by
 unfold lvl
 have mono:∀(r:List Id) (t:Nat),t<=r.foldl (fun t id=>max t (Aj l id+1)) t:=by
  intro r
  induction r with
  |nil=>intro t;exact Ax4 _
  |cons y r ih=>intro t;exact Ay9 (Nat.le_max_left _ _) (ih _)
 suffices H:∀t:Nat,Aj l id+1<=ids.foldl (fun t id=>max t (Aj l id+1)) t from H 1
 induction ids with
 |nil=>cases h
 |cons x r ih=>
  intro t
  rcases List.mem_cons.1 h with rfl|h'
  · exact Ay9 (Nat.le_max_right t _) (mono r _)
  · exact ih h' _
theorem Fq {l:List Pn} {id:Id} {p:Nat} {m:Pn} (h1:plc l id=some p) (h2:l[p]? =some m):Cf l id=m.o.at_:=by
 unfold Cf;rw [h1];dsimp only;rw [h2];rfl
theorem Ew {l:List Pn} {id:Id} {p:Nat} {m:Pn} (h1:plc l id=some p) (h2:l[p]? =some m):Aj l id=m.lev:=by
 unfold Aj;rw [h1];dsimp only;rw [h2];rfl
theorem Mu {l:List Pn} {p:Nat->Bool} {d:Int}:∀{K k:Nat} {m:Pn},k<K->l[k]? =some m->m.o.by_=d->p k=true->m.o.sq<=Ca l p d K:=by
 intro K
 induction K with
 |zero=>intro k m h;omega
 |succ K ih=>
  intro k m h hm hd hp;unfold Ca
  rcases Ay4 k K with hk|hk
  ·
   have:=ih hk hm hd hp
   split
   ·
    split
    · exact Ax9 this (Az9 _ _)
    · exact this
   · exact this
  ·
   have e:k=K:=by omega
   subst e;rw [hm];dsimp only;rw [if_pos (by rw [Ax3];exact ⟨beq_iff_eq.2 hd,hp⟩)];exact Int.le_max_right _ _
theorem aheadTo_iff {l:List Pn} {p:Nat->Bool} {d s:Int}:∀{K:Nat},Cq l p d s K=true<->∃k m,k<K/\l[k]? =some m/\m.o.by_=d/\p k=true/\m.o.sq=s-1:=by
 intro K
 induction K with
 |zero=>exact ⟨fun h=>(by cases h),fun ⟨k,m,h,_⟩=>by omega⟩
 |succ K ih=>
  unfold Cq
  cases hK:l[K]? with
  |none=>
   dsimp only;rw [ih];constructor
   ·
    rintro ⟨k,m,h,h'⟩;exact ⟨k,m,by omega,h'⟩
   ·
    rintro ⟨k,m,h,h1,h'⟩;have:k≠K:=fun e=>by subst e;rw [hK] at h1;cases h1
    exact ⟨k,m,by omega,h1,h'⟩
  |some n=>
   dsimp only;rw [Ay3,ih,Ax3,Ax3,beq_iff_eq,beq_iff_eq];constructor
   ·
    rintro (⟨k,m,h,h'⟩|⟨⟨h1,h2⟩,h3⟩)
    · exact ⟨k,m,by omega,h'⟩
    · exact ⟨K,n,by omega,hK,h1,h2,h3⟩
   ·
    rintro ⟨k,m,h,h1,h2,h3,h4⟩
    rcases Ay4 k K with hk|hk
    · exact .inl ⟨k,m,hk,h1,h2,h3,h4⟩
    ·
     have e:k=K:=by omega
     subst e;rw [hK] at h1;injection h1 with h1
     subst h1;exact .inr ⟨⟨h2,h3⟩,h4⟩
theorem Qw {cards:List Cd} {l:List Pn} {o:Op} (hl:∀i n,l[i]? =some n->NOk cards l i n) (T:Jm cards l o):NOk cards (l++[Be l o]) l.length (Be l o):=by
 have al:∀(p:Nat) (m:Pn),l[p]? =some m->∀q,m.ps q=true->q<p:=fun p m hm=>(hl p m hm).lt;have ai:=Mt (ids:=o.past) (Nat.le_of_lt T.room) al
 have ac:∀id∈o.past,∀p,plc (l++[Be l o]) id=some p->plc l id=some p:=by
  intro id aa p hp;obtain ⟨q,hq⟩:=T.past id aa;rw [E4 _ hq] at hp;injection hp with hp
  subst hp;exact hq
 have ah:∀id∈o.past,∀p m,plc l id=some p->(l++[Be l o])[p]? =some m->l[p]? =some m:=by
  intro id aa p m hp hm;rw [Ax5 (Dj hp)] at hm;exact hm
 have af:∀q,Aq l o.past q=true->q<l.length:=by
  intro q hq;obtain ⟨id,aa,p,m,h1,h2,h3⟩:=(ai q).1 hq;have:=Dj h1
  rcases h3 with rfl|h3
  · exact this
  ·
   have:=al p m h2 q h3;omega
 have ab:=T.seq;unfold Bn at ab;rw [Bool.or_eq_false_iff,decide_eq_false_iff_not] at ab;refine ⟨rfl,Ye (n:=Be l o) T.new,T.chk,T.card,?_,af,fun q=>(ai q).trans ⟨?_,?_⟩,?_,?_,?_,?_,?_⟩
 ·
  intro id aa;obtain ⟨p,hp⟩:=T.past id aa;exact ⟨p,Dj hp,E4 _ hp⟩
 ·
  rintro ⟨id,aa,p,m,h1,h2,h3⟩;exact ⟨id,aa,p,m,E4 _ h1,Jn h2,h3⟩
 ·
  rintro ⟨id,aa,p,m,h1,h2,h3⟩;have ad:=ac id aa p h1;exact ⟨id,aa,p,m,ad,ah id aa p m ad h2,h3⟩
 ·
  intro id aa aj ae p p' m h1 h2 h3;have ad:=ac id aa p h1;have ag:=ac aj ae p' h2;have ap:=ah id aa p m ad h3;have ao:=T.room;have aq:=Dj ag;have hc:=T.clash;unfold Oq.clash at hc;rw [Az5] at hc;have hq:=hc p' (List.mem_range.2 (by omega))
  cases hm:m.ps p' with
  |false=>rfl
  |true=>
   refine absurd ?_ hq;rw [Ax3];exact ⟨List.any_eq_true.2 ⟨aj,ae,by rw [ag];exact beq_self_eq_true _⟩,List.any_eq_true.2 ⟨id,aa,upB_iff.2 ⟨p,m,ad,ap,hm⟩⟩⟩
 ·
  intro id aa p m h1 h2;have ad:=ac id aa p h1;have ag:=ah id aa p m ad h2;have:=Qt (l:=l) aa;rw [Fq ad ag] at this;exact Ax9 this T.late
 ·
  refine (Ms (l:=l) (l':=l++[Be l o]) (fun id aa=> ?_)).symm;obtain ⟨p,hq⟩:=T.past id aa;unfold Aj;rw [E4 _ hq,hq];dsimp only;rw [Ax5 (Dj hq)]
 ·
  intro q m hq hm hb;have ak:=af q hq;rw [Ax5 ak] at hm;have:=Mu (p:=Aq l o.past) ak hm hb hq;exact Int.lt_of_le_of_lt this (Int.not_le.1 ab.1)
 ·
  rcases Int.lt_or_le 1 o.sq with h1|h1
  ·
   have h2:=ab.2;rw [Bool.and_eq_false_iff] at h2
   rcases h2 with h2|h2
   ·
    rw [decide_eq_false_iff_not] at h2;exact absurd h1 h2
   ·
    have h3:Cq l (Aq l o.past) o.by_ o.sq l.length=true:=by
     cases ha:Cq l (Aq l o.past) o.by_ o.sq l.length with
     |true=>rfl
     |false=>rw [ha] at h2;cases h2
    obtain ⟨k,m,hk,hm,hb,hp,hs⟩:=aheadTo_iff.1 h3;exact .inr ⟨k,m,hp,Jn hm,hb,hs⟩
  ·
   refine .inl ?_
   have h0:∀K,0<=Ca l (Aq l o.past) o.by_ K:=by
    intro K
    induction K with
    |zero=>exact Int.le_refl _
    |succ K ih=>
     unfold Ca
     split
     ·
      split
      · exact Ax9 ih (Az9 _ _)
      · exact ih
     · exact ih
   have h2:=h0 l.length;have h3:=Int.not_le.1 ab.1;have h4:(Be l o).o.sq=o.sq:=rfl;rw [h4];omega
theorem Rows.ok {cards:List Cd} {l:List Pn} (h:Rows cards l):∀i n,l[i]? =some n->NOk cards l i n:=by
 induction h with
 |nil=>intro i n h;simp at h
 |snoc l o hl ho ih=>
  intro i n hi
  rcases Ay4 i l.length with hlt|hge
  ·
   rw [Ax5 hlt] at hi;exact (ih i n hi).keep hi
  ·
   rw [List.getElem?_append_right hge] at hi
   have e:i-l.length=0:=by
    rcases Nat.eq_zero_or_pos (i-l.length) with h0|h0
    · exact h0
    · rw [A03 (by simp;omega)] at hi;cases hi
   rw [e] at hi;injection hi with hi
   subst hi;have:i=l.length:=by omega
   subst this;exact Qw ih (G9 ho)
theorem Rows.few {cards:List Cd} {l:List Pn} (h:Rows cards l):l.length<=200:=by
 induction h with
 |nil=>simp
 |snoc l o hl ho ih=>
  have:=(G9 ho).room;simp;omega
theorem Rows.trans {cards:List Cd} {l:List Pn} (h:Rows cards l):∀(i:Nat) {n m:Pn} {q r:Nat},l[i]? =some n->n.ps q=true->l[q]? =some m->m.ps r=true->n.ps r=true:=by
 intro i
 induction i using Az0 with
 |_ i ih=>
  intro n m q r hn hq hm hr;have k:=h.ok i n hn;obtain ⟨id,hid,p,m',h1,h2,h3⟩:=(k.ps q).1 hq;refine (k.ps r).2 ⟨id,hid,p,m',h1,h2,.inr ?_⟩
  rcases h3 with rfl|h3
  ·
   rw [h2] at hm;injection hm with hm
   subst hm;exact hr
  ·
   obtain ⟨p2,hp2,e⟩:=k.par id hid;rw [h1] at e;injection e with e
   subst e;exact ih p hp2 h2 h3 hm hr
theorem Rows.at_le {cards:List Cd} {l:List Pn} (h:Rows cards l):∀(i:Nat) {n m:Pn} {q:Nat},l[i]? =some n->n.ps q=true->l[q]? =some m->m.o.at_<=n.o.at_:=by
 intro i
 induction i using Az0 with
 |_ i ih=>
  intro n m q hn hq hm;have k:=h.ok i n hn;obtain ⟨id,hid,p,m',h1,h2,h3⟩:=(k.ps q).1 hq;have hl:=k.late id hid p m' h1 h2
  rcases h3 with rfl|h3
  ·
   rw [h2] at hm;injection hm with hm
   subst hm;exact hl
  ·
   obtain ⟨p2,hp2,e⟩:=k.par id hid;rw [h1] at e;injection e with e
   subst e;exact Ax9 (ih p hp2 h2 h3 hm) hl
theorem Rows.lev_lt {cards:List Cd} {l:List Pn} (h:Rows cards l):∀(i:Nat) {n m:Pn} {q:Nat},l[i]? =some n->n.ps q=true->l[q]? =some m->m.lev<n.lev:=by
 intro i
 induction i using Az0 with
 |_ i ih=>
  intro n m q hn hq hm;have k:=h.ok i n hn;obtain ⟨id,hid,p,m',h1,h2,h3⟩:=(k.ps q).1 hq;have hl:=Qu (l:=l) hid;rw [Ew h1 h2,<- k.lev] at hl
  rcases h3 with rfl|h3
  ·
   rw [h2] at hm;injection hm with hm
   subst hm;omega
  ·
   obtain ⟨p2,hp2,e⟩:=k.par id hid;rw [h1] at e;injection e with e
   subst e;have:=ih p hp2 h2 h3 hm;omega
theorem Rows.node {cards:List Cd} {l:List Pn} (h:Rows cards l) {i:Nat} {n:Pn} {id:Id} (hn:l[i]? =some n):plc l id=some i<->n.id=id:=by
 constructor
 ·
  intro hp;obtain ⟨m,hm,e⟩:=Bk hp;rw [hn] at hm;injection hm with hm
  subst hm;exact e
 ·
  rintro rfl;exact (h.ok i n hn).plc
def Ap (l:List Pn) (ids:List Id):List Nat:=ids.map (fun id=>(plc l id).getD 0)
def Gg (l:List Pn):List (List Nat):=l.map (fun n=>Ap l n.o.past)
def Cb (n:Nat) (p:Nat->Bool):List Bool:=(Az4 n).map p
def Ea (l:List Pn):List (List Bool):=l.map (fun n=>Cb l.length n.ps)
theorem Ha (n:Nat) (p:Nat->Bool):(Cb n p).length=n:=by simp [Cb]
theorem Qx {n:Nat} {p:Nat->Bool} {k:Nat} (h:k<n):(Cb n p)[k]? =some (p k):=by simp [Cb,h]
theorem Qy (n:Nat) (p:Nat->Bool):Cb (n+1) p=Cb n p++[p n]:=by simp [Cb,List.range_succ]
theorem Yf (l:List Pn):(Ea l).length=l.length:=by simp [Ea]
theorem Yg {l:List Pn} {i:Nat} {n:Pn} (h:l[i]? =some n):(Gg l)[i]? =some (Ap l n.o.past):=by simp [Gg,h]
theorem Qz {l:List Pn} {i:Nat} {n:Pn} (h:l[i]? =some n):(Ea l)[i]? =some (Cb l.length n.ps):=by simp [Ea,h]
theorem Gh (l:List Pn) (ids:List Id):(Ap l ids).length=ids.length:=by simp [Ap]
theorem Mv {l:List Pn} {ids:List Id} (h:∀id∈ids,∃p,plc l id=some p):∀q∈Ap l ids,q<l.length:=by
 intro q hq;obtain ⟨id,hid,rfl⟩:=List.mem_map.1 hq;obtain ⟨p,hp⟩:=h id hid;rw [hp];exact Dj hp
theorem Jo {l:List Pn} {ids:List Id} (h:∀id∈ids,∃p,plc l id=some p) (q:Nat):q∈Ap l ids<->∃id∈ids,plc l id=some q:=by
 unfold Ap;rw [List.mem_map];constructor
 ·
  rintro ⟨id,hid,rfl⟩;obtain ⟨p,hp⟩:=h id hid;exact ⟨id,hid,by rw [hp];rfl⟩
 ·
  rintro ⟨id,hid,hq⟩;exact ⟨id,hid,by rw [hq];rfl⟩
theorem NOk.placed {cards:List Cd} {l:List Pn} {i:Nat} {n:Pn} (h:NOk cards l i n):∀id∈n.o.past,∃p,Oq.plc l id=some p:=fun id hid=>by
 obtain ⟨p,_,hp⟩:=h.par id hid;exact ⟨p,hp⟩
theorem Yh {cards:List Cd} {l:List Pn} {o:Op} (h:Rows cards l) (T:Jm cards l o):Gg (l++[Be l o])=Gg l++[Ap l o.past]:=by
 have key:∀ids:List Id,(∀id∈ids,∃p,plc l id=some p)->Ap (l++[Be l o]) ids=Ap l ids:=by
  intro ids hids;unfold Ap;refine A00 (fun id hid=> ?_);obtain ⟨p,hp⟩:=hids id hid;rw [E4 _ hp,hp]
 unfold Gg;rw [List.map_append,List.map_cons,List.map_nil];have h1:Ap (l++[Be l o]) (Be l o).o.past=Ap l o.past:=key _ T.past;rw [h1];congr 1;refine A00 (fun n hn=> ?_);obtain ⟨i,hi⟩:=A06 hn;exact key _ (h.ok i n hi).placed
theorem Yi {cards:List Cd} {l:List Pn} {o:Op} (h:Rows cards l) (T:Jm cards l o):Ea (l++[Be l o])=(Ea l).map (· ++[false])++[Cb l.length (Aq l o.past)++[false]]:=by
 have hn:=(Qw h.ok T).lt;unfold Ea;rw [List.map_append,List.map_cons,List.map_nil,List.map_map,List.length_append,List.length_singleton];congr 1
 ·
  refine A00 (fun n hm=> ?_);obtain ⟨i,hi⟩:=A06 hm;have hil:i<l.length:=(List.getElem?_eq_some_iff.1 hi).1;show Cb (l.length+1) n.ps=Cb l.length n.ps++[false];rw [Qy]
  have:n.ps l.length=false:=by
   cases hp:n.ps l.length with
   |false=>rfl
   |true=>have:=(h.ok i n hi).lt _ hp;omega
  rw [this]
 ·
  have:(Be l o).ps l.length=false:=by
   cases hp:(Be l o).ps l.length with
   |false=>rfl
   |true=>have:=hn _ hp;omega
  rw [Qy,this];rfl
def Dl (up:List Nat) (i:Nat) (s:Nat->Bool):Nat->Bool:=fun q=>s q||(decide (q=i)&&up.contains i)
def Eb (us:Nat->List Nat) (up:List Nat) (i:Nat) (s:Nat->Bool):Nat->Bool:=
 fun q=>Dl up i s q||(Dl up i s i&&(us i).contains q)
def Dt (us:Nat->List Nat) (up:List Nat):Nat->(Nat->Bool)->(Nat->Bool)
 |0,s=>s
 |i+1,s=>Dt us up i (Eb us up i s)
theorem Yj (us:Nat->List Nat) (up:List Nat) (P:Nat->Bool) (h1:∀q∈up,P q=true) (h2:∀j,P j=true->∀q∈us j,P q=true) (h3:∀j,∀q∈us j,q<j):
  ∀(i:Nat) (s:Nat->Bool),(∀q,s q=true->P q=true)->(∀q∈up,i<=q->s q=true)->(∀j,i<=j->s j=true->∀q∈us j,s q=true)->
  (∀q,Dt us up i s q=true->P q=true)/\(∀q∈up,Dt us up i s q=true)/\(∀j,Dt us up i s j=true->∀q∈us j,Dt us up i s q=true):=by
 intro i
 induction i with
 |zero=>intro s a b c;exact ⟨a,fun q hq=>b q hq (Nat.zero_le _),fun j=>c j (Nat.zero_le _)⟩
 |succ i ih=>
  intro s a b c
  have hm:∀q,Dl up i s q=true<->s q=true\/(q=i/\i∈up):=by
   intro q;unfold Dl;rw [Ay3,Ax3,decide_eq_true_eq,A07]
  have hs:∀q,Eb us up i s q=true<->Dl up i s q=true\/(Dl up i s i=true/\q∈us i):=by
   intro q;unfold Eb;rw [Ay3,Ax3,A07]
  have hmP:∀q,Dl up i s q=true->P q=true:=by
   intro q hq
   rcases (hm q).1 hq with h|⟨rfl,h⟩
   · exact a q h
   · exact h1 q h
  refine ih (Eb us up i s) ?_ ?_ ?_
  ·
   intro q hq
   rcases (hs q).1 hq with h|⟨h,h'⟩
   · exact hmP q h
   · exact h2 i (hmP i h) q h'
  ·
   intro q hq hiq;refine (hs q).2 (.inl ((hm q).2 ?_))
   rcases Ay4 i q with h|h
   · exact .inl (b q hq h)
   ·
    have e:q=i:=by omega
    subst e;exact .inr ⟨rfl,hq⟩
  ·
   intro j hij hj q hq
   rcases Ay4 i j with h|h
   ·
    have hsj:s j=true:=by
     rcases (hs j).1 hj with h'|⟨_,h'⟩
     ·
      rcases (hm j).1 h' with h''|⟨e,_⟩
      · exact h''
      · omega
     ·
      have:=h3 i j h';omega
    exact (hs q).2 (.inl ((hm q).2 (.inl (c j h hsj q hq))))
   ·
    have e:j=i:=by omega
    subst e;refine (hs q).2 (.inr ⟨?_,hq⟩)
    rcases (hs j).1 hj with h'|⟨h',_⟩
    · exact h'
    · exact h'
def Bt (l:List Pn) (i:Nat):List Nat:=match l[i]? with|some n=>Ap l n.o.past|none=>[]
theorem Jp {l:List Pn} {i:Nat} {n:Pn} (h:l[i]? =some n):Bt l i=Ap l n.o.past:=by
 unfold Bt;rw [h]
theorem Yk {cards:List Cd} {l:List Pn} (h:Rows cards l) {ids:List Id} (hids:∀id∈ids,∃p,plc l id=some p) (q:Nat):
  Dt (Bt l) (Ap l ids) l.length (fun _=>false) q=Aq l ids q:=by
 have hlt:∀(p:Nat) (m:Pn),l[p]? =some m->∀q,m.ps q=true->q<p:=fun p m hm=>(h.ok p m hm).lt;have hps:=Mt (ids:=ids) h.few hlt
 have hus:∀j q,q∈Bt l j->∃n,l[j]? =some n/\∃id∈n.o.past,plc l id=some q:=by
  intro j q hq
  cases hj:l[j]? with
  |none=>unfold Bt at hq;rw [hj] at hq;cases hq
  |some n=>
   rw [Jp hj,Jo (h.ok j n hj).placed] at hq;exact ⟨n,rfl,hq⟩
 have hps1:∀j n,l[j]? =some n->∀q∈Bt l j,n.ps q=true:=by
  intro j n hj q hq;obtain ⟨n',hn',id,hid,hp⟩:=hus j q hq;rw [hj] at hn';injection hn' with e
  subst e;obtain ⟨m,hm,_⟩:=Bk hp;exact ((h.ok j n hj).ps q).2 ⟨id,hid,q,m,hp,hm,.inl rfl⟩
 obtain ⟨a,b,c⟩:=Yj (Bt l) (Ap l ids) (Aq l ids) (by
   intro q hq;obtain ⟨id,hid,hp⟩:=(Jo hids q).1 hq;obtain ⟨m,hm,_⟩:=Bk hp;exact (hps q).2 ⟨id,hid,q,m,hp,hm,.inl rfl⟩) (by
   intro j hj q hq;obtain ⟨n,hn,_⟩:=hus j q hq;have hnq:=hps1 j n hn q hq;obtain ⟨id,hid,p,m,h1,h2,h3⟩:=(hps j).1 hj;refine (hps q).2 ⟨id,hid,p,m,h1,h2,.inr ?_⟩
   rcases h3 with rfl|h3
   ·
    rw [hn] at h2;injection h2 with e
    subst e;exact hnq
   · exact h.trans p h2 h3 hn hnq) (by
   intro j q hq;obtain ⟨n,hn,id,hid,hp⟩:=hus j q hq;obtain ⟨p,hpj,hp'⟩:=(h.ok j n hn).par id hid;rw [hp] at hp';injection hp' with e
   omega) l.length (fun _=>false) (fun q hq=>by cases hq) (fun q hq hle=>by have:=Mv hids q hq;omega) (fun j _ hj=>by cases hj)
 rw [Az2];refine ⟨a q,fun hq=> ?_⟩;obtain ⟨id,hid,p,m,h1,h2,h3⟩:=(hps q).1 hq;have hp:=b p ((Jo hids p).2 ⟨id,hid,h1⟩)
 have down:∀(j:Nat) (n:Pn) (r:Nat),l[j]? =some n->Dt (Bt l) (Ap l ids) l.length (fun _=>false) j=true->n.ps r=true->Dt (Bt l) (Ap l ids) l.length (fun _=>false) r=true:=by
  intro j
  induction j using Az0 with
  |_ j ih=>
   intro n r hn hj hr;obtain ⟨id',hid',p',m',k1,k2,k3⟩:=((h.ok j n hn).ps r).1 hr;have hp':p'∈Bt l j:=by rw [Jp hn,Jo (h.ok j n hn).placed];exact ⟨id',hid',k1⟩
   have hd:=c j hj p' hp'
   rcases k3 with rfl|k3
   · exact hd
   ·
    obtain ⟨p2,hp2,e⟩:=(h.ok j n hn).par id' hid';rw [k1] at e;injection e with e
    exact ih p' (by omega) m' r k2 hd k3
 rcases h3 with rfl|h3
 · exact hp
 · exact down p m q h2 hp h3
theorem Yl {l:List Pn} {p:Nat->Bool} {o:Op} {k:Nat} {m:Pn} (hm:l[k]? =some m) (hb:m.o.by_=o.by_) (hp:p k=true) (hs:o.sq<=m.o.sq):Bn l p o=true:=by
 unfold Bn;rw [Ay3];have hk:k<l.length:=(List.getElem?_eq_some_iff.1 hm).1;exact .inl (decide_eq_true (Ax9 hs (Mu hk hm hb hp)))
theorem Ym {l:List Pn} {p:Nat->Bool} {o:Op} (h1:1<=o.sq) (h:∀k m,l[k]? =some m->m.o.by_=o.by_->p k=true->m.o.sq<o.sq):
  Bn l p o=!((o.sq==1)||Cq l p o.by_ o.sq l.length):=by
 have hl:∀K,Ca l p o.by_ K<o.sq:=by
  intro K
  induction K with
  |zero=>exact h1
  |succ K ih=>
   unfold Ca
   split
   ·
    rename_i n hn
    split
    ·
     rename_i hc;rw [Ax3,beq_iff_eq] at hc;have:=h K n hn hc.1 hc.2;exact Int.max_lt.2 ⟨ih,this⟩
    · exact ih
   · exact ih
 unfold Bn;rw [decide_eq_false (Int.not_le.2 (hl _)),Bool.false_or]
 rcases Int.lt_or_le 1 o.sq with h2|h2
 ·
  rw [decide_eq_true h2,beq_eq_false_iff_ne.2 (fun e=>by omega)];rfl
 ·
  rw [decide_eq_false (Int.not_lt.2 h2),beq_iff_eq.2 (by omega)];rfl
theorem Yn {l:List Pn} {ids:List Id} (hlen:l.length<=200) {a b:Id} (ha:a∈ids) (hb:b∈ids) {p r:Nat} {m:Pn} (h1:plc l a=some p) (h2:plc l b=some r) (h3:l[p]? =some m) (h4:m.ps r=true):clash l ids=true:=by
 unfold clash;rw [Az8];have:=Dj h2;refine ⟨r,List.mem_range.2 (by omega),?_⟩;rw [Ax3];exact ⟨List.any_eq_true.2 ⟨b,hb,by rw [h2];exact beq_self_eq_true _⟩,List.any_eq_true.2 ⟨a,ha,upB_iff.2 ⟨p,m,h1,h3,h4⟩⟩⟩
theorem Yo {l:List Pn} {ids:List Id} (h:∀a∈ids,∀b∈ids,∀p r m,plc l a=some p->plc l b=some r->l[p]? =some m->m.ps r=false):clash l ids=false:=by
 unfold clash;rw [Az5];intro q _ hq;rw [Ax3] at hq;obtain ⟨b,hb,h2⟩:=List.any_eq_true.1 hq.1;obtain ⟨a,ha,h3⟩:=List.any_eq_true.1 hq.2;obtain ⟨p,m,h4,h5,h6⟩:=upB_iff.1 h3;rw [h a ha b hb p q m h4 (by simpa using h2) h5] at h6
 cases h6
theorem Yp {l:List Pn} {ids:List Id} {t:Int} {a:Id} (ha:a∈ids) {p:Nat} {m:Pn} (h1:plc l a=some p) (h2:l[p]? =some m) (h3:t<m.o.at_):t<late l ids:=by
 have:=Qt (l:=l) ha;rw [Fq h1 h2] at this;omega
theorem Yq {l:List Pn} {ids:List Id} {t:Int} (h0:0<=t) (hp:∀id∈ids,∃p,plc l id=some p) (h:∀a∈ids,∀p m,plc l a=some p->l[p]? =some m->m.o.at_<=t):¬t<late l ids:=by
 unfold late
 suffices H:∀s:Int,s<=t->ids.foldl (fun t id=>max t (Cf l id)) s<=t from Int.not_lt.2 (H 0 h0)
 induction ids with
 |nil=>intro s hs;exact hs
 |cons x r ih=>
  intro s hs;refine ih (fun id hid=>hp id (Az7 _ hid)) (fun a ha=>h a (Az7 _ ha)) _ ?_;obtain ⟨p,hpx⟩:=hp x Az6;obtain ⟨m,hm,_⟩:=Bk hpx;have:=h x Az6 p m hpx hm;exact Int.max_le.2 ⟨hs,by rw [Fq hpx hm];exact this⟩
def RowLies (w:World) (base:Nat) (t:TypeId) (size:Nat) (A:Option Addr) (n c:Nat) (xs:List Value):Prop:=
 SlAt w w.heap.size size A n c xs/\(n=0\/∃k off cs fr,A=some ⟨k,off,none⟩/\base<=k/\w.heap[k]? =some (.cells cs t fr))
section
variable {S : Nat -> Prop} {P : TypeId -> Prop} {w w' : World} {base base' size n c : Nat} {t : TypeId} {A : Option Addr} {xs : List Value}
theorem RowAt.lies (h:RowAt w base t size A n c xs):RowLies w base t size A n c xs:=⟨h.1,h.2.imp zq (fun ⟨k,cs,fr,e,h1,h2,_⟩=>⟨k,0,cs,fr,e,h1,h2⟩)⟩
theorem RowLies.fr (h:RowLies w base t size A n c xs) (hf:Fr S w w') (hs:n≠0->∀k cs fr,Ae A=some k->w.heap[k]? =some (.cells cs t fr)->¬S k):RowLies w' base t size A n c xs:=by
 obtain ⟨⟨⟨h1,h2⟩,h3⟩,h4⟩:=h
 rcases h4 with h0|⟨k,o,cs,fr,rfl,hk,hb⟩
 · exact ⟨⟨⟨h1,.inl h0⟩,h3⟩,.inl h0⟩
 ·
  by_cases h0:n=0
  · exact ⟨⟨⟨h1,.inl h0⟩,h3⟩,.inl h0⟩
  ·
   have hkl:=(Array.getElem?_eq_some_iff.1 hb).1;have hbk:=hf.block k hkl (hs h0 k cs fr rfl hb);refine ⟨⟨⟨h1,?_⟩,h3⟩,.inr ⟨k,o,cs,fr,rfl,hk,hbk.trans hb⟩⟩
   rcases h2 with h2|⟨b,off,e,hlt,hc⟩
   · exact .inl h2
   ·
    injection e with e
    injection e with e1 e2
    subst e1 e2;exact .inr ⟨k,o,rfl,A04 hkl hf.size,fun j u hu=>(World.cell?_of_block hbk).trans (hc j u hu)⟩
theorem RowLies.keepT (h:RowLies w base t size A n c xs) (hf:Fr S w w') (hS:∀k cs fr,w.heap[k]? =some (.cells cs t fr)->¬S k):RowLies w' base t size A n c xs:=h.fr hf (fun _ k cs fr _ hb=>hS k cs fr hb)
theorem RowLies.non (h:RowLies w base t size A n c xs) (hf:Fr Non w w'):RowLies w' base t size A n c xs:=h.fr hf (fun _ _ _ _ _ _ e=>e)
theorem RowLies.lower (h:RowLies w base t size A n c xs) (hb:base'<=base):RowLies w base' t size A n c xs:=
 ⟨h.1,h.2.imp id fun ⟨k,o,cs,fr,e,hk,r⟩=>⟨k,o,cs,fr,e,Ay9 hb hk,r⟩⟩
end
structure OpL.lies (w:World) (base:Nat) (x:OpL):Prop where
 past:RowLies w base 38 3 x.pastA x.past.length x.pastC (x.past.flatMap Id.cells)
 path:RowLies w base 94 2 x.pathA x.path.length x.pathC (x.path.flatMap NdL.cells)
 nodes:∀y∈x.path,RowLies w base 148 4 y.A y.xs.length y.c (y.xs.flatMap Bx.cells)
 body:RowLies w base 5 1 x.bodyA x.body.length x.bodyC (x.body.map Bv)
 refs:RowLies w base 23 1 x.refsA x.refs.length x.refsC (x.refs.map Uv)
 guards:RowLies w base 3 1 x.guardsA x.guards.length x.guardsC (x.guards.map Iv)
 boxes:RowLies w base 148 4 x.boxesA x.boxes.length x.boxesC (x.boxes.flatMap Bx.cells)
 hist:RowLies w base 97 4 x.histA x.hist.length x.histC (x.hist.flatMap SlL.cells)
 seals:∀y∈x.hist,RowLies w base 5 1 y.A y.y.length y.c (y.y.map Bv)
theorem OpL.own.lies {w:World} {base:Nat} {x:OpL} (h:x.own w base):x.lies w base where
 past:=h.past.lies
 path:=h.path.lies
 nodes y hy:=(h.nodes y hy).lies
 body:=h.body.lies
 refs:=h.refs.lies
 guards:=h.guards.lies
 boxes:=h.boxes.lies
 hist:=h.hist.lies
 seals y hy:=(h.seals y hy).lies
theorem OpL.lies.at {w:World} {base:Nat} {x:OpL} (h:x.lies w base):x.at w w.heap.size where
 past:=h.past.1
 path:=h.path.1
 nodes y hy:=(h.nodes y hy).1
 body:=h.body.1
 refs:=h.refs.1
 guards:=h.guards.1
 boxes:=h.boxes.1
 hist:=h.hist.1
 seals y hy:=(h.seals y hy).1
theorem OpL.lies.lower {w:World} {base base':Nat} {x:OpL} (h:x.lies w base) (hb:base'<=base):x.lies w base' where
 past:=h.past.lower hb
 path:=h.path.lower hb
 nodes y hy:=(h.nodes y hy).lower hb
 body:=h.body.lower hb
 refs:=h.refs.lower hb
 guards:=h.guards.lower hb
 boxes:=h.boxes.lower hb
 hist:=h.hist.lower hb
 seals y hy:=(h.seals y hy).lower hb
theorem OpL.lies.keepP {S:Nat->Prop} {P:TypeId->Prop} {w w':World} {base:Nat} {x:OpL} (h:x.lies w base) (hf:Fr S w w') (hS:Types S w P) (h1:¬P 38) (h2:¬P 94) (h3:¬P 148) (h4:¬P 5) (h5:¬P 23) (h6:¬P 3) (h7:¬P 97):x.lies w' base where
 past:=h.past.keepT hf (hS.not h1)
 path:=h.path.keepT hf (hS.not h2)
 nodes y hy:=(h.nodes y hy).keepT hf (hS.not h3)
 body:=h.body.keepT hf (hS.not h4)
 refs:=h.refs.keepT hf (hS.not h5)
 guards:=h.guards.keepT hf (hS.not h6)
 boxes:=h.boxes.keepT hf (hS.not h3)
 hist:=h.hist.keepT hf (hS.not h7)
 seals y hy:=(h.seals y hy).keepT hf (hS.not h4)
theorem OpL.lies.non {w w':World} {base:Nat} {x:OpL} (h:x.lies w base) (hf:Fr Non w w'):x.lies w' base:=
 h.keepP (P:=fun _=>False) hf (fun _ _ _ _ _ e=>e.elim) zq zq zq zq zq zq zq
def Qv (q:Nat):Value:=Iv (q:Int)
structure UpL where
 A:Option Addr
 c:Nat
 xs:List Nat
def UpL.cell (x:UpL):Value:=.slice x.A x.xs.length x.c
def UpL.own (w:World) (base:Nat) (x:UpL):Prop:=RowAt w base 3 1 x.A x.xs.length x.c (x.xs.map Qv)
structure InL where
 A:Option Addr
 c:Nat
 bs:List Bool
def InL.cell (x:InL):Value:=.slice x.A x.bs.length x.c
def InL.own (w:World) (base:Nat) (x:InL):Prop:=RowAt w base 4 1 x.A x.bs.length x.c (x.bs.map Value.bool)
structure RG where
 cA:Option Addr
 cC:Nat
 cards:List Cd
 lA:Option Addr
 lC:Nat
 xs:List OpL
 iA:Option Addr
 iC:Nat
 uA:Option Addr
 uC:Nat
 us:List UpL
 nA:Option Addr
 nC:Nat
 ns:List InL
 l:List Pn
def RG.ids (r:RG):List Id:=r.l.map Pn.id
def RG.cells (r:RG):Array Value:=#[.slice r.cA r.cards.length r.cC,.slice r.lA r.l.length r.lC,.slice r.iA r.l.length r.iC,.slice r.uA r.l.length r.uC,.slice r.nA r.l.length r.nC]
structure RG.own (w:World) (base:Nat) (r:RG):Prop where
 cards:RowAt w base 104 5 r.cA r.cards.length r.cC (r.cards.flatMap Cd.cells)
 ops:RowAt w base 44 27 r.lA r.l.length r.lC (r.xs.flatMap (fun x=>x.cells.toList))
 each:∀x∈r.xs,x.lies w base
 same:r.xs.map OpL.op=r.l.map Pn.o
 ok:∀n∈r.l,n.o.ok/\n.id.ok
 ids:RowAt w base 38 3 r.iA r.l.length r.iC (r.ids.flatMap Id.cells)
 ups:RowAt w base 22 1 r.uA r.l.length r.uC (r.us.map UpL.cell)
 eachU:∀x∈r.us,x.own w base
 sameU:r.us.map UpL.xs=Gg r.l
 ins:RowAt w base 108 1 r.nA r.l.length r.nC (r.ns.map InL.cell)
 eachN:∀x∈r.ns,x.own w base
 sameN:r.ns.map InL.bs=Ea r.l
 rows:Rows r.cards r.l
 cfew:r.cards.length<=1000
 cok:∀c∈r.cards,c.s<18446744073709551616
theorem RG.own.lower {w:World} {base base':Nat} {r:RG} (h:r.own w base) (hb:base'<=base):r.own w base' where
 cards:=h.cards.lower hb
 ops:=h.ops.lower hb
 each x hx:=(h.each x hx).lower hb
 same:=h.same
 ok:=h.ok
 ids:=h.ids.lower hb
 ups:=h.ups.lower hb
 eachU x hx:=(h.eachU x hx).lower hb
 sameU:=h.sameU
 ins:=h.ins.lower hb
 eachN x hx:=(h.eachN x hx).lower hb
 sameN:=h.sameN
 rows:=h.rows
 cfew:=h.cfew
 cok:=h.cok
theorem RG.own.keepP {S:Nat->Prop} {P:TypeId->Prop} {w w':World} {base:Nat} {r:RG} (h:r.own w base) (hf:Fr S w w') (hS:Types S w P) (h1:¬P 38) (h2:¬P 94) (h3:¬P 148) (h4:¬P 5) (h5:¬P 23) (h6:¬P 3) (h7:¬P 97)
  (h8:¬P 104) (h9:¬P 44) (h10:¬P 22) (h11:¬P 108) (h12:¬P 4):r.own w' base where
 cards:=h.cards.keepT hf (hS.not h8)
 ops:=h.ops.keepT hf (hS.not h9)
 each x hx:=(h.each x hx).keepP hf hS h1 h2 h3 h4 h5 h6 h7
 same:=h.same
 ok:=h.ok
 ids:=h.ids.keepT hf (hS.not h1)
 ups:=h.ups.keepT hf (hS.not h10)
 eachU x hx:=RowAt.keepT (h.eachU x hx) hf (hS.not h6)
 sameU:=h.sameU
 ins:=h.ins.keepT hf (hS.not h11)
 eachN x hx:=RowAt.keepT (h.eachN x hx) hf (hS.not h12)
 sameN:=h.sameN
 rows:=h.rows
 cfew:=h.cfew
 cok:=h.cok
theorem RG.own.non {w w':World} {base:Nat} {r:RG} (h:r.own w base) (hf:Fr Non w w'):r.own w' base:=
 h.keepP (P:=fun _=>False) hf (fun _ _ _ _ _ e=>e.elim) zq zq zq zq zq zq zq zq zq zq zq zq
theorem RG.own.few {w:World} {base:Nat} {r:RG} (h:r.own w base):r.l.length<=200:=h.rows.few
theorem RG.own.rdIds {w:World} {base:Nat} {r:RG} (h:r.own w base):Rd w w.heap.size 3 r.iA r.l.length (r.ids.flatMap Id.cells):=h.ids.sl.rd
theorem RG.own.xAt {w:World} {base:Nat} {r:RG} (h:r.own w base) {i:Nat} {n:Pn} (hi:r.l[i]? =some n):
  ∃(x:OpL) (b off:Nat),r.xs[i]? =some x/\x.op=n.o/\x.lies w base/\r.lA=some ⟨b,off,none⟩/\b<w.heap.size/\∀j,j<27->∀u,x.cells.toList[j]? =some u->w.cell? ⟨b,off+i*27+j,none⟩=some u:=by
 have hm:(r.xs.map OpL.op)[i]? =some n.o:=by rw [h.same,Ax8,hi];rfl
 rw [Ax8] at hm
 cases hx:r.xs[i]? with
 |none=>rw [hx] at hm;cases hm
 |some x=>
  rw [hx] at hm;injection hm with hm
  obtain ⟨b,off,h1,h2,h3⟩:=Ff (f:=fun x:OpL=>x.cells.toList) (fun _=>rfl) (by omega) h.ops.sl.rd hx;exact ⟨x,b,off,rfl,hm,h.each x (Ay2 hx),h1,h2,h3⟩
theorem RG.own.uAt {w:World} {base:Nat} {r:RG} (h:r.own w base) {i:Nat} {n:Pn} (hi:r.l[i]? =some n):
  ∃(x:UpL) (b off:Nat),x.xs=Ap r.l n.o.past/\x.own w base/\r.uA=some ⟨b,off,none⟩/\b<w.heap.size/\w.cell? ⟨b,off+i,none⟩=some x.cell:=by
 have hm:(r.us.map UpL.xs)[i]? =some (Ap r.l n.o.past):=by rw [h.sameU];exact Yg hi
 rw [Ax8] at hm
 cases hx:r.us[i]? with
 |none=>rw [hx] at hm;cases hm
 |some x=>
  rw [hx] at hm;injection hm with hm
  obtain ⟨b,off,u,h1,h2,h3,h4⟩:=h.ups.sl.rd.at (List.getElem?_eq_some_iff.1 hi).1;rw [Ax8,hx] at h3;injection h3 with h3
  subst h3;exact ⟨x,b,off,hm,h.eachU x (Ay2 hx),h1,h2,h4⟩
theorem RG.own.nAt {w:World} {base:Nat} {r:RG} (h:r.own w base) {i:Nat} {n:Pn} (hi:r.l[i]? =some n):
  ∃(x:InL) (b off:Nat),x.bs=Cb r.l.length n.ps/\x.own w base/\r.nA=some ⟨b,off,none⟩/\b<w.heap.size/\w.cell? ⟨b,off+i,none⟩=some x.cell:=by
 have hm:(r.ns.map InL.bs)[i]? =some (Cb r.l.length n.ps):=by rw [h.sameN];exact Qz hi
 rw [Ax8] at hm
 cases hx:r.ns[i]? with
 |none=>rw [hx] at hm;cases hm
 |some x=>
  rw [hx] at hm;injection hm with hm
  obtain ⟨b,off,u,h1,h2,h3,h4⟩:=h.ins.sl.rd.at (List.getElem?_eq_some_iff.1 hi).1;rw [Ax8,hx] at h3;injection h3 with h3
  subst h3;exact ⟨x,b,off,hm,h.eachN x (Ay2 hx),h1,h2,h4⟩
def Ar (l:List Pn) (id:Id):Int:=match plc l id with|some i=>(i:Int)|none=> -1
theorem H4 {l:List Pn} {id:Id} {i:Nat} (h:plc l id=some i):Ar l id=(i:Int):=by unfold Ar;rw [h]
theorem Yr {l:List Pn} {id:Id} (h:plc l id=none):Ar l id= -1:=by unfold Ar;rw [h]
end Oq
end Go.Proofs.YtihfebhfgliojaaGreatDoor
