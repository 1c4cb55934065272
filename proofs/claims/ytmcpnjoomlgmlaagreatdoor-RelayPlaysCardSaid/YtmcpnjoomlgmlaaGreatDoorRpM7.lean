/- Contracts of functions, walked (part 7).
Conditions: as each theorem says. -/
import Derived.Test.YtmcpnjoomlgmlaaGreatDoorRpM6
set_option maxRecDepth 100000
set_option maxHeartbeats 16000000
open Bool renaming false_and->A63,true_and->A64,and_eq_true->A65
open Int renaming le_trans->A66,le_max_left->A77
open List renaming getElem?_append_left->A60,take_succ_eq_append_getElem->A73,range->A74,any_append->A75,mem_of_getElem?->A76,take_of_length_le->A79,getElem?_eq_getElem->A80,foldl_append->A81,getElem?_eq_none->A82,any_eq_false->A83,findIdx?_append->A85,any_eq_true->A86
open Nat renaming le_refl->A59,mod_lt->A61,mul_mod->A62,pow_mul->A67,mod_mod->A68,add_mod->A69,le_trans->A71,pow_mod->A72,lt_or_ge->A78,lt_of_lt_of_le->A84
open Go.World renaming size_alloc->A70
open Go.Proofs.Tryz
open Go.Proofs.Tryz renaming prog->zp
open Go.Lib renaming hid->lh
open List renaming set->zl
open Go.Ending renaming returned->ze
namespace Go.Proofs.YtmcpnjoomlgmlaaGreatDoor
open Go.RowKit
attribute [local go_sem ↓] Go.wp_at_zero Go.wp_at_succ
namespace Dv
end Dv
namespace Sg
def lSigned:List UInt8:=[115,105,103,110,101,100]
def lSig:List UInt8:=[115,105,103]
def lNonce:List UInt8:=[110,111,110,99,101]
def m (bs:List UInt8):Nat:=Hs.ofBytes lSigned bs
def e (r pub:Nat) (bs:List UInt8):Nat:=Hs.of lSig [r,pub,m bs]
def pub (secret:Nat):Nat:=Fd.pow 37 secret
def once (secret:Nat) (bs:List UInt8):Nat:=Hs.secret lNonce [secret,m bs]
def r (secret:Nat) (bs:List UInt8):Nat:=Fd.pow 37 (once secret bs)
def x (secret:Nat) (bs:List UInt8):Nat:=e (r secret bs) (pub secret) bs*secret%2305843009213693950
def s (secret:Nat) (bs:List UInt8):Nat:=(once secret bs+x secret bs)%2305843009213693950
def within (n lo hi:Int):Bool:=decide (lo<=n)&&decide (n<=hi)
def check (pub:Nat) (bs:List UInt8) (R S:Nat):Bool:=
 within pub 1 2305843009213693950&&within R 1 2305843009213693950&&within S 0 2305843009213693949&&(Fd.pow 37 S==Fd.mul R (Fd.pow pub (e R pub bs)))
theorem m_lt (bs:List UInt8):m bs<2305843009213693951:=Hs.of_lt _ _
theorem e_lt (r pub:Nat) (bs:List UInt8):e r pub bs<2305843009213693951:=Hs.of_lt _ _
theorem once_lt (secret:Nat) (bs:List UInt8):once secret bs<2305843009213693950:=Hs.secret_lt _ _
theorem r_lt (secret:Nat) (bs:List UInt8):r secret bs<2305843009213693951:=Fd.pow_lt _ _
theorem x_lt (secret:Nat) (bs:List UInt8):x secret bs<2305843009213693950:=A61 _ (by omega)
theorem s_lt (secret:Nat) (bs:List UInt8):s secret bs<2305843009213693950:=A61 _ (by omega)
end Sg
section
open Go.RowKit Go.Shelf
def Ac8 (m e:Nat) (w:World) (r:Ending) (w':World):Prop:=r=.returned (.tuple #[.int .u64 (m:Int),.int .u64 (e:Int)])/\Fr Non w w'
theorem Ac9 (pub r B n c:Nat) (A:Option Addr) (bs:List UInt8) (w:World) (hp:pub<18446744073709551616) (hr0:r<18446744073709551616) (hlen:Hid (bs.length=n)) (hnc:n<=c) (hn:n<=1099511627775) (hB:B<=w.heap.size) (hr:Rd w B 1 A n (bs.map Bv)):
  Calls zp 193 #[.int .u64 (pub:Int),.int .u64 (r:Int),.slice A n c] w (Ac8 (Sg.m bs) (Sg.e r pub bs) w):=by
 have he:Hid (Sg.e r pub bs=Hs.of Sg.lSig [r,pub,Sg.m bs]):=rfl;have hm:=Sg.m_lt bs;have hby:=lh (Rw Sg.lSigned B n c A bs w hlen hnc hn (by decide) hB hr);have hmm:Hid (Hs.ofBytes Sg.lSigned bs=Sg.m bs):=rfl;rw [hmm.out] at hby;obtain ⟨v,hv⟩:=Ab (Sg.m bs);rw [hv.out] at he hm hby;rw [he.out,hv.out];go_enter func193,ntmps193;go_wp2_with fail;refine hby.out.mono ?_;rintro _ w1 ⟨rfl,hf1⟩;go_wp2_with fail;have hnew:=Blk.new w1 43 #[.int .u64 (r:Int),.int .u64 (pub:Int),.int .u64 (v:Int)]
 have hrd:Rd (w1.alloc (.cells #[.int .u64 (r:Int),.int .u64 (pub:Int),.int .u64 (v:Int)] 43)) (w1.heap.size+1) 1 (some ⟨w1.heap.size,0,none⟩) 3 ([r,pub,v].map Wv):=by
  refine ⟨rfl,.inr ⟨w1.heap.size,0,rfl,by omega,fun j u hu=> ?_⟩⟩;rw [hnew.cell]
  match j,hu with
  |0,hu=>simpa [Wv] using hu
  |1,hu=>simpa [Wv] using hu
  |2,hu=>simpa [Wv] using hu
 refine (Rv Sg.lSig [r,pub,v] _ 3 3 _ _ rfl (by decide) (by omega) hrd (by simp;omega)).mono ?_;rintro _ w2 ⟨rfl,hf2⟩;go_wp2
 go_ret2
 exact ⟨rfl,(hf1.alloc _).trans hf2 zr⟩
def Ir (R S:Nat):Value:=.agg #[.int .u64 (R:Int),.int .u64 (S:Int)]
def Sb (secret:Nat) (bs:List UInt8) (w:World) (r:Ending) (w':World):Prop:=r=.returned (Ir (Sg.r secret bs) (Sg.s secret bs))/\Fr Non w w'
theorem Nl (n lo hi:Int) (b:Bool) (w:World) (hb:Hid (Sg.within n lo hi=b)):
  Calls zp 192 #[.int .u64 n,.int .u64 lo,.int .u64 hi] w fun e w'=>e=.returned (.bool b)/\w=w':=by
 have hb':=hb.out;unfold Sg.within at hb'
 by_cases h1:lo<=n
 ·
  by_cases h2:n<=hi
  ·
   have hbb:Hid (true=b):=by rw [<- hb'];simp [h1,h2,Hid]
   clear hb' hb;go_enter func192,ntmps192;go_wp2
   go_ret
   exact ⟨zeB (Eq.trans (by first|simp|(simp;omega)) hbb.out),rfl⟩
  ·
   have hbb:Hid (false=b):=by rw [<- hb'];simp [h2,Hid]
   clear hb' hb;go_enter func192,ntmps192;go_wp2
   go_ret
   exact ⟨zeB (Eq.trans (by first|simp|(simp;omega)) hbb.out),rfl⟩
 ·
  have hbb:Hid (false=b):=by rw [<- hb'];simp [h1,Hid]
  clear hb' hb;go_enter func192,ntmps192;go_wp2
  go_ret
  exact ⟨zeB hbb.out,rfl⟩
theorem Nn (pub R S B n c:Nat) (A:Option Addr) (bs:List UInt8) (w:World) (hp:pub<18446744073709551616) (hR:R<18446744073709551616) (hS:S<18446744073709551616) (hlen:Hid (bs.length=n)) (hnc:n<=c) (hn:n<=1099511627775) (hB:B<=w.heap.size) (hr:Rd w B 1 A n (bs.map Bv)):
  Calls zp 148 #[.int .u64 (pub:Int),.slice A n c,Ir R S] w (Ae (Sg.check pub bs R S) w):=by
 unfold Ir;have aa:Hid (Sg.check pub bs R S=(Sg.within pub 1 2305843009213693950&&Sg.within R 1 2305843009213693950&&Sg.within S 0 2305843009213693949&&(Fd.pow 37 S==Fd.mul R (Fd.pow pub (Sg.e R pub bs))))):=rfl;have ae:=Blk.new w 50 #[.int .u64 (R:Int),.int .u64 (S:Int)];have ac:Fr Non w (w.alloc (.cells #[.int .u64 (R:Int),.int .u64 (S:Int)] 50)):=(Fr.refl _ _).alloc _;have c0:=ae.cell 0;have c1:=ae.cell 1;have ai:=hr.alloc (.cells #[.int .u64 (R:Int),.int .u64 (S:Int)] 50);obtain ⟨b1,h1⟩:=Ab (Sg.within pub 1 2305843009213693950);obtain ⟨b2,h2⟩:=Ab (Sg.within R 1 2305843009213693950);obtain ⟨b3,h3⟩:=Ab (Sg.within S 0 2305843009213693949);have k1:=lh (fun w=>Nl pub 1 2305843009213693950 b1 w h1);have k2:=lh (fun w=>Nl R 1 2305843009213693950 b2 w h2);have k3:=lh (fun w=>Nl S 0 2305843009213693949 b3 w h3);rw [h1.out,h2.out,h3.out] at aa
 cases b1 with
 |false=>
  rw [A63,A63,A63] at aa;rw [aa.out];go_enter func148,ntmps148;go_wp2_with (first|(go_at_call 192;refine (k1.out _).mono ?_;rintro _ _ ⟨rfl,rfl⟩))
  go_ret
  exact ⟨rfl,ac⟩
 |true=>
  cases b2 with
  |false=>
   rw [A64,A63,A63] at aa;rw [aa.out];go_enter func148,ntmps148;go_wp2_with (first|(go_at_call 192;(with_reducible refine (k1.out _).mono ?_);rintro _ _ ⟨rfl,rfl⟩)|(go_at_call 192;(with_reducible refine (k2.out _).mono ?_);rintro _ _ ⟨rfl,rfl⟩))
   go_ret
   exact ⟨rfl,ac⟩
  |true=>
   cases b3 with
   |false=>
    rw [A64,A64,A63] at aa;rw [aa.out];go_enter func148,ntmps148;go_wp2_with (first|(go_at_call 192;(with_reducible refine (k1.out _).mono ?_);rintro _ _ ⟨rfl,rfl⟩)|(go_at_call 192;(with_reducible refine (k2.out _).mono ?_);rintro _ _ ⟨rfl,rfl⟩)|(go_at_call 192;(with_reducible refine (k3.out _).mono ?_);rintro _ _ ⟨rfl,rfl⟩))
    go_ret
    exact ⟨rfl,ac⟩
   |true=>
    rw [A64,A64,A64] at aa;have le:=Sg.e_lt R pub bs;go_enter func148,ntmps148;go_wp2_with (first|(go_at_call 192;(with_reducible refine (k1.out _).mono ?_);rintro _ _ ⟨rfl,rfl⟩)|(go_at_call 192;(with_reducible refine (k2.out _).mono ?_);rintro _ _ ⟨rfl,rfl⟩)|(go_at_call 192;(with_reducible refine (k3.out _).mono ?_);rintro _ _ ⟨rfl,rfl⟩));refine (Ac9 pub R B n c A bs _ hp hR hlen hnc hn (by simp;omega) ai).mono ?_;rintro _ w1 ⟨rfl,ag⟩;have ak:=ae.fr ag zq;have ah:=ac.trans ag zr;obtain ⟨E,hE⟩:=Ab (Sg.e R pub bs);rw [hE.out] at le aa;rw [hE.out];generalize Sg.m bs=m0;have p1:=lh (fun w=>Nf 37 S w (by omega) hS);have p2:=lh (fun w=>Nf pub E w hp (by omega));have lq:=Fd.pow_lt pub E;obtain ⟨q,hq⟩:=Ab (Fd.pow pub E);obtain ⟨t,ht⟩:=Ab (Fd.pow 37 S);rw [hq.out] at p2 lq aa;rw [ht.out] at p1 aa;have p3:=lh (fun w=>Kc R q hR (by omega) w);obtain ⟨v,hv⟩:=Ab (Fd.mul R q);rw [hv.out] at p3 aa;have aj:Hid (∀w,Calls zp 194 #[.int .u64 37,.int .u64 (S:Int)] w (De t w)):=p1.out;have ab:Blk w1.drew w.heap.size 50 #[.int .u64 (R:Int),.int .u64 (S:Int)]:=ak;have d0:=ab.cell 0;have d1:=ab.cell 1;clear c0 c1;go_wp2_with fail
    go_region_held3 (fun w'=>w'.cell? ⟨w.heap.size,0,none⟩=some (.int .u64 (R:Int))/\w'.cell? ⟨w.heap.size,1,none⟩=some (.int .u64 (S:Int))) (go_keep) (first
     |(go_at_call 194;(with_reducible refine (aj.out _).mono ?_);rintro _ w2 ⟨rfl,ad⟩;obtain ⟨g0,g1⟩:=zk2 ad d0 d1)
     |(go_at_call 194;(with_reducible refine (p2.out _).mono ?_);rintro _ w3 ⟨rfl,af⟩;obtain ⟨al,ao⟩:=zk2 af g0 g1)
     |(go_at_call 195;(with_reducible refine (p3.out _).mono ?_);rintro _ _ ⟨rfl,rfl⟩))
    go_wp2
    go_ret
    refine ⟨zeB ?_,(((ah.drew.trans ad zr).trans af zr))⟩;rw [aa.out,Bool.eq_iff_iff];simp only [beq_iff_eq];exact Int.ofNat_inj
end
namespace Sg
theorem Ad0 {M:Nat} (hM:M=2305843009213693950):37^M%2305843009213693951=1:=by
 have h:=Fd.pow_eq 37 M (by omega);rw [<- h,hM]
 decide+kernel
theorem pow_one {M:Nat} (hM:M=2305843009213693950) (k:Nat):(37^M)^k%2305843009213693951=1:=by
 rw [A72,Ad0 hM,Nat.one_pow]
theorem Ad1 {M:Nat} (hM:M=2305843009213693950) (k:Nat):37^(k%M)%2305843009213693951=37^k%2305843009213693951:=by
 conv=>rhs;rw [<- Nat.div_add_mod k M,Nat.pow_add,A67,A62,pow_one hM,Nat.one_mul,A68]
theorem Sc (k:Nat):37^(k%2305843009213693950)%2305843009213693951=37^k%2305843009213693951:=Ad1 rfl k
theorem Ad2 {M:Nat} (hM:M=2305843009213693950) (k:Nat):37^k%2305843009213693951≠0:=by
 intro h;have h1:(37^k)^M%2305843009213693951=1:=by rw [<- A67,Nat.mul_comm,A67];exact pow_one hM k
 rw [A72,h,Nat.zero_pow (by omega)] at h1;simp at h1
theorem Sd (k:Nat):37^k%2305843009213693951≠0:=Ad2 rfl k
theorem Se {k:Nat} (hk:k<18446744073709551616):1<=Fd.pow 37 k:=by
 rw [Fd.pow_eq 37 k hk];exact Nat.one_le_iff_ne_zero.2 (Sd k)
theorem sides {x o e:Nat} (hx:x<18446744073709551616) (ho:o<18446744073709551616) (he:e<18446744073709551616):
  Fd.pow 37 ((o+e*x%2305843009213693950)%2305843009213693950)=Fd.mul (Fd.pow 37 o) (Fd.pow (Fd.pow 37 x) e):=by
 have hs:(o+e*x%2305843009213693950)%2305843009213693950=(o+e*x)%2305843009213693950:=by rw [Nat.add_mod_mod]
 have hlt:(o+e*x)%2305843009213693950<18446744073709551616:=by have:=A61 (o+e*x) (show 0<2305843009213693950 by omega);omega
 rw [hs,Fd.pow_eq _ _ hlt,Sc,Nat.pow_add];unfold Fd.mul;rw [Fd.pow_eq _ _ ho,Fd.pow_eq _ _ he,Fd.pow_eq _ _ hx,<- A72,<- A62,<- A67,Nat.mul_comm x e]
theorem Np {n lo hi:Nat} (h1:lo<=n) (h2:n<=hi):within n lo hi=true:=by
 unfold within;simp;omega
theorem takes (x:Nat) (bs:List UInt8) (hx:x<18446744073709551616):check (pub x) bs (r x bs) (s x bs)=true:=by
 have lo:=once_lt x bs;have lr:=r_lt x bs;have ls:=s_lt x bs;have lp:=Fd.pow_lt 37 x;have le:=e_lt (r x bs) (pub x) bs;have p1:1<=Fd.pow 37 x:=Se hx;have p2:1<=r x bs:=Se (by omega);have w1:within (pub x) 1 2305843009213693950=true:=Np (lo:=1) (hi:=2305843009213693950) p1 (by unfold pub;omega);have w2:within (r x bs) 1 2305843009213693950=true:=Np (lo:=1) (hi:=2305843009213693950) p2 (by omega);have w3:within (s x bs) 0 2305843009213693949=true:=Np (lo:=0) (hi:=2305843009213693949) (by omega) (by omega);unfold check;rw [w1,w2,w3];have h:=sides (x:=x) (o:=once x bs) (e:=e (r x bs) (pub x) bs) hx (by omega) (by omega);have hs:s x bs=(once x bs+e (r x bs) (pub x) bs*x%2305843009213693950)%2305843009213693950:=rfl;have hr:r x bs=Fd.pow 37 (once x bs):=rfl;rw [hs,h,<- hr];simp [pub]
end Sg
namespace R8
theorem step (M o x h:Nat):((o+x)%M+(x+x)%M*h)%M=(o+x*(2*h+1))%M:=by
 have e:o+x*(2*h+1)=(o+x)+(x+x)*h:=by rw [Nat.mul_add,Nat.add_mul,Nat.mul_one,<- Nat.mul_assoc,Nat.mul_two,Nat.add_mul];omega
 rw [e,A69 (o+x) ((x+x)*h),A62 (x+x) h,A69 ((o+x)%M),A68,A62 ((x+x)%M),A68]
theorem step0 (M o x h:Nat):(o+(x+x)%M*h)%M=(o+x*(2*h))%M:=by
 have e:x*(2*h)=(x+x)*h:=by rw [<- Nat.mul_assoc,Nat.mul_two]
 rw [e,A69 o ((x+x)*h),A62 (x+x) h,A69 o,A62 ((x+x)%M),A68]
end R8
theorem Sf (w:World):Calls zp 165 #[] w fun e w'=>e=.returned (.int .u64 2305843009213693950)/\w=w':=by
 go_enter func165,ntmps165;go_wp2
 go_ret
 exact ⟨rfl,rfl⟩
theorem Ad3 (a b:Nat) (w:World):Calls zp 163 #[.int .u64 (a:Int),.int .u64 (b:Int)] w fun e w'=>e=.returned (.int .u64 ((a*b%2305843009213693950:Nat):Int))/\w=w':=by
 obtain ⟨x,hx⟩:=Ab (a%2305843009213693950);obtain ⟨y,hy⟩:=Ab (b%2305843009213693950);have lx:x<2305843009213693950:=by rw [<- hx.out];exact A61 _ (by omega)
 have ly:y<2305843009213693950:=by rw [<- hy.out];exact A61 _ (by omega)
 have ab:Hid ((0+x*y)%2305843009213693950=a*b%2305843009213693950):=by show _=_;rw [Nat.zero_add,<- hx.out,<- hy.out,<- A62]
 obtain ⟨r,hr⟩:=Ab (a*b%2305843009213693950);rw [hr.out] at ab ⊢;obtain ⟨fa,aq⟩:=R1.nn 2305843009213693950 rfl hx.out;obtain ⟨fb,au⟩:=R1.nn 2305843009213693950 rfl hy.out;have z1:¬(2305843009213693950:Int)=0:=by decide
 have ho:Hid (∀w,Calls zp 165 #[] w fun e w'=>e=.returned (.int .u64 2305843009213693950)/\w=w'):=fun w=>Sf w;clear hx hy;go_enter func163,ntmps163;unfold Hid at ho;generalize eM:(2305843009213693950:Int)=M at*;have hM:=lh eM;have ac:=lh ho;clear eM ho;go_wp2_with fail;refine (ac.out _).mono ?_;rintro _ _ ⟨rfl,rfl⟩;go_wp2_with fail;refine (ac.out _).mono ?_;rintro _ _ ⟨rfl,rfl⟩;go_wp2_with fail
 go_loopw [0,1,5] (fun p q o wr=>∃x' y' o':Nat,p=.int .u64 (x':Int)/\q=.int .u64 (y':Int)/\o=.int .u64 (o':Int)/\x'<2305843009213693950/\y'<2305843009213693950/\o'<2305843009213693950/\Hid ((o'+x'*y')%2305843009213693950=r)/\wr=w) (fun _ q _ _=>(intOf q).toNat)
 case atStart=>exact ⟨x,y,0,rfl,rfl,rfl,lx,ly,by omega,ab,rfl⟩
 case round=>
  obtain ⟨x',y',o',rfl,rfl,rfl,ar,ao,ae,hd,rfl⟩:=hrel
  by_cases hz:y'=0
  ·
   subst hz;have e:o'=r:=by have h:=hd.out;rw [Nat.mul_zero,Nat.add_zero,Nat.mod_eq_of_lt ae] at h;exact h
   go_wp2
   go_ret
   exact ⟨by rw [<- e];rfl,rfl⟩
  ·
   have ap:(0:Int)<(y':Int):=by omega
   have l1:(o'+x')%2305843009213693950<2305843009213693950:=A61 _ (by omega);have l2:(x'+x')%2305843009213693950<2305843009213693950:=A61 _ (by omega);have s1:=R8.step 2305843009213693950 o' x' (y'/2);have s0:=R8.step0 2305843009213693950 o' x' (y'/2);obtain ⟨ox,af⟩:=Ab ((o'+x')%2305843009213693950);obtain ⟨xx,ag⟩:=Ab ((x'+x')%2305843009213693950);obtain ⟨g1,al⟩:=R1.nn M hM.out af.out;obtain ⟨g2,ai⟩:=R1.nn M hM.out ag.out;rw [Int.natCast_add] at g1 al g2 ai;rw [af.out] at l1 s1;rw [ag.out] at l2 s1 s0;have ak:=lh s1;have ah:=lh s0;clear s1 s0;have aa:y'%2=1\/y'%2=0:=by omega
   rcases aa with hp|hp
   ·
    have aj:((y':Int)%2==1)=true:=by simp;omega
    have ad:Hid ((ox+xx*(y'/2))%2305843009213693950=r):=by show _=_;rw [ak.out,show 2*(y'/2)+1=y' by omega];exact hd.out
    clear hd hp;go_wp2_with (first|(go_at_call 165;refine (ac.out _).mono ?_;rintro _ _ ⟨rfl,rfl⟩));exact ⟨⟨xx,y'/2,ox,rfl,by go_num,rfl,l2,by omega,l1,ad,by first|rfl|trivial⟩,by simp [intOf];omega⟩
   ·
    have aj:((y':Int)%2==1)=false:=by simp;omega
    have ad:Hid ((o'+xx*(y'/2))%2305843009213693950=r):=by show _=_;rw [ah.out,show 2*(y'/2)=y' by omega];exact hd.out
    clear hd hp;go_wp2_with (first|(go_at_call 165;refine (ac.out _).mono ?_;rintro _ _ ⟨rfl,rfl⟩));exact ⟨⟨xx,y'/2,o',rfl,by go_num,rfl,l2,by omega,ae,ad,by first|rfl|trivial⟩,by simp [intOf];omega⟩
theorem Kj (n:Nat) (w:World) (hn:n<18446744073709551616):Calls zp 77 #[.int .u64 (n:Int)] w (De (Sg.pub n) w):=by
 have hp:Hid (∀w,Calls zp 138 #[.int .u64 37,.int .u64 (n:Int)] w fun e w'=>e=.returned (.int .u64 (Sg.pub n:Int))/\∃k,w'=w.drewN k):=fun w=>Ni 37 n w (by omega) hn;go_enter func77,ntmps77;go_wp2_with fail;refine (hp.out _).mono ?_;rintro _ _ ⟨rfl,k,rfl⟩;go_wp2
 go_ret
 exact ⟨rfl,(Fr.refl _ _).drewN _⟩
theorem Sh (B n c:Nat) (A:Option Addr) (bs:List UInt8) (w:World) (hlen:Hid (bs.length=n)) (hn:n<=1099511627775) (hB:B<=w.heap.size) (hr:Rd w B 1 A n (bs.map Bv)):
  Calls zp 162 #[.slice A n c] w (De (Sg.m bs) w):=by
 have hby:Hid (Calls zp 140 #[.string ⟨#[115,105,103,110,101,100]⟩,.slice A n c] w (De (Sg.m bs) w)):=Rz Sg.lSigned B n c A bs w hlen hn (by decide) hB hr;go_enter func162,ntmps162;go_wp2_with fail;refine hby.out.mono ?_;rintro _ w1 ⟨rfl,hf1⟩;go_wp2
 go_ret
 exact ⟨rfl,hf1⟩
theorem Ad4 (r pub B n c:Nat) (A:Option Addr) (bs:List UInt8) (w:World) (hr0:r<18446744073709551616) (hp:pub<18446744073709551616) (hlen:Hid (bs.length=n)) (hn:n<=1099511627775) (hB:B<=w.heap.size) (hr:Rd w B 1 A n (bs.map Bv)):
  Calls zp 164 #[.int .u64 (r:Int),.int .u64 (pub:Int),.slice A n c] w (De (Sg.e r pub bs) w):=by
 have he:Hid (Sg.e r pub bs=Hs.of Sg.lSig [r,pub,Sg.m bs]):=rfl;have hm:=Sg.m_lt bs;have hby:=lh (Sh B n c A bs w hlen hn hB hr);obtain ⟨v,hv⟩:=Ab (Sg.m bs);rw [hv.out] at he hm hby;rw [he.out];go_enter func164,ntmps164;go_wp2_with fail;refine hby.out.mono ?_;rintro _ w1 ⟨rfl,hf1⟩;go_wp2_with fail;have hnew:=Blk.new w1 43 #[.int .u64 (r:Int),.int .u64 (pub:Int),.int .u64 (v:Int)]
 have hrd:Rd (w1.alloc (.cells #[.int .u64 (r:Int),.int .u64 (pub:Int),.int .u64 (v:Int)] 43)) (w1.heap.size+1) 1 (some ⟨w1.heap.size,0,none⟩) 3 ([r,pub,v].map Wv):=by
  refine ⟨rfl,.inr ⟨w1.heap.size,0,rfl,by omega,fun j u hu=> ?_⟩⟩;rw [hnew.cell]
  match j,hu with
  |0,hu=>simpa [Wv] using hu
  |1,hu=>simpa [Wv] using hu
  |2,hu=>simpa [Wv] using hu
 refine (Nj Sg.lSig [r,pub,v] _ 3 3 _ _ rfl (by decide) (by omega) hrd (by simp;omega)).mono ?_;rintro _ w2 ⟨rfl,hf2⟩;go_wp2
 go_ret
 exact ⟨rfl,(hf1.alloc _).trans hf2 zr⟩
theorem Ad5 (o X S:Nat) (ho:o<2305843009213693950) (hX:X<2305843009213693950) (hS:Hid ((o+X)%2305843009213693950=S)):((o:Int)+(X:Int))%2305843009213693950=(S:Int)/\((o:Int)+(X:Int)).tmod 2305843009213693950=(S:Int):=by
 have h2:((o:Int)+(X:Int))%2305843009213693950=(S:Int):=by rw [<- hS.out];omega
 exact ⟨h2,by rw [Int.tmod_eq_emod_of_nonneg (by omega),h2]⟩
theorem Ad6 (secret B n c:Nat) (A:Option Addr) (bs:List UInt8) (w:World) (hs:secret<18446744073709551616) (hlen:Hid (bs.length=n)) (hn:n<=1099511627775) (hB:B<=w.heap.size) (hr:Rd w B 1 A n (bs.map Bv)):
  Calls zp 141 #[.int .u64 (secret:Int),.slice A n c] w (Sb secret bs w):=by
 have a2:=Blk.new w 50 #[.int .u64 0,.int .u64 0];have aw:Fr Non w (w.alloc (.cells #[.int .u64 0,.int .u64 0] 50)):=(Fr.refl _ _).alloc _;have aq:=hr.alloc (.cells #[.int .u64 0,.int .u64 0] 50);have lp:=Fd.pow_lt 37 secret;have lm:=Sg.m_lt bs;have lo:=Sg.once_lt secret bs;have lr:=Sg.r_lt secret bs;have ao:Hid (Sg.x secret bs=Sg.e (Sg.r secret bs) (Sg.pub secret) bs*secret%2305843009213693950):=rfl;have ah:Hid ((Sg.once secret bs+Sg.x secret bs)%2305843009213693950=Sg.s secret bs):=rfl;have lx:=Sg.x_lt secret bs;have ls:=Sg.s_lt secret bs;have ag:Hid (∀w,Calls zp 138 #[.int .u64 37,.int .u64 (Sg.once secret bs:Int)] w fun e w'=>e=.returned (.int .u64 (Sg.r secret bs:Int))/\∃k,w'=w.drewN k):=fun w=>Ni 37 (Sg.once secret bs) w (by omega) (by omega);have a0:Sg.pub secret<2305843009213693951:=lp;have le:=Sg.e_lt (Sg.r secret bs) (Sg.pub secret) bs;have aa:Hid (Sg.once secret bs=Hs.secret Sg.lNonce [secret,Sg.m bs]):=rfl;have ac:=lh (fun w=>Kj secret w hs);obtain ⟨P,hP⟩:=Ab (Sg.pub secret);obtain ⟨m,hm⟩:=Ab (Sg.m bs);obtain ⟨o,ho⟩:=Ab (Sg.once secret bs);obtain ⟨R,hR⟩:=Ab (Sg.r secret bs);rw [hR.out,hP.out] at ao le;rw [hR.out,ho.out] at ag;rw [ho.out] at ah lo aa;rw [hm.out] at aa lm;rw [hR.out] at lr;rw [hP.out] at a0 ac;obtain ⟨E,hE⟩:=Ab (Sg.e R P bs);rw [hE.out] at ao le;have ab:Hid (∀w,Calls zp 163 #[.int .u64 (E:Int),.int .u64 (secret:Int)] w fun e w'=>e=.returned (.int .u64 (Sg.x secret bs:Int))/\w=w'):=fun w=>by rw [ao.out];exact Ad3 E secret w
 obtain ⟨X,hX⟩:=Ab (Sg.x secret bs);obtain ⟨S,hS⟩:=Ab (Sg.s secret bs);rw [hX.out] at ab lx ah;rw [hS.out] at ah ls;obtain ⟨v1,v2⟩:=Ad5 o X S lo lx ah;have ad:Hid (∀w,Calls zp 165 #[] w fun e w'=>e=.returned (.int .u64 2305843009213693950)/\w=w'):=fun w=>Sf w;have z1:¬(2305843009213693950:Int)=0:=by decide
 go_enter func141,ntmps141;go_wp2_with fail;refine (Sh B n c A bs _ hlen hn (by simp;omega) aq).mono ?_;rw [hm.out];rintro _ w2 ⟨rfl,ai⟩;go_wp2_with fail;have al:=Blk.new w2 43 #[.int .u64 (secret:Int),.int .u64 (m:Int)]
 have ay:Rd (w2.alloc (.cells #[.int .u64 (secret:Int),.int .u64 (m:Int)] 43)) (w2.heap.size+1) 1 (some ⟨w2.heap.size,0,none⟩) 2 ([secret,m].map Wv):=by
  refine ⟨rfl,.inr ⟨w2.heap.size,0,rfl,by omega,fun j u hu=> ?_⟩⟩;rw [al.cell]
  match j,hu with
  |0,hu=>simpa [Wv] using hu
  |1,hu=>simpa [Wv] using hu
 refine (R9 Sg.lNonce [secret,m] _ 2 2 _ _ rfl (by decide) (by omega) ay (by simp;omega)).mono ?_;rw [<- aa.out];rintro _ w3 ⟨rfl,aj⟩;go_wp2_with fail;refine (ag.out _).mono ?_;rintro _ _ ⟨rfl,k4,rfl⟩;go_wp2_with fail;refine (ac.out _).mono ?_;rintro _ w4 ⟨rfl,ak⟩;have ax:=ai.size;have av:=aj.size;have ar:=ak.size;simp only [A70] at ax av;have az:w3.heap.size<=w4.heap.size:=ar;have a1:=((((aq.fr ai zr).alloc (.cells #[.int .u64 (secret:Int),.int .u64 (m:Int)] 43)).fr aj zr).drewN k4).fr ak zr;go_wp2_with fail;refine (Ad4 R P B n c A bs w4 (by omega) (by omega) hlen hn (by omega) a1).mono ?_;rw [hE.out];rintro _ w5 ⟨rfl,ap⟩;go_wp2_with fail;refine (ab.out _).mono ?_;rintro _ _ ⟨rfl,rfl⟩;unfold Hid at ad;generalize (2305843009213693950:Int)=M at*;have ae:=lh ad;clear ad;go_wp2_with fail;refine (ae.out _).mono ?_;rintro _ _ ⟨rfl,rfl⟩;have af:=(((((a2.fr ai zq).alloc (.cells #[.int .u64 (secret:Int),.int .u64 (m:Int)] 43)).fr aj zq).drewN k4).fr ak zq).fr ap zq;have au:=(((((aw.trans ai zr).alloc (.cells #[.int .u64 (secret:Int),.int .u64 (m:Int)] 43)).trans aj zr).drewN k4).trans ak zr).trans ap zr;have a4:=af.cell 0;have a5:=af.cell 1;have a3:=af.frozen 0;have a6:=af.frozen 1;go_wp2;refine Ed rfl rfl ((af.set 0 _).set 1 _) rfl underlying50 (by kernel_rfl) rfl ⟨?_,(au.setNew (A59 _) _ _).setNew (A59 _) _ _⟩;rw [hR.out,hS.out];rfl
namespace Oq
attribute [local go_sem ↓] Bq
attribute [local go_sem] Bool.not_false Bool.not_true
theorem Am (l:List Value) (ds:List Deferred) (i:Nat) (v:Value):(⟨l.toArray,ds⟩:Act).put (some i) v=⟨(l.set i v).toArray,ds⟩:=by simp [Act.put]
theorem Dp {P:Program} {Q:Exit->Act->World->Prop} {ops:Array Oper} {md:Region.Mode} {S:World->Prop} {fuel:Nat} {listed:Array Bool} {a:Act} {w:World} (i:Nat) {o:Oper} (hr:Region.ready md ops listed=[i]) (ho:ops[i]? =some o)
  (hw:Region.wanted o (yielded ops a.tmps)=true)
  (h:∀K':Act->World->Prop,Shut (∀a w,S w->(S w->wpAnyH P md ops Q S fuel (listed.setIfInBounds i true) a w)->K' a w)->Oper.wp P o a w K' Q):
  wpAnyH P md ops Q S (fuel+1) listed a w:=
 wpAnyH_ready hr (by simp) (AllReadyH.cons ho (fun K' hK=>by rw [if_pos hw];exact h K' hK) AllReadyH.nil)
def sec (kind:List UInt8) (u:Nat):Nat:=Hs.secret kind [u]
theorem Is (kind:List UInt8) (u:Nat):sec kind u<2305843009213693950:=Hs.secret_lt _ _
theorem Si (kind:List UInt8) (d:Int) (u:Nat) (w:World) (hu:IntKind.u64.wrap d=(u:Int)) (hu':u<18446744073709551616) (hk:kind.length<=1000):
  Calls zp 78 #[.string (str kind),.int .i64 d] w (De (sec kind u) w):=by
 have hb:=Blk.new w 43 #[.int .u64 (u:Int)];have hr:Rd (w.alloc (.cells #[.int .u64 (u:Int)] 43)) (w.alloc (.cells #[.int .u64 (u:Int)] 43)).heap.size 1 (some ⟨w.heap.size,0,none⟩) 1 ([u].map Wv):=Rd.blk (n:=1) (size:=1) (l:=[.int .u64 (u:Int)]) hb rfl;have hf:Fr Non w (w.alloc (.cells #[.int .u64 (u:Int)] 43)):=(Fr.refl Non w).alloc _;obtain ⟨st,hst⟩:=Ab (str kind);have k:=lh (R9 kind [u] (some ⟨w.heap.size,0,none⟩) 1 1 _ _ rfl (by omega) (by omega) hr (by simp;omega));rw [hst.out] at k ⊢;go_enter func78,ntmps78;go_wp2_with fail;refine k.out.mono ?_;rintro _ w1 ⟨rfl,f1⟩;go_wp2
 go_ret
 exact ⟨rfl,hf.trans f1 zr⟩
theorem Sj (d m:Int) (ld kp sg:Nat) (x:OpL) (w:World) (hat:x.at w w.heap.size) (hok:x.op.ok) (hsg:sg<18446744073709551616):
  Calls zp 90 #[.agg #[.int .i64 d,.int .i64 m,.int .u64 (ld:Int),.int .u64 (kp:Int),.int .u64 (sg:Int)],.agg x.cells] w (Ae ((x.by_==d)&&Sg.check sg x.op.bare x.r x.s) w):=by
 have ap:x.cells.size=27:=rfl;obtain ⟨CS,ae⟩:=Ab x.cells;have e0:Hid (CS[0]? =some (.int .i64 x.by_)):=by show _=_;rw [<- ae.out];rfl
 have az:Hid (CS[25]? =some (.int .u64 (x.r:Int))):=by show _=_;rw [<- ae.out];rfl
 have aw:Hid (CS[26]? =some (.int .u64 (x.s:Int))):=by show _=_;rw [<- ae.out];rfl
 have ac:Blk ((w.alloc (.cells #[.int .i64 d,.int .i64 m,.int .u64 (ld:Int),.int .u64 (kp:Int),.int .u64 (sg:Int)] 141)).alloc (.cells x.cells 52)).drew w.heap.size 141 #[.int .i64 d,.int .i64 m,.int .u64 (ld:Int),.int .u64 (kp:Int),.int .u64 (sg:Int)]:=((Blk.new w 141 _).alloc _).drew
 have ab:Blk ((w.alloc (.cells #[.int .i64 d,.int .i64 m,.int .u64 (ld:Int),.int .u64 (kp:Int),.int .u64 (sg:Int)] 141)).alloc (.cells x.cells 52)).drew (w.heap.size+1) 52 x.cells:=by
  have:=(Blk.new (w.alloc (.cells #[.int .i64 d,.int .i64 m,.int .u64 (ld:Int),.int .u64 (kp:Int),.int .u64 (sg:Int)] 141)) 52 x.cells).drew;rwa [A70] at this
 have af:Fr Non w ((w.alloc (.cells #[.int .i64 d,.int .i64 m,.int .u64 (ld:Int),.int .u64 (kp:Int),.int .u64 (sg:Int)] 141)).alloc (.cells x.cells 52)).drew:=(((Fr.refl Non w).alloc _).alloc _).drew;have ag:=OpL.frame hat af;have kb:=lh (fun w' (h:x.at w' w'.heap.size)=>M5 x w' h hok);have lb:=Op.bare_len x.op hok;have hr:=hok.r;have hs:=hok.s;have kc:=lh (fun (A:Option Addr) (c:Nat) (w':World) (B:Nat) (h:Own w' B 5 1 A x.op.bare.length c (x.op.bare.map Bv))=>Nn sg x.r x.s w'.heap.size x.op.bare.length c A x.op.bare w' hsg hr hs rfl h.cap.1 (by omega) (A59 _) h.rd);obtain ⟨D,hD⟩:=Ab x.op.bare;rw [hD.out] at kb lb kc;rw [hD.out];rw [ae.out] at ap ab ac kb ag af;rw [ae.out];have hi:(zp.info? 52).map (·.size)=some CS.size:=by rw [ap];kernel_rfl
 have hl:=Be (P:=zp) (w.heap.size+1) 52 underlying52 rfl hi;obtain ⟨V,hV⟩:=Ab (Sg.check sg D x.r x.s);rw [hV.out] at kc ⊢;unfold Ir at kc;clear hat hok hr hs hD
 by_cases hd:x.by_=d
 ·
  have hb:(x.by_==d)=true:=by simp [hd]
  have ad:Hid (((x.by_==d)&&V)=V):=by show _=_;rw [hb];simp
  rw [ad.out];clear hd ad;go_enter func90,ntmps90;go_upto_region 1 with (fail)
  generalize (w.alloc (.cells #[.int .i64 d,.int .i64 m,.int .u64 (ld:Int),.int .u64 (kp:Int),.int .u64 (sg:Int)] 141)).alloc (.cells CS 52)=w0 at*;refine wp_region_held_drew (S:=fun w'=>Blk w' w.heap.size 141 #[.int .i64 d,.int .i64 m,.int .u64 (ld:Int),.int .u64 (kp:Int),.int .u64 (sg:Int)]/\Blk w' (w.heap.size+1) 52 CS) (by kernel_rfl) ⟨ac,ab⟩ (fun _=> ?_);refine tkH 0 ⟨ac,ab⟩ (h:=?_);(try simp only [zl]);refine wpAnyH_take (i:=1) (v:=?_) rfl (by kernel_rfl) (by kernel_rfl) (by kernel_rfl) (fun _ _ _ h=>h) (Or.inl ⟨by kernel_rfl,?_⟩) ⟨ac,ab⟩ ?_;rotate_left
  focus (intro w' aa;have b1:=aa.1;have b2:=aa.2;have q:cI w' (w.heap.size+1) 0 x.by_:=(b2.cell 0).trans e0.out;go_simp;(try with_reducible rfl))
  try simp only [Am,zl]
  refine tkH 2 ⟨ac,ab⟩ (h:=?_);(try simp only [zl]);refine wpAnyH_take (i:=3) (v:=?_) rfl (by kernel_rfl) (by kernel_rfl) (by kernel_rfl) (fun _ _ _ h=>h) (Or.inl ⟨by kernel_rfl,?_⟩) ⟨ac,ab⟩ ?_;rotate_left
  focus (intro w' aa;have b1:=aa.1;have b2:=aa.2;have q:cI w' w.heap.size 0 d:=b1.cell 0;go_simp;(try with_reducible rfl))
  try simp only [Am,zl]
  refine tkH 4 ⟨ac,ab⟩ (h:=?_);(try simp only [zl]);refine tkH 5 ⟨ac,ab⟩ (h:=?_);(try simp only [zl]);refine tkH 6 ⟨ac,ab⟩ (h:=?_);(try simp only [zl]);refine wpAnyH_take (i:=7) (v:=?_) rfl (by kernel_rfl) (by kernel_rfl) (by kernel_rfl) (fun _ _ _ h=>h) (Or.inl ⟨by kernel_rfl,?_⟩) ⟨ac,ab⟩ ?_;rotate_left
  focus (intro w' aa;have b1:=aa.1;have b2:=aa.2;have q:cU w' w.heap.size 4 sg:=b1.cell 4;go_simp;(try with_reducible rfl))
  try simp only [Am,zl]
  refine tkH 8 ⟨ac,ab⟩ (h:=?_);(try simp only [zl]);refine tkH 11 ⟨ac,ab⟩ (h:=?_);(try simp only [zl]);refine wpAnyH_take (i:=12) (v:=?_) rfl (by kernel_rfl) (by kernel_rfl) (by kernel_rfl) (fun _ _ _ h=>h) (Or.inl ⟨by kernel_rfl,?_⟩) ⟨ac,ab⟩ ?_;rotate_left
  focus (intro w' aa;have b1:=aa.1;have b2:=aa.2;have q1:cU w' (w.heap.size+1) 25 x.r:=(b2.cell 25).trans az.out;have q2:cU w' (w.heap.size+1) 26 x.s:=(b2.cell 26).trans aw.out;go_simp;(try with_reducible rfl))
  try simp only [Am,zl]
  refine Dp 9 (by kernel_rfl) rfl (by kernel_rfl) (fun K hK=> ?_);go_simp;go_wp2_with (go_at_call 72;(with_reducible refine (kb.out _ ag).mono ?_);rintro _ v1 ⟨A1,c1,rfl,o1,f1⟩;have al:=ac.fr f1 zq;have aj:=ab.fr f1 zq;have au:=OpL.frame ag f1;have aq:=af.trans f1 zr;have ar:OutAt v1 w0.heap.size (w0.heap.size+1) A1 c1 D:=o1);refine hK.out _ _ ⟨al,aj⟩ (fun _=> ?_);clear hK K;try simp only [Am,zl]
  refine Dp 10 (by kernel_rfl) rfl (by kernel_rfl) (fun K hK=> ?_);go_simp;go_wp2_with (go_at_call 73;(with_reducible refine (Mp _ _ A1 c1 _ _ ar (by omega)).mono ?_);rintro _ v2 ⟨A2,c2,rfl,o2,f2⟩;have ao:=al.fr f2 zq;have ak:=aj.fr f2 zq;have ay:=OpL.frame au f2;have ax:=aq.trans f2 zr);refine hK.out _ _ ⟨ao,ak⟩ (fun _=> ?_);clear hK K;try simp only [Am,zl]
  refine Dp 13 (by kernel_rfl) rfl (by kernel_rfl) (fun K hK=> ?_);go_simp;go_wp2_with (go_at_call 148;(with_reducible refine (kc.out _ _ _ _ o2).mono ?_);rintro _ v3 ⟨rfl,f3⟩;have ah:=ao.fr f3 zq;have ai:=ak.fr f3 zq;have a0:=OpL.frame ay f3;have av:=ax.trans f3 zr);refine hK.out _ _ ⟨ah,ai⟩ (fun _=> ?_);clear hK K;try simp only [Am,zl]
  refine tkH 14 ⟨ah,ai⟩ (h:=?_);(try simp only [zl]);refine tkH 15 ⟨ah,ai⟩ (h:=?_);(try simp only [zl]);refine oD ?_;go_wp2
  go_ret
  exact ⟨rfl,av⟩
 ·
  have hb:(x.by_==d)=false:=by simp [hd]
  have ad:Hid (((x.by_==d)&&V)=false):=by show _=_;rw [hb];simp
  rw [ad.out];clear hd ad;go_enter func90,ntmps90;go_upto_region 1 with (fail)
  generalize (w.alloc (.cells #[.int .i64 d,.int .i64 m,.int .u64 (ld:Int),.int .u64 (kp:Int),.int .u64 (sg:Int)] 141)).alloc (.cells CS 52)=w0 at*;refine wp_region_held_drew (S:=fun w'=>Blk w' w.heap.size 141 #[.int .i64 d,.int .i64 m,.int .u64 (ld:Int),.int .u64 (kp:Int),.int .u64 (sg:Int)]/\Blk w' (w.heap.size+1) 52 CS) (by kernel_rfl) ⟨ac,ab⟩ (fun _=> ?_);refine tkH 0 ⟨ac,ab⟩ (h:=?_);(try simp only [zl]);refine wpAnyH_take (i:=1) (v:=?_) rfl (by kernel_rfl) (by kernel_rfl) (by kernel_rfl) (fun _ _ _ h=>h) (Or.inl ⟨by kernel_rfl,?_⟩) ⟨ac,ab⟩ ?_;rotate_left
  focus (intro w' aa;have b1:=aa.1;have b2:=aa.2;have q:cI w' (w.heap.size+1) 0 x.by_:=(b2.cell 0).trans e0.out;go_simp;(try with_reducible rfl))
  try simp only [Am,zl]
  refine tkH 2 ⟨ac,ab⟩ (h:=?_);(try simp only [zl]);refine wpAnyH_take (i:=3) (v:=?_) rfl (by kernel_rfl) (by kernel_rfl) (by kernel_rfl) (fun _ _ _ h=>h) (Or.inl ⟨by kernel_rfl,?_⟩) ⟨ac,ab⟩ ?_;rotate_left
  focus (intro w' aa;have b1:=aa.1;have b2:=aa.2;have q:cI w' w.heap.size 0 d:=b1.cell 0;go_simp;(try with_reducible rfl))
  try simp only [Am,zl]
  refine tkH 4 ⟨ac,ab⟩ (h:=?_);(try simp only [zl]);refine tkH 5 ⟨ac,ab⟩ (h:=?_);(try simp only [zl]);refine wpAnyH_take (i:=6) (v:=undef) rfl (by kernel_rfl) (by kernel_rfl) (by kernel_rfl) (fun _ _ _ h=>h) (Or.inr ⟨by kernel_rfl,rfl⟩) ⟨ac,ab⟩ ?_;try simp only [Am,zl]
  refine wpAnyH_take (i:=7) (v:=undef) rfl (by kernel_rfl) (by kernel_rfl) (by kernel_rfl) (fun _ _ _ h=>h) (Or.inr ⟨by kernel_rfl,rfl⟩) ⟨ac,ab⟩ ?_;try simp only [Am,zl]
  refine wpAnyH_take (i:=8) (v:=undef) rfl (by kernel_rfl) (by kernel_rfl) (by kernel_rfl) (fun _ _ _ h=>h) (Or.inr ⟨by kernel_rfl,rfl⟩) ⟨ac,ab⟩ ?_;try simp only [Am,zl]
  refine wpAnyH_take (i:=9) (v:=undef) rfl (by kernel_rfl) (by kernel_rfl) (by kernel_rfl) (fun _ _ _ h=>h) (Or.inr ⟨by kernel_rfl,rfl⟩) ⟨ac,ab⟩ ?_;try simp only [Am,zl]
  refine wpAnyH_take (i:=10) (v:=undef) rfl (by kernel_rfl) (by kernel_rfl) (by kernel_rfl) (fun _ _ _ h=>h) (Or.inr ⟨by kernel_rfl,rfl⟩) ⟨ac,ab⟩ ?_;try simp only [Am,zl]
  refine wpAnyH_take (i:=11) (v:=undef) rfl (by kernel_rfl) (by kernel_rfl) (by kernel_rfl) (fun _ _ _ h=>h) (Or.inr ⟨by kernel_rfl,rfl⟩) ⟨ac,ab⟩ ?_;try simp only [Am,zl]
  refine wpAnyH_take (i:=12) (v:=undef) rfl (by kernel_rfl) (by kernel_rfl) (by kernel_rfl) (fun _ _ _ h=>h) (Or.inr ⟨by kernel_rfl,rfl⟩) ⟨ac,ab⟩ ?_;try simp only [Am,zl]
  refine wpAnyH_take (i:=13) (v:=undef) rfl (by kernel_rfl) (by kernel_rfl) (by kernel_rfl) (fun _ _ _ h=>h) (Or.inr ⟨by kernel_rfl,rfl⟩) ⟨ac,ab⟩ ?_;try simp only [Am,zl]
  refine tkH 14 ⟨ac,ab⟩ (h:=?_);(try simp only [zl]);refine tkH 15 ⟨ac,ab⟩ (h:=?_);(try simp only [zl]);refine oD ?_;go_wp2
  go_ret
  exact ⟨by go_simp,af⟩
theorem Sk {x:OpL} {w:World} {B:Nat} (o:x.at w B) (r s:Nat):({x with r:=r,s:=s}:OpL).at w B:=⟨o.past,o.path,o.nodes,o.body,o.refs,o.guards,o.boxes,o.hist,o.seals⟩
theorem Ad7 (x:OpL) (R S:Nat):({x with r:=R,s:=S}:OpL).op={x.op with r:=R,s:=S}:=rfl
def Ca:List UInt8:=[115,105,103,110]
def Nq (x:OpL) (secret:Nat) (w:World) (r:Ending) (w':World):Prop:=
 r=.returned (.agg ({x with r:=Sg.r secret x.op.bare,s:=Sg.s secret x.op.bare}:OpL).cells)/\Fr Non w w'
theorem Ad8 (x:OpL) (u:Nat) (w:World) (hu:IntKind.u64.wrap x.by_=(u:Int)) (hu':u<18446744073709551616) (hat:x.at w w.heap.size) (hok:x.op.ok):
  Calls zp 80 #[.agg x.cells] w (Nq x (sec Ca u) w):=by
 have hi:(zp.info? 52).map (·.size)=some 27:=by kernel_rfl
 have ah:Blk ((w.alloc (.cells x.cells 52)).alloc (.cells zO 52)).drew w.heap.size 52 x.cells:=((Blk.new w 52 _).alloc _).drew
 have a4:Blk ((w.alloc (.cells x.cells 52)).alloc (.cells zO 52)).drew (w.heap.size+1) 52 zO:=by
  have:=(Blk.new (w.alloc (.cells x.cells 52)) 52 zO).drew;rwa [A70] at this
 have ak:Fr Non w ((w.alloc (.cells x.cells 52)).alloc (.cells zO 52)).drew:=(((Fr.refl Non w).alloc _).alloc _).drew;have ap:=OpL.frame hat ak;have hs:=Is Ca u;have k1:Hid (∀w':World,Calls zp 78 #[.string ⟨#[115,105,103,110]⟩,.int .i64 x.by_] w' (De (sec Ca u) w')):=fun w'=>Si Ca x.by_ u w' hu hu' (by decide);have kb:=lh (fun w' (h:x.at w' w'.heap.size)=>M8 x w' h hok);have lb:=Op.bare_len x.op hok;have ks:=lh (fun (A:Option Addr) (c:Nat) (w':World) (B:Nat) (h:Own w' B 5 1 A x.op.bare.length c (x.op.bare.map Bv))=>Ad6 (sec Ca u) w'.heap.size x.op.bare.length c A x.op.bare w' (by omega) rfl (by omega) (A59 _) h.rd);have ab:∀(R S:Nat) (w':World),Sg.r (sec Ca u) x.op.bare=R->Sg.s (sec Ca u) x.op.bare=S->({x with r:=R,s:=S}:OpL).at w' w'.heap.size->Fr Non w w'->Nq x (sec Ca u) w (.returned (.agg ({x with r:=R,s:=S}:OpL).cells)) w':=fun R S w' h1 h2 h3 h4=>by subst h1;subst h2;exact ⟨rfl,h4⟩
 obtain ⟨D,hD⟩:=Ab x.op.bare;rw [hD.out] at kb lb ks ab;generalize sec Ca u=V at*;obtain ⟨R,hR⟩:=Ab (Sg.r V D);obtain ⟨S,hS⟩:=Ab (Sg.s V D);unfold Sb Ir at ks;rw [hR.out,hS.out] at ks;have aa:=lh (fun w'=>ab R S w' hR.out hS.out);generalize Nq x V w=POST at aa ⊢;have a9:=Be (P:=zp) w.heap.size 52 underlying52 rfl (cs:=x.cells) hi;have ad:=lh hat;clear ab hat hok hs hD hR hS hu hu';go_enter func80,ntmps80;go_upto_region 1 with (fail)
 generalize (w.alloc (.cells x.cells 52)).alloc (.cells zO 52)=w0 at*;have c0:cI w0.drew w.heap.size 0 x.by_:=ah.cell 0;have f0:Fr Non w0.drew w0.drew:=Fr.refl _ _
 go_region_with (first
  |(go_at_call 78;(with_reducible refine (k1.out _).mono ?_);rintro _ v1 ⟨rfl,f1⟩;have al:=ah.fr f1 zq;have ag:=OpL.frame ap f1;have ay:=a4.fr f1 zq;have ao:=ak.trans f1 zr)
  |(go_at_call 53;(with_reducible refine (kb.out _ ag).mono ?_);rintro _ v2 ⟨A2,c2,rfl,o2,f2⟩;have ax:=al.fr f2 zq;have a5:=OpL.frame ag f2;have a0:=ay.fr f2 zq;have a1:=ao.trans f2 zr)
  |(go_at_call 141;(with_reducible refine (ks.out _ _ _ _ o2).mono ?_);rintro _ v3 ⟨rfl,f3⟩;have ae:=ax.fr f3 zq;have ba:=OpL.frame a5 f3;have a6:=a0.fr f3 zq;have aw:=a1.trans f3 zr;have bb:v3.cell? ⟨w.heap.size,25,none⟩=some _:=ae.cell 25;have a8:v3.cell? ⟨w.heap.size,26,none⟩=some _:=ae.cell 26;have bc:=ae.frozen 25;have a7:=ae.frozen 26))
 all_goals
  have aq:Blk _ w.heap.size 52 ({x with r:=R,s:=S}:OpL).cells:=(ae.set 25 (.int .u64 (R:Int))).set 26 (.int .u64 (S:Int));have az:=((Fr.refl (One w.heap.size) v3).setOne 25 (.int .u64 (R:Int))).setOne 26 (.int .u64 (S:Int));have au:=a6.fr az (fun e=>by have e':w.heap.size+1=w.heap.size:=e;omega);have ai:=(aw.setNew (A59 _) 25 (.int .u64 (R:Int))).setNew (A59 _) 26 (.int .u64 (S:Int));have aj:=Sk (OpL.frame ad.out ai) R S;generalize (v3.setCell ⟨w.heap.size,25,none⟩ (.int .u64 (R:Int))).setCell ⟨w.heap.size,26,none⟩ (.int .u64 (S:Int))=w4 at*;have ac:=E8 ({x with r:=R,s:=S}:OpL)
  have a3:Hid (∀wz,Fr (One (w.heap.size+1)) w4 wz->POST (.returned (.agg ({x with r:=R,s:=S}:OpL).cells)) wz):=by
   intro wz hf;have av:=ai.trans hf (fun k hk e=>absurd hk (by have e':k=w.heap.size+1:=e;omega));exact aa.out wz (Sk (OpL.frame ad.out av) R S) av
  clear aj aa ad ai ah al ax ae a4 ay a0 a6 ap ag a5 ba ak ao a1 aw bb a8 bc a7 az a9 o2 f1 f2 f3 c0 f0;generalize ({x with r:=R,s:=S}:OpL)=v at aq ac a3;have af:True:=trivial
  go_wp2_with (first
   |(have _t:=af;refine Jv rfl 52 (.tmp 1) rfl rfl aq underlying52 rfl hi ?_;clear af _t)
   |(refine Io rfl 52 (.tmp 2) (.tmp 10) rfl rfl rfl rfl au hi rfl ac ?_;have a2:=(Fr.refl (One (w.heap.size+1)) w4).setRow (g:=w.heap.size+1) (fun _=>rfl) v.cells;have ar:=au.setRow (cs:=v.cells);generalize w4.setRow (w.heap.size+1) v.cells=wz at a2 ar ⊢;(repeat (first|go_values|go_skip|go_guarded|go_step));exact Ed (t:=52) rfl rfl ar rfl underlying52 (by kernel_rfl) rfl (a3.out wz a2)))
def Ha:List UInt8:=[108,101,97,100]
def Hc:List UInt8:=[107,101,101,112]
def Cs (i:Nat) (m:Int):Cd:=⟨(i:Int)+1,m,Sg.pub (sec Ha (i+1)),Sg.pub (sec Hc (i+1)),Sg.pub (sec Ca (i+1))⟩
def Bb (i:Nat):List Int->List Cd
 |[]=>[]
 |m::r=>Cs i m::Bb (i+1) r
theorem It (l:List Int):∀i,(Bb i l).length=l.length:=by
 induction l with
 |nil=>intro i;rfl
 |cons m r ih=>intro i;simp [Bb,ih]
theorem Ad9 (l:List Int) (m:Int):∀i,Bb i (l++[m])=Bb i l++[Cs (i+l.length) m]:=by
 induction l with
 |nil=>intro i;rfl
 |cons x r ih=>
  intro i;show Cs i x::Bb (i+1) (r++[m])=_;rw [ih,List.length_cons,show i+1+r.length=i+(r.length+1) by omega];rfl
theorem slCd:SlT zp 23 141 (.agg zC) 5 40:=⟨underlying23,by kernel_rfl,rfl,by decide⟩
def Sm (l:List Int) (n:Nat) (w:World) (r:Ending) (w':World):Prop:=
 ∃A c,r=.returned (.slice A n c)/\Own w' w.heap.size 141 5 A n c ((Bb 0 l).flatMap Cd.cells)/\Fr Non w w'
theorem Ae0 (n c:Nat) (A:Option Addr) (l:List Int) (w:World) (hn:Hid (l.length=n)) (hl:n<=1000) (hr:Rd w w.heap.size 1 A n (l.map Iv)):
  Calls zp 31 #[.slice A n c] w (Sm l n w):=by
 have ap:∀(kind:List UInt8) (k:Nat) (w':World),k<n->kind.length<=1000->Calls zp 78 #[.string (str kind),.int .i64 ((k:Int)+1)] w' (De (sec kind (k+1)) w'):=fun kind k w' hkn hkl=>Si kind _ (k+1) w' (by rw [IntKind.wrap_u64];omega) (by omega) hkl;go_enter func31,ntmps31;go_wp2
 go_loopw [3,4] (fun s v wr=>∃(k:Nat) (A':Option Addr) (c':Nat),v=.int .i64 (k:Int)/\s=.slice A' k c'/\k<=n/\Own wr w.heap.size 141 5 A' k c' ((Bb 0 (l.take k)).flatMap Cd.cells)/\Fr Non w wr) (fun _ v _=>n-(intOf v).toNat)
 case atStart=>exact ⟨0,none,0,rfl,rfl,by omega,Own.nil _ _ _ _,Fr.refl _ _⟩
 case round=>
  obtain ⟨k,A',c',rfl,rfl,hk,ab,hf⟩:=hrel
  by_cases hlt:k<n
  ·
   obtain ⟨b,av,v,rfl,hb,hu,hc⟩:=(hr.fr hf zr).at hlt;rw [List.getElem?_map] at hu;obtain ⟨mm,a8,rfl⟩:=Option.map_eq_some_iff.1 hu
   have aw:l.take (k+1)=l.take k++[mm]:=by
    obtain ⟨hx,rfl⟩:=List.getElem?_eq_some_iff.1 a8;exact A73 hx
   have ax:(l.take k).length=k:=by rw [List.length_take,hn.out];omega
   have bb:Hid (((Bb 0 (l.take (k+1))).flatMap Cd.cells)=(Bb 0 (l.take k)).flatMap Cd.cells++(Cs k mm).cells):=by
    show _=_;rw [aw,Ad9,ax,Nat.zero_add,List.flatMap_append,List.flatMap_cons,List.flatMap_nil,List.append_nil]
   obtain ⟨V1,a0⟩:=Ab (sec Ha (k+1));obtain ⟨V2,a4⟩:=Ab (sec Hc (k+1));obtain ⟨V3,ba⟩:=Ab (sec Ca (k+1));have l1:=Is Ha (k+1);have l2:=Is Hc (k+1);have l3:=Is Ca (k+1);have k1:Hid (∀w':World,Calls zp 78 #[.string ⟨#[108,101,97,100]⟩,.int .i64 ((k:Int)+1)] w' (De (sec Ha (k+1)) w')):=fun w'=>ap Ha k w' hlt (by decide);have k2:Hid (∀w':World,Calls zp 78 #[.string ⟨#[107,101,101,112]⟩,.int .i64 ((k:Int)+1)] w' (De (sec Hc (k+1)) w')):=fun w'=>ap Hc k w' hlt (by decide);have k3:Hid (∀w':World,Calls zp 78 #[.string ⟨#[115,105,103,110]⟩,.int .i64 ((k:Int)+1)] w' (De (sec Ca (k+1)) w')):=fun w'=>ap Ca k w' hlt (by decide);have p1:=lh (fun w'=>Kj (sec Ha (k+1)) w' (by omega));have p2:=lh (fun w'=>Kj (sec Hc (k+1)) w' (by omega));have p3:=lh (fun w'=>Kj (sec Ca (k+1)) w' (by omega))
   have ad:Hid ((Cs k mm).cells=[.int .i64 ((k:Int)+1),.int .i64 mm,.int .u64 (Sg.pub (sec Ha (k+1)):Int),.int .u64 (Sg.pub (sec Hc (k+1)):Int),.int .u64 (Sg.pub (sec Ca (k+1)):Int)]):=by
    show _=_;unfold Cs;exact Zm _ _ _ _ _
   rw [a0.out] at k1 p1 ad l1;rw [a4.out] at k2 p2 ad l2;rw [ba.out] at k3 p3 ad l3;obtain ⟨Q1,a5⟩:=Ab (Sg.pub V1);obtain ⟨Q2,a7⟩:=Ab (Sg.pub V2);obtain ⟨Q3,bd⟩:=Ab (Sg.pub V3);rw [a5.out] at p1 ad;rw [a7.out] at p2 ad;rw [bd.out] at p3 ad;have ao:Hid (∀(A2:Option Addr) (c2:Nat) (w2:World),Own w2 w.heap.size 141 5 A2 (k+1) c2 ((Bb 0 (l.take k)).flatMap Cd.cells++[.int .i64 ((k:Int)+1),.int .i64 mm,.int .u64 (Q1:Int),.int .u64 (Q2:Int),.int .u64 (Q3:Int)])->Own w2 w.heap.size 141 5 A2 (k+1) c2 ((Bb 0 (l.take (k+1))).flatMap Cd.cells)):=fun A2 c2 w2 h=>by rw [bb.out,ad.out];exact h
   clear a0 a4 ba a5 a7 bd bb ad aw ax a8 hu hn ap;obtain ⟨XS,bg⟩:=Ab ((Bb 0 (l.take k)).flatMap Cd.cells);rw [bg.out] at ab ao;have bn:b<w.heap.size:=hb;have ac:cI wr.drew b (av+k) mm:=hc;have ah:Own wr.drew w.heap.size 141 5 A' k c' XS:=ab;have bl:=hf.drew;go_upto_region 6 with (fail)
   refine wp_region_held_drew (S:=fun w'=>cI w' b (av+k) mm) (by kernel_rfl) ac (fun _=> ?_);refine tkH 0 ac (h:=?_);(try simp only [zl]);refine tkH 1 ac (h:=?_);(try simp only [zl]);refine tkH 2 ac (h:=?_);(try simp only [zl]);refine tkH 3 ac (h:=?_);(try simp only [zl]);refine tkH 4 ac (h:=?_);(try simp only [zl]);refine tkH 5 ac (h:=?_);(try simp only [zl]);refine tkH 6 ac (h:=?_);(try simp only [zl]);refine tkH 9 ac (h:=?_);(try simp only [zl]);refine tkH 12 ac (h:=?_);(try simp only [zl]);refine Dp 7 (by kernel_rfl) rfl (by kernel_rfl) (fun K hK=> ?_);go_simp;go_wp2_with (go_at_call 78;(with_reducible refine (k1.out _).mono ?_);rintro _ v1 ⟨rfl,f1⟩;have a6:=f1.cell ac zq;have ak:=ah.fr f1 zr;have bi:=bl.trans f1 zr);refine hK.out _ _ a6 (fun _=> ?_);clear hK K;try simp only [Am,zl]
   refine Dp 8 (by kernel_rfl) rfl (by kernel_rfl) (fun K hK=> ?_);go_simp;go_wp2_with (go_at_call 77;(with_reducible refine (p1.out _).mono ?_);rintro _ v2 ⟨rfl,f2⟩;have bc:=f2.cell a6 zq;have ae:=ak.fr f2 zr;have bm:=bi.trans f2 zr);refine hK.out _ _ bc (fun _=> ?_);clear hK K;try simp only [Am,zl]
   refine Dp 10 (by kernel_rfl) rfl (by kernel_rfl) (fun K hK=> ?_);go_simp;go_wp2_with (go_at_call 78;(with_reducible refine (k2.out _).mono ?_);rintro _ v3 ⟨rfl,f3⟩;have be:=f3.cell bc zq;have ai:=ae.fr f3 zr;have bk:=bm.trans f3 zr);refine hK.out _ _ be (fun _=> ?_);clear hK K;try simp only [Am,zl]
   refine Dp 11 (by kernel_rfl) rfl (by kernel_rfl) (fun K hK=> ?_);go_simp;go_wp2_with (go_at_call 77;(with_reducible refine (p2.out _).mono ?_);rintro _ v4 ⟨rfl,f4⟩;have a1:=f4.cell be zq;have ag:=ai.fr f4 zr;have bh:=bk.trans f4 zr);refine hK.out _ _ a1 (fun _=> ?_);clear hK K;try simp only [Am,zl]
   refine Dp 13 (by kernel_rfl) rfl (by kernel_rfl) (fun K hK=> ?_);go_simp;go_wp2_with (go_at_call 78;(with_reducible refine (k3.out _).mono ?_);rintro _ v5 ⟨rfl,f5⟩;have a3:=f5.cell a1 zq;have aj:=ag.fr f5 zr;have bj:=bh.trans f5 zr);refine hK.out _ _ a3 (fun _=> ?_);clear hK K;try simp only [Am,zl]
   refine Dp 14 (by kernel_rfl) rfl (by kernel_rfl) (fun K hK=> ?_);go_simp;go_wp2_with (go_at_call 77;(with_reducible refine (p3.out _).mono ?_);rintro _ v6 ⟨rfl,f6⟩;have ar:=f6.cell a3 zq;have af:=aj.fr f6 zr;have a9:=bj.trans f6 zr);refine hK.out _ _ ar (fun _=> ?_);clear hK K;try simp only [Am,zl]
   refine tkH 15 ar (h:=?_);(try simp only [zl]);refine Dp 16 (by kernel_rfl) rfl (by kernel_rfl) (fun K hK=> ?_);go_simp;have a2:=Mr ar (.cells #[.int .i64 ((k:Int)+1),.int .i64 mm,.int .u64 (Q1:Int),.int .u64 (Q2:Int),.int .u64 (Q3:Int)] 141);have al:=af.alloc (.cells #[.int .i64 ((k:Int)+1),.int .i64 mm,.int .u64 (Q1:Int),.int .u64 (Q2:Int),.int .u64 (Q3:Int)] 141);have au:=Rd.blk (n:=1) (size:=5) (Blk.new v6 141 #[.int .i64 ((k:Int)+1),.int .i64 mm,.int .u64 (Q1:Int),.int .u64 (Q2:Int),.int .u64 (Q3:Int)]) rfl;refine hK.out _ _ a2 (fun _=> ?_);clear hK K;go_simp;refine wpAnyH_ready (rs:=[17]) (by kernel_rfl) (by simp) (AllReadyH.cons rfl (fun K hK=> ?_) AllReadyH.nil);refine Mb (base:=w.heap.size) (.tmp 14) (.tmp 30) 23 (by rfl) (by rfl) (by rfl) (by rfl) slCd al au (by simp [Value.oneCell']) (by omega) (by omega) (by rw [A70];have:=a9.size;omega) ?_;intro A2 c2 w9 aq az bf;have ay:=az.cell a2 (fun e=>by have h:w.heap.size<=b:=(ab.row b e).1;omega);refine hK.out _ _ ay (fun _=> ?_);clear hK K;go_simp;refine tkH 18 ay (h:=?_);(try simp only [zl]);refine oD ?_;go_wp2;go_roundw
   case rel=>exact ⟨k+1,A2,c2,by go_num,rfl,by omega,ao.out A2 c2 _ aq,(a9.alloc _).trans az (fun j hj e=>by have:=(ab.row j e).1;omega)⟩
   case measure=>simp [intOf];omega
  ·
   obtain rfl:k=n:=by omega
   have ht:l.take k=l:=A79 (by rw [hn.out];exact A59 _);rw [ht] at ab;go_wp2
   go_ret
   exact ⟨A',c',rfl,ab,hf⟩
end Oq
namespace Oq
structure Pn where
 o:Op
 id:Id
 ps:Nat->Bool
 lev:Nat
def Aj.pn (n:Aj):Pn:=⟨n.x.op,n.id,n.past,n.lev⟩
def Gph.pns (g:Gph):List Pn:=g.nodes.map Aj.pn
def plc (l:List Pn) (id:Id):Option Nat:=l.findIdx? (fun n=>decide (n.id=id))
theorem Gv (l:List Aj) (id:Id):plc (l.map Aj.pn) id=place l id:=by
 unfold plc place;rw [List.findIdx?_map];rfl
theorem Cg {l:List Pn} {id:Id} {i:Nat} (h:plc l id=some i):∃n,l[i]? =some n/\n.id=id:=by
 obtain ⟨hi,h1,_⟩:=List.findIdx?_eq_some_iff_getElem.1 h;exact ⟨l[i],A80 hi,by simpa using h1⟩
theorem Gb {l:List Pn} {id:Id} {i:Nat} (h:plc l id=some i):i<l.length:=by
 obtain ⟨n,hn,_⟩:=Cg h;exact (List.getElem?_eq_some_iff.1 hn).1
def C8 (l:List Pn) (ids:List Id) (q:Nat):Bool:=ids.any (fun id=>plc l id==some q)
def upB (l:List Pn) (id:Id) (q:Nat):Bool:=match plc l id with|some i=>(l[i]?.map (fun n=>n.ps q)).getD false|none=>false
def Cn (l:List Pn) (ids:List Id) (q:Nat):Bool:=ids.any (fun id=>upB l id q)
def Ct (l:List Pn) (id:Id):Int:=match plc l id with|some i=>(l[i]?.map (fun n=>n.o.at_)).getD 0|none=>0
def late (l:List Pn) (ids:List Id):Int:=ids.foldl (fun t id=>max t (Ct l id)) 0
def Ao (l:List Pn) (id:Id):Nat:=match plc l id with|some i=>(l[i]?.map (fun n=>n.lev)).getD 0|none=>0
def lvl (l:List Pn) (ids:List Id):Nat:=ids.foldl (fun t id=>max t (Ao l id+1)) 1
def clash (l:List Pn) (ids:List Id):Bool:=(A74 256).any (fun q=>C8 l ids q&&Cn l ids q)
def Bc (l:List Pn) (p:Nat->Bool) (d:Int):Nat->Int
 |0=>0
 |k+1=>match l[k]? with
  |some n=>if (n.o.by_==d&&p k)=true then max (Bc l p d k) n.o.sq else Bc l p d k
  |none=>Bc l p d k
def Dq (l:List Pn) (p:Nat->Bool) (d s:Int):Nat->Bool
 |0=>false
 |k+1=>match l[k]? with
  |some n=>Dq l p d s k||(n.o.by_==d&&p k&&n.o.sq==s-1)
  |none=>Dq l p d s k
def Ak (l:List Pn) (ids:List Id) (q:Nat):Bool:=decide (q<256)&&(Cn l ids q||C8 l ids q)
def Cu (l:List Pn) (p:Nat->Bool) (o:Op):Bool:=decide (o.sq<=Bc l p o.by_ l.length)||(decide (1<o.sq)&& !Dq l p o.by_ o.sq l.length)
def Op.name (o:Op):Id:=⟨o.by_,o.sq,o.id⟩
def Ev (cards:List Cd) (d:Int):Option Cd:=cards.find? (fun c=>c.d==d)
def Au (cards:List Cd) (l:List Pn) (o:Op):Int:=
 if o.chk≠0 then o.chk
 else if (plc l o.name).isSome=true then 5
 else if 200<=l.length then 3
 else match Ev cards o.by_ with
  |none=>17
  |some c=>
   if Sg.check c.s o.bare o.r o.s=false then 12
   else if o.kind=1/\l≠[] then 1
   else if o.past.any (fun id=>(plc l id).isNone)=true then 10
   else if clash l o.past=true\/o.at_<late l o.past then 6
   else if Cu l (Ak l o.past) o=true then 11
   else 0
def Az (l:List Pn) (o:Op):Pn:=⟨o,o.name,Ak l o.past,lvl l o.past⟩
theorem Df {α:Type} {l:List α} {k:Nat} {x:α} (h:l[k]? =some x):l.take (k+1)=l.take k++[x]:=by
 obtain ⟨hk,rfl⟩:=List.getElem?_eq_some_iff.1 h;rw [A73 hk]
theorem Ae1 (l:List Pn) (ids:List Id) (k:Nat) {id:Id} (h:ids[k]? =some id):C8 l (ids.take (k+1))=fun q=>(plc l id==some q)||C8 l (ids.take k) q:=by
 funext q;unfold C8;rw [Df h,A75];simp [Bool.or_comm]
theorem Ae2 (l:List Pn) (ids:List Id) (k:Nat) {id:Id} (h:ids[k]? =some id):Cn l (ids.take (k+1))=fun q=>Cn l (ids.take k) q||upB l id q:=by
 funext q;unfold Cn;rw [Df h,A75];simp
theorem Sn (l:List Pn) (ids:List Id) (k:Nat) {id:Id} (h:ids[k]? =some id):late l (ids.take (k+1))=max (late l (ids.take k)) (Ct l id):=by
 unfold late;rw [Df h,A81];rfl
theorem Ae3 (l:List Pn) (ids:List Id) (k:Nat) {id:Id} (h:ids[k]? =some id):lvl l (ids.take (k+1))=max (lvl l (ids.take k)) (Ao l id+1):=by
 unfold lvl;rw [Df h,A81];rfl
theorem Sp (l:List Pn) (m:Int) (hm:0<=m) (h:∀n∈l,n.o.at_<=m) (ids:List Id):late l ids<=m:=by
 have hat:∀id,Ct l id<=m:=by
  intro id;unfold Ct
  split
  ·
   rename_i i hi;obtain ⟨n,hn,_⟩:=Cg hi;rw [hn];exact h n (A76 hn)
  · exact hm
 unfold late
 suffices H:∀(t:Int),t<=m->ids.foldl (fun t id=>max t (Ct l id)) t<=m from H 0 hm
 intro t
 induction ids generalizing t with
 |nil=>intro h;exact h
 |cons id r ih=>intro h;exact ih _ (by have:=hat id;dsimp only;omega)
theorem Sq (l:List Pn) (m:Nat) (h:∀n∈l,n.lev<=m) (ids:List Id):lvl l ids<=m+1:=by
 have hat:∀id,Ao l id<=m:=by
  intro id;unfold Ao
  split
  ·
   rename_i i hi;obtain ⟨n,hn,_⟩:=Cg hi;rw [hn];exact h n (A76 hn)
  · omega
 unfold lvl
 suffices H:∀(t:Nat),t<=m+1->ids.foldl (fun t id=>max t (Ao l id+1)) t<=m+1 from H 1 (by omega)
 intro t
 induction ids generalizing t with
 |nil=>intro h;exact h
 |cons id r ih=>intro h;exact ih _ (by have:=hat id;dsimp only;omega)
theorem Ae4 (ws:List Nat) (h:ws.length=4) (k:Nat) (hk:256<=k):((ws.getD (k/64) 0).testBit (k%64))=false:=by
 rw [List.getD_eq_getElem?_getD,A82 (by omega)];simp
theorem Ae5 {n:Aj} {m:Nat->Bool} (h:Bg n.ws m):n.past=fun q=>decide (q<256)&&m q:=by
 funext q;unfold Aj.past
 by_cases hq:q<256
 ·
  rw [<- h.bit q hq];simp [hq]
 ·
  rw [Ae4 n.ws rfl q (by omega)];simp [hq]
theorem Ae6 {a0 a1 a2 a3:Nat} {m:Nat->Bool} (h:Bg [a0,a1,a2,a3] m):(a0==0&&a1==0&&a2==0&&a3==0)=!(A74 256).any m:=by
 rw [Bool.eq_iff_iff];simp only [A65,beq_iff_eq,Bool.not_eq_true',A83,List.mem_range];constructor
 ·
  rintro ⟨⟨⟨rfl,rfl⟩,rfl⟩,rfl⟩ q hq;rw [h.bit q hq];have hq4:q/64=0\/q/64=1\/q/64=2\/q/64=3:=by omega
  rcases hq4 with e|e|e|e<;>rw [e]<;>simp
 ·
  intro hz
  have key:∀k,k<4->[a0,a1,a2,a3].getD k 0=0:=by
   intro k hk;refine Nat.eq_of_testBit_eq (fun j=> ?_);rw [Nat.zero_testBit]
   by_cases hj:j<64
   ·
    have h1:=h.bit (64*k+j) (by omega);have h2:=hz (64*k+j) (by omega);rw [show (64*k+j)/64=k by omega,show (64*k+j)%64=j by omega] at h1;rw [<- h1];simpa using h2
   ·
    have hu:=h.u64 k
    exact Nat.testBit_lt_two_pow (A84 hu (by
     have:(2:Nat)^64<=2^j:=Nat.pow_le_pow_right (by decide) (by omega);exact A71 (by decide) this))
  exact ⟨⟨⟨key 0 (by omega),key 1 (by omega)⟩,key 2 (by omega)⟩,key 3 (by omega)⟩
inductive Rows (cards:List Cd):List Pn->Prop
 |nil:Rows cards []
 |snoc (l:List Pn) (o:Op):Rows cards l->Au cards l o=0->Rows cards (l++[Az l o])
structure Sr (cards:List Cd) (l:List Pn) (o:Op):Prop where
 chk:o.chk=0
 new:plc l o.name=none
 room:l.length<200
 card:(Ev cards o.by_).isSome=true
 past:∀id∈o.past,∃i,plc l id=some i
 clash:clash l o.past=false
 late:late l o.past<=o.at_
 seq:Cu l (Ak l o.past) o=false
theorem Kk {cards:List Cd} {l:List Pn} {o:Op} (h:Au cards l o=0):Sr cards l o:=by
 unfold Au at h
 by_cases h1:o.chk≠0
 · rw [if_pos h1] at h;exact absurd h h1
 rw [if_neg h1] at h
 by_cases h2:(plc l o.name).isSome=true
 · rw [if_pos h2] at h;omega
 rw [if_neg h2] at h
 by_cases h3:200<=l.length
 · rw [if_pos h3] at h;omega
 rw [if_neg h3] at h
 cases hc:Ev cards o.by_ with
 |none=>rw [hc] at h;dsimp only at h;omega
 |some c=>
  rw [hc] at h;dsimp only at h
  by_cases h4:Sg.check c.s o.bare o.r o.s=false
  · rw [if_pos h4] at h;omega
  rw [if_neg h4] at h
  by_cases h5:o.kind=1/\l≠[]
  · rw [if_pos h5] at h;omega
  rw [if_neg h5] at h
  by_cases h6:o.past.any (fun id=>(plc l id).isNone)=true
  · rw [if_pos h6] at h;omega
  rw [if_neg h6] at h
  by_cases h7:Oq.clash l o.past=true\/o.at_<Oq.late l o.past
  · rw [if_pos h7] at h;omega
  rw [if_neg h7] at h
  by_cases h8:Cu l (Ak l o.past) o=true
  · rw [if_pos h8] at h;omega
  refine ⟨Decidable.not_not.1 h1,?_,by omega,by rw [hc];rfl,?_,?_,?_,Bool.not_eq_true _▸h8⟩
  ·
   cases hp:plc l o.name with
   |none=>rfl
   |some i=>rw [hp] at h2;exact absurd rfl h2
  ·
   intro id hid
   cases hp:plc l id with
   |some i=>exact ⟨i,rfl⟩
   |none=>exact absurd (List.any_eq_true.2 ⟨id,hid,by rw [hp];rfl⟩) h6
  ·
   cases hcl:Oq.clash l o.past with
   |false=>rfl
   |true=>exact absurd (Or.inl hcl) h7
  · exact Int.not_lt.1 (fun hh=>h7 (Or.inr hh))
theorem Gc {l:List Pn} {id:Id} {i:Nat} (n:Pn) (h:plc l id=some i):plc (l++[n]) id=some i:=by
 unfold plc at h ⊢;rw [A85,h];rfl
theorem Ae7 {l:List Pn} {n:Pn} (h:plc l n.id=none):plc (l++[n]) n.id=some l.length:=by
 unfold plc at h ⊢;rw [A85,h];simp
theorem Kl {l:List Pn} {p:Nat} {m n:Pn} (h:l[p]? =some m):(l++[n])[p]? =some m:=by
 obtain ⟨hp,hm⟩:=List.getElem?_eq_some_iff.1 h;rw [A60 hp];exact h
structure NOk (cards:List Cd) (l:List Pn) (i:Nat) (n:Pn):Prop where
 id:n.id=n.o.name
 plc:plc l n.id=some i
 chk:n.o.chk=0
 card:(Ev cards n.o.by_).isSome=true
 par:∀id∈n.o.past,∃p,p<i/\Oq.plc l id=some p
 lt:∀q,n.ps q=true->q<i
 ps:∀q,n.ps q=true<->∃id∈n.o.past,∃p m,Oq.plc l id=some p/\l[p]? =some m/\(q=p\/m.ps q=true)
 anti:∀id∈n.o.past,∀id'∈n.o.past,∀p p' m,Oq.plc l id=some p->Oq.plc l id'=some p'->l[p]? =some m->m.ps p'=false
 late:∀id∈n.o.past,∀p m,Oq.plc l id=some p->l[p]? =some m->m.o.at_<=n.o.at_
 lev:n.lev=lvl l n.o.past
 seqs:∀q m,n.ps q=true->l[q]? =some m->m.o.by_=n.o.by_->m.o.sq<n.o.sq
 one:n.o.sq=1\/∃q m,n.ps q=true/\l[q]? =some m/\m.o.by_=n.o.by_/\m.o.sq=n.o.sq-1
theorem Nr {l l':List Pn} {ids:List Id} (h:∀id∈ids,Ao l' id=Ao l id):lvl l' ids=lvl l ids:=by
 unfold lvl
 suffices H:∀t:Nat,ids.foldl (fun t id=>max t (Ao l' id+1)) t=ids.foldl (fun t id=>max t (Ao l id+1)) t from H 1
 induction ids with
 |nil=>intro t;rfl
 |cons x r ih=>intro t;rw [List.foldl_cons,List.foldl_cons,h x List.mem_cons_self];exact ih (fun y hy=>h y (List.mem_cons_of_mem _ hy)) _
theorem NOk.keep {cards:List Cd} {l:List Pn} {i:Nat} {n n':Pn} (h:NOk cards l i n) (hi:l[i]? =some n):NOk cards (l++[n']) i n:=by
 have hil:i<l.length:=(List.getElem?_eq_some_iff.1 hi).1
 have hpar:∀id∈n.o.past,∀p,Oq.plc (l++[n']) id=some p->Oq.plc l id=some p:=by
  intro id hid p hp;obtain ⟨q,_,hq⟩:=h.par id hid;rw [Gc n' hq] at hp;injection hp with hp
  subst hp;exact hq
 have hat:∀id∈n.o.past,∀p m,Oq.plc l id=some p->(l++[n'])[p]? =some m->l[p]? =some m:=by
  intro id hid p m hp hm;rw [A60 (Gb hp)] at hm;exact hm
 have hlow:∀q m,n.ps q=true->(l++[n'])[q]? =some m->l[q]? =some m:=by
  intro q m hq hm;rw [A60 (Nat.lt_trans (h.lt q hq) hil)] at hm;exact hm
 refine ⟨h.id,Gc n' h.plc,h.chk,h.card,fun id hid=> ?_,h.lt,fun q=>(h.ps q).trans ⟨?_,?_⟩,?_,?_,?_,?_,?_⟩
 ·
  obtain ⟨p,hp,hq⟩:=h.par id hid;exact ⟨p,hp,Gc n' hq⟩
 ·
  rintro ⟨id,hid,p,m,h1,h2,h3⟩;exact ⟨id,hid,p,m,Gc n' h1,Kl h2,h3⟩
 ·
  rintro ⟨id,hid,p,m,h1,h2,h3⟩;have h1':=hpar id hid p h1;exact ⟨id,hid,p,m,h1',hat id hid p m h1' h2,h3⟩
 ·
  intro id hid id' hid' p p' m h1 h2 h3;have h1':=hpar id hid p h1;exact h.anti id hid id' hid' p p' m h1' (hpar id' hid' p' h2) (hat id hid p m h1' h3)
 ·
  intro id hid p m h1 h2;have h1':=hpar id hid p h1;exact h.late id hid p m h1' (hat id hid p m h1' h2)
 ·
  rw [h.lev];refine (Nr (fun id hid=> ?_)).symm;obtain ⟨p,_,hq⟩:=h.par id hid;unfold Ao;rw [Gc n' hq,hq];dsimp only;rw [A60 (Gb hq)]
 ·
  intro q m hq hm;exact h.seqs q m hq (hlow q m hq hm)
 ·
  rcases h.one with h1|⟨q,m,h1,h2,h3⟩
  · exact .inl h1
  · exact .inr ⟨q,m,h1,Kl h2,h3⟩
theorem upB_iff {l:List Pn} {id:Id} {q:Nat}:upB l id q=true<->∃p m,plc l id=some p/\l[p]? =some m/\m.ps q=true:=by
 unfold upB;constructor
 ·
  intro h
  split at h
  ·
   rename_i p hp;obtain ⟨m,hm,_⟩:=Cg hp;rw [hm] at h;exact ⟨p,m,hp,hm,h⟩
  · cases h
 ·
  rintro ⟨p,m,h1,h2,h3⟩;rw [h1];dsimp only;rw [h2];exact h3
theorem Ss {l:List Pn} {ids:List Id} (hlen:l.length<=200) (hlt:∀(p:Nat) (m:Pn),l[p]? =some m->∀q,m.ps q=true->q<p) (q:Nat):
  Ak l ids q=true<->∃id∈ids,∃p m,plc l id=some p/\l[p]? =some m/\(q=p\/m.ps q=true):=by
 unfold Ak Cn C8;rw [A65,Bool.or_eq_true,A86,A86,decide_eq_true_eq];constructor
 ·
  rintro ⟨_,⟨id,hid,h⟩|⟨id,hid,h⟩⟩
  ·
   obtain ⟨p,m,h1,h2,h3⟩:=upB_iff.1 h;exact ⟨id,hid,p,m,h1,h2,.inr h3⟩
  ·
   have h1:plc l id=some q:=by simpa using h
   obtain ⟨m,hm,_⟩:=Cg h1;exact ⟨id,hid,q,m,h1,hm,.inl rfl⟩
 ·
  rintro ⟨id,hid,p,m,h1,h2,h3⟩;have hp:=Gb h1
  rcases h3 with rfl|h3
  · exact ⟨by omega,.inr ⟨id,hid,by rw [h1];exact beq_self_eq_true _⟩⟩
  ·
   have:=hlt p m h2 q h3;exact ⟨by omega,.inl ⟨id,hid,upB_iff.2 ⟨p,m,h1,h2,h3⟩⟩⟩
theorem St {l:List Pn} {ids:List Id} {id:Id} (h:id∈ids):Ct l id<=late l ids:=by
 unfold late
 have mono:∀(r:List Id) (t:Int),t<=r.foldl (fun t id=>max t (Ct l id)) t:=by
  intro r
  induction r with
  |nil=>intro t;exact Int.le_refl _
  |cons y r ih=>intro t;exact A66 (A77 _ _) (ih _)
 suffices H:∀t:Int,Ct l id<=ids.foldl (fun t id=>max t (Ct l id)) t from H 0
 induction ids with
 |nil=>cases h
 |cons x r ih=>
  intro t
  rcases List.mem_cons.1 h with rfl|h'
  · exact A66 (Int.le_max_right t _) (mono r _)
  · exact ih h' _
theorem Ae8 {l:List Pn} {ids:List Id} {id:Id} (h:id∈ids):Ao l id+1<=lvl l ids:=by
 unfold lvl
 have mono:∀(r:List Id) (t:Nat),t<=r.foldl (fun t id=>max t (Ao l id+1)) t:=by
  intro r
  induction r with
  |nil=>intro t;exact A59 _
  |cons y r ih=>intro t;exact A71 (Nat.le_max_left _ _) (ih _)
 suffices H:∀t:Nat,Ao l id+1<=ids.foldl (fun t id=>max t (Ao l id+1)) t from H 1
 induction ids with
 |nil=>cases h
 |cons x r ih=>
  intro t
  rcases List.mem_cons.1 h with rfl|h'
  · exact A71 (Nat.le_max_right t _) (mono r _)
  · exact ih h' _
theorem Iu {l:List Pn} {id:Id} {p:Nat} {m:Pn} (h1:plc l id=some p) (h2:l[p]? =some m):Ct l id=m.o.at_:=by
 unfold Ct;rw [h1];dsimp only;rw [h2];rfl
theorem H4 {l:List Pn} {id:Id} {p:Nat} {m:Pn} (h1:plc l id=some p) (h2:l[p]? =some m):Ao l id=m.lev:=by
 unfold Ao;rw [h1];dsimp only;rw [h2];rfl
theorem Ns {l:List Pn} {p:Nat->Bool} {d:Int}:∀{K k:Nat} {m:Pn},k<K->l[k]? =some m->m.o.by_=d->p k=true->m.o.sq<=Bc l p d K:=by
 intro K
 induction K with
 |zero=>intro k m h;omega
 |succ K ih=>
  intro k m h hm hd hp;unfold Bc
  rcases A78 k K with hk|hk
  ·
   have:=ih hk hm hd hp
   split
   ·
    split
    · exact A66 this (A77 _ _)
    · exact this
   · exact this
  ·
   have e:k=K:=by omega
   subst e;rw [hm];dsimp only;rw [if_pos (by rw [A65];exact ⟨beq_iff_eq.2 hd,hp⟩)];exact Int.le_max_right _ _
theorem aheadTo_iff {l:List Pn} {p:Nat->Bool} {d s:Int}:∀{K:Nat},Dq l p d s K=true<->∃k m,k<K/\l[k]? =some m/\m.o.by_=d/\p k=true/\m.o.sq=s-1:=by
 intro K
 induction K with
 |zero=>exact ⟨fun h=>(by cases h),fun ⟨k,m,h,_⟩=>by omega⟩
 |succ K ih=>
  unfold Dq
  cases hK:l[K]? with
  |none=>
   dsimp only;rw [ih];constructor
   ·
    rintro ⟨k,m,h,h'⟩;exact ⟨k,m,by omega,h'⟩
   ·
    rintro ⟨k,m,h,h1,h'⟩;have:k≠K:=fun e=>by subst e;rw [hK] at h1;cases h1
    exact ⟨k,m,by omega,h1,h'⟩
  |some n=>
   dsimp only;rw [Bool.or_eq_true,ih,A65,A65,beq_iff_eq,beq_iff_eq];constructor
   ·
    rintro (⟨k,m,h,h'⟩|⟨⟨h1,h2⟩,h3⟩)
    · exact ⟨k,m,by omega,h'⟩
    · exact ⟨K,n,by omega,hK,h1,h2,h3⟩
   ·
    rintro ⟨k,m,h,h1,h2,h3,h4⟩
    rcases A78 k K with hk|hk
    · exact .inl ⟨k,m,hk,h1,h2,h3,h4⟩
    ·
     have e:k=K:=by omega
     subst e;rw [hK] at h1;injection h1 with h1
     subst h1;exact .inr ⟨⟨h2,h3⟩,h4⟩
theorem Ae9 {cards:List Cd} {l:List Pn} {o:Op} (hl:∀i n,l[i]? =some n->NOk cards l i n) (T:Sr cards l o):NOk cards (l++[Az l o]) l.length (Az l o):=by
 have al:∀(p:Nat) (m:Pn),l[p]? =some m->∀q,m.ps q=true->q<p:=fun p m hm=>(hl p m hm).lt;have aj:=Ss (ids:=o.past) (Nat.le_of_lt T.room) al
 have ac:∀id∈o.past,∀p,plc (l++[Az l o]) id=some p->plc l id=some p:=by
  intro id aa p hp;obtain ⟨q,hq⟩:=T.past id aa;rw [Gc _ hq] at hp;injection hp with hp
  subst hp;exact hq
 have ah:∀id∈o.past,∀p m,plc l id=some p->(l++[Az l o])[p]? =some m->l[p]? =some m:=by
  intro id aa p m hp hm;rw [A60 (Gb hp)] at hm;exact hm
 have af:∀q,Ak l o.past q=true->q<l.length:=by
  intro q hq;obtain ⟨id,aa,p,m,h1,h2,h3⟩:=(aj q).1 hq;have:=Gb h1
  rcases h3 with rfl|h3
  · exact this
  ·
   have:=al p m h2 q h3;omega
 have ab:=T.seq;unfold Cu at ab;rw [Bool.or_eq_false_iff,decide_eq_false_iff_not] at ab;refine ⟨rfl,Ae7 (n:=Az l o) T.new,T.chk,T.card,?_,af,fun q=>(aj q).trans ⟨?_,?_⟩,?_,?_,?_,?_,?_⟩
 ·
  intro id aa;obtain ⟨p,hp⟩:=T.past id aa;exact ⟨p,Gb hp,Gc _ hp⟩
 ·
  rintro ⟨id,aa,p,m,h1,h2,h3⟩;exact ⟨id,aa,p,m,Gc _ h1,Kl h2,h3⟩
 ·
  rintro ⟨id,aa,p,m,h1,h2,h3⟩;have ad:=ac id aa p h1;exact ⟨id,aa,p,m,ad,ah id aa p m ad h2,h3⟩
 ·
  intro id aa ai ae p p' m h1 h2 h3;have ad:=ac id aa p h1;have ag:=ac ai ae p' h2;have ao:=ah id aa p m ad h3;have ap:=T.room;have aq:=Gb ag;have hc:=T.clash;unfold Oq.clash at hc;rw [A83] at hc;have hq:=hc p' (List.mem_range.2 (by omega))
  cases hm:m.ps p' with
  |false=>rfl
  |true=>
   refine absurd ?_ hq;rw [A65];exact ⟨List.any_eq_true.2 ⟨ai,ae,by rw [ag];exact beq_self_eq_true _⟩,List.any_eq_true.2 ⟨id,aa,upB_iff.2 ⟨p,m,ad,ao,hm⟩⟩⟩
 ·
  intro id aa p m h1 h2;have ad:=ac id aa p h1;have ag:=ah id aa p m ad h2;have:=St (l:=l) aa;rw [Iu ad ag] at this;exact A66 this T.late
 ·
  refine (Nr (l:=l) (l':=l++[Az l o]) (fun id aa=> ?_)).symm;obtain ⟨p,hq⟩:=T.past id aa;unfold Ao;rw [Gc _ hq,hq];dsimp only;rw [A60 (Gb hq)]
 ·
  intro q m hq hm hb;have ak:=af q hq;rw [A60 ak] at hm;have:=Ns (p:=Ak l o.past) ak hm hb hq;exact Int.lt_of_le_of_lt this (Int.not_le.1 ab.1)
 ·
  rcases Int.lt_or_le 1 o.sq with h1|h1
  ·
   have h2:=ab.2;rw [Bool.and_eq_false_iff] at h2
   rcases h2 with h2|h2
   ·
    rw [decide_eq_false_iff_not] at h2;exact absurd h1 h2
   ·
    have h3:Dq l (Ak l o.past) o.by_ o.sq l.length=true:=by
     cases ha:Dq l (Ak l o.past) o.by_ o.sq l.length with
     |true=>rfl
     |false=>rw [ha] at h2;cases h2
    obtain ⟨k,m,hk,hm,hb,hp,hs⟩:=aheadTo_iff.1 h3;exact .inr ⟨k,m,hp,Kl hm,hb,hs⟩
  ·
   refine .inl ?_
   have h0:∀K,0<=Bc l (Ak l o.past) o.by_ K:=by
    intro K
    induction K with
    |zero=>exact Int.le_refl _
    |succ K ih=>
     unfold Bc
     split
     ·
      split
      · exact A66 ih (A77 _ _)
      · exact ih
     · exact ih
   have h2:=h0 l.length;have h3:=Int.not_le.1 ab.1;have h4:(Az l o).o.sq=o.sq:=rfl;rw [h4];omega
theorem Rows.ok {cards:List Cd} {l:List Pn} (h:Rows cards l):∀i n,l[i]? =some n->NOk cards l i n:=by
 induction h with
 |nil=>intro i n h;simp at h
 |snoc l o hl ho ih=>
  intro i n hi
  rcases A78 i l.length with hlt|hge
  ·
   rw [A60 hlt] at hi;exact (ih i n hi).keep hi
  ·
   rw [List.getElem?_append_right hge] at hi
   have e:i-l.length=0:=by
    rcases Nat.eq_zero_or_pos (i-l.length) with h0|h0
    · exact h0
    · rw [A82 (by simp;omega)] at hi;cases hi
   rw [e] at hi;injection hi with hi
   subst hi;have:i=l.length:=by omega
   subst this;exact Ae9 ih (Kk ho)
theorem Rows.few {cards:List Cd} {l:List Pn} (h:Rows cards l):l.length<=200:=by
 induction h with
 |nil=>simp
 |snoc l o hl ho ih=>
  have:=(Kk ho).room;simp;omega
theorem Rows.trans {cards:List Cd} {l:List Pn} (h:Rows cards l):∀(i:Nat) {n m:Pn} {q r:Nat},l[i]? =some n->n.ps q=true->l[q]? =some m->m.ps r=true->n.ps r=true:=by
 intro i
 induction i using Nat.strongRecOn with
 |_ i ih=>
  intro n m q r hn hq hm hr;have k:=h.ok i n hn;obtain ⟨id,hid,p,m',h1,h2,h3⟩:=(k.ps q).1 hq;refine (k.ps r).2 ⟨id,hid,p,m',h1,h2,.inr ?_⟩
  rcases h3 with rfl|h3
  ·
   rw [h2] at hm;injection hm with hm
   subst hm;exact hr
  ·
   obtain ⟨p2,hp2,e⟩:=k.par id hid;rw [h1] at e;injection e with e
   subst e;exact ih p hp2 h2 h3 hm hr
theorem Rows.lev_lt {cards:List Cd} {l:List Pn} (h:Rows cards l):∀(i:Nat) {n m:Pn} {q:Nat},l[i]? =some n->n.ps q=true->l[q]? =some m->m.lev<n.lev:=by
 intro i
 induction i using Nat.strongRecOn with
 |_ i ih=>
  intro n m q hn hq hm;have k:=h.ok i n hn;obtain ⟨id,hid,p,m',h1,h2,h3⟩:=(k.ps q).1 hq;have hl:=Ae8 (l:=l) hid;rw [H4 h1 h2,<- k.lev] at hl
  rcases h3 with rfl|h3
  ·
   rw [h2] at hm;injection hm with hm
   subst hm;omega
  ·
   obtain ⟨p2,hp2,e⟩:=k.par id hid;rw [h1] at e;injection e with e
   subst e;have:=ih p hp2 h2 h3 hm;omega
theorem Rows.node {cards:List Cd} {l:List Pn} (h:Rows cards l) {i:Nat} {n:Pn} {id:Id} (hn:l[i]? =some n):plc l id=some i<->n.id=id:=by
 constructor
 ·
  intro hp;obtain ⟨m,hm,e⟩:=Cg hp;rw [hn] at hm;injection hm with hm
  subst hm;exact e
 ·
  rintro rfl;exact (h.ok i n hn).plc
def upOf (l:List Pn) (ids:List Id):List Nat:=ids.map (fun id=>(plc l id).getD 0)
def Af0 (l:List Pn):List (List Nat):=l.map (fun n=>upOf l n.o.past)
def Af1 (n:Nat) (p:Nat->Bool):List Bool:=(A74 n).map p
def Af2 (l:List Pn):List (List Bool):=l.map (fun n=>Af1 l.length n.ps)
theorem NOk.placed {cards:List Cd} {l:List Pn} {i:Nat} {n:Pn} (h:NOk cards l i n):∀id∈n.o.past,∃p,Oq.plc l id=some p:=fun id hid=>by
 obtain ⟨p,_,hp⟩:=h.par id hid;exact ⟨p,hp⟩
def RowLies (w:World) (base:Nat) (t:TypeId) (size:Nat) (A:Option Addr) (n c:Nat) (xs:List Value):Prop:=
 SlAt w w.heap.size size A n c xs/\(n=0\/∃k off cs fr,A=some ⟨k,off,none⟩/\base<=k/\w.heap[k]? =some (.cells cs t fr))
section
variable {S : Nat -> Prop} {P : TypeId -> Prop} {w w' : World} {base base' size n c : Nat} {t : TypeId} {A : Option Addr} {xs : List Value}
theorem RowAt.lies (h:RowAt w base t size A n c xs):RowLies w base t size A n c xs:=⟨h.1,h.2.imp zq (fun ⟨k,cs,fr,e,h1,h2,_⟩=>⟨k,0,cs,fr,e,h1,h2⟩)⟩
theorem RowLies.fr (h:RowLies w base t size A n c xs) (hf:Fr S w w') (hs:n≠0->∀k cs fr,Ad A=some k->w.heap[k]? =some (.cells cs t fr)->¬S k):RowLies w' base t size A n c xs:=by
 obtain ⟨⟨⟨h1,h2⟩,h3⟩,h4⟩:=h
 rcases h4 with h0|⟨k,o,cs,fr,rfl,hk,hb⟩
 · exact ⟨⟨⟨h1,.inl h0⟩,h3⟩,.inl h0⟩
 ·
  by_cases h0:n=0
  · exact ⟨⟨⟨h1,.inl h0⟩,h3⟩,.inl h0⟩
  ·
   have hkl:=(Array.getElem?_eq_some_iff.1 hb).1;have hbk:=hf.block k hkl (hs h0 k cs fr rfl hb);refine ⟨⟨⟨h1,?_⟩,h3⟩,.inr ⟨k,o,cs,fr,rfl,hk,hbk.trans hb⟩⟩
   rcases h2 with h2|⟨b,off,e,hlt,hc⟩
   · exact .inl h2
   ·
    injection e with e
    injection e with e1 e2
    subst e1 e2;exact .inr ⟨k,o,rfl,A84 hkl hf.size,fun j u hu=>(World.cell?_of_block hbk).trans (hc j u hu)⟩
theorem RowLies.keepT (h:RowLies w base t size A n c xs) (hf:Fr S w w') (hS:∀k cs fr,w.heap[k]? =some (.cells cs t fr)->¬S k):RowLies w' base t size A n c xs:=h.fr hf (fun _ k cs fr _ hb=>hS k cs fr hb)
theorem RowLies.non (h:RowLies w base t size A n c xs) (hf:Fr Non w w'):RowLies w' base t size A n c xs:=h.fr hf (fun _ _ _ _ _ _ e=>e)
theorem RowLies.lower (h:RowLies w base t size A n c xs) (hb:base'<=base):RowLies w base' t size A n c xs:=
 ⟨h.1,h.2.imp id fun ⟨k,o,cs,fr,e,hk,r⟩=>⟨k,o,cs,fr,e,A71 hb hk,r⟩⟩
end
structure OpL.lies (w:World) (base:Nat) (x:OpL):Prop where
 past:RowLies w base 45 3 x.pastA x.past.length x.pastC (x.past.flatMap Id.cells)
 path:RowLies w base 112 2 x.pathA x.path.length x.pathC (x.path.flatMap NdL.cells)
 nodes:∀y∈x.path,RowLies w base 103 4 y.A y.xs.length y.c (y.xs.flatMap Bx.cells)
 body:RowLies w base 5 1 x.bodyA x.body.length x.bodyC (x.body.map Bv)
 refs:RowLies w base 43 1 x.refsA x.refs.length x.refsC (x.refs.map Uv)
 guards:RowLies w base 3 1 x.guardsA x.guards.length x.guardsC (x.guards.map Iv)
 boxes:RowLies w base 103 4 x.boxesA x.boxes.length x.boxesC (x.boxes.flatMap Bx.cells)
 hist:RowLies w base 119 4 x.histA x.hist.length x.histC (x.hist.flatMap SlL.cells)
 seals:∀y∈x.hist,RowLies w base 5 1 y.A y.y.length y.c (y.y.map Bv)
theorem OpL.own.lies {w:World} {base:Nat} {x:OpL} (h:x.own w base):x.lies w base where
 past:=h.past.lies
 path:=h.path.lies
 nodes y hy:=(h.nodes y hy).lies
 body:=h.body.lies
 refs:=h.refs.lies
 guards:=h.guards.lies
 boxes:=h.boxes.lies
 hist:=h.hist.lies
 seals y hy:=(h.seals y hy).lies
theorem OpL.lies.at {w:World} {base:Nat} {x:OpL} (h:x.lies w base):x.at w w.heap.size where
 past:=h.past.1
 path:=h.path.1
 nodes y hy:=(h.nodes y hy).1
 body:=h.body.1
 refs:=h.refs.1
 guards:=h.guards.1
 boxes:=h.boxes.1
 hist:=h.hist.1
 seals y hy:=(h.seals y hy).1
theorem OpL.lies.lower {w:World} {base base':Nat} {x:OpL} (h:x.lies w base) (hb:base'<=base):x.lies w base' where
 past:=h.past.lower hb
 path:=h.path.lower hb
 nodes y hy:=(h.nodes y hy).lower hb
 body:=h.body.lower hb
 refs:=h.refs.lower hb
 guards:=h.guards.lower hb
 boxes:=h.boxes.lower hb
 hist:=h.hist.lower hb
 seals y hy:=(h.seals y hy).lower hb
theorem OpL.lies.keepP {S:Nat->Prop} {P:TypeId->Prop} {w w':World} {base:Nat} {x:OpL} (h:x.lies w base) (hf:Fr S w w') (hS:Types S w P) (h1:¬P 45) (h2:¬P 112) (h3:¬P 103) (h4:¬P 5) (h5:¬P 43) (h6:¬P 3) (h7:¬P 119):x.lies w' base where
 past:=h.past.keepT hf (hS.not h1)
 path:=h.path.keepT hf (hS.not h2)
 nodes y hy:=(h.nodes y hy).keepT hf (hS.not h3)
 body:=h.body.keepT hf (hS.not h4)
 refs:=h.refs.keepT hf (hS.not h5)
 guards:=h.guards.keepT hf (hS.not h6)
 boxes:=h.boxes.keepT hf (hS.not h3)
 hist:=h.hist.keepT hf (hS.not h7)
 seals y hy:=(h.seals y hy).keepT hf (hS.not h4)
theorem OpL.lies.non {w w':World} {base:Nat} {x:OpL} (h:x.lies w base) (hf:Fr Non w w'):x.lies w' base:=
 h.keepP (P:=fun _=>False) hf (fun _ _ _ _ _ e=>e.elim) zq zq zq zq zq zq zq
def Qv (q:Nat):Value:=Iv (q:Int)
structure UpL where
 A:Option Addr
 c:Nat
 xs:List Nat
def UpL.cell (x:UpL):Value:=.slice x.A x.xs.length x.c
def UpL.own (w:World) (base:Nat) (x:UpL):Prop:=RowAt w base 3 1 x.A x.xs.length x.c (x.xs.map Qv)
structure InL where
 A:Option Addr
 c:Nat
 bs:List Bool
def InL.cell (x:InL):Value:=.slice x.A x.bs.length x.c
def InL.own (w:World) (base:Nat) (x:InL):Prop:=RowAt w base 4 1 x.A x.bs.length x.c (x.bs.map Value.bool)
structure RG where
 cA:Option Addr
 cC:Nat
 cards:List Cd
 lA:Option Addr
 lC:Nat
 xs:List OpL
 iA:Option Addr
 iC:Nat
 uA:Option Addr
 uC:Nat
 us:List UpL
 nA:Option Addr
 nC:Nat
 ns:List InL
 l:List Pn
def RG.ids (r:RG):List Id:=r.l.map Pn.id
def RG.cells (r:RG):Array Value:=#[.slice r.cA r.cards.length r.cC,.slice r.lA r.l.length r.lC,.slice r.iA r.l.length r.iC,.slice r.uA r.l.length r.uC,.slice r.nA r.l.length r.nC]
structure RG.own (w:World) (base:Nat) (r:RG):Prop where
 cards:RowAt w base 141 5 r.cA r.cards.length r.cC (r.cards.flatMap Cd.cells)
 ops:RowAt w base 52 27 r.lA r.l.length r.lC (r.xs.flatMap (fun x=>x.cells.toList))
 each:∀x∈r.xs,x.lies w base
 same:r.xs.map OpL.op=r.l.map Pn.o
 ok:∀n∈r.l,n.o.ok/\n.id.ok
 ids:RowAt w base 45 3 r.iA r.l.length r.iC (r.ids.flatMap Id.cells)
 ups:RowAt w base 22 1 r.uA r.l.length r.uC (r.us.map UpL.cell)
 eachU:∀x∈r.us,x.own w base
 sameU:r.us.map UpL.xs=Af0 r.l
 ins:RowAt w base 32 1 r.nA r.l.length r.nC (r.ns.map InL.cell)
 eachN:∀x∈r.ns,x.own w base
 sameN:r.ns.map InL.bs=Af2 r.l
 rows:Rows r.cards r.l
 cfew:r.cards.length<=1000
 cok:∀c∈r.cards,c.s<18446744073709551616
theorem RG.own.lower {w:World} {base base':Nat} {r:RG} (h:r.own w base) (hb:base'<=base):r.own w base' where
 cards:=h.cards.lower hb
 ops:=h.ops.lower hb
 each x hx:=(h.each x hx).lower hb
 same:=h.same
 ok:=h.ok
 ids:=h.ids.lower hb
 ups:=h.ups.lower hb
 eachU x hx:=(h.eachU x hx).lower hb
 sameU:=h.sameU
 ins:=h.ins.lower hb
 eachN x hx:=(h.eachN x hx).lower hb
 sameN:=h.sameN
 rows:=h.rows
 cfew:=h.cfew
 cok:=h.cok
theorem RG.own.keepP {S:Nat->Prop} {P:TypeId->Prop} {w w':World} {base:Nat} {r:RG} (h:r.own w base) (hf:Fr S w w') (hS:Types S w P) (h1:¬P 45) (h2:¬P 112) (h3:¬P 103) (h4:¬P 5) (h5:¬P 43) (h6:¬P 3) (h7:¬P 119)
  (h8:¬P 141) (h9:¬P 52) (h10:¬P 22) (h11:¬P 32) (h12:¬P 4):r.own w' base where
 cards:=h.cards.keepT hf (hS.not h8)
 ops:=h.ops.keepT hf (hS.not h9)
 each x hx:=(h.each x hx).keepP hf hS h1 h2 h3 h4 h5 h6 h7
 same:=h.same
 ok:=h.ok
 ids:=h.ids.keepT hf (hS.not h1)
 ups:=h.ups.keepT hf (hS.not h10)
 eachU x hx:=RowAt.keepT (h.eachU x hx) hf (hS.not h6)
 sameU:=h.sameU
 ins:=h.ins.keepT hf (hS.not h11)
 eachN x hx:=RowAt.keepT (h.eachN x hx) hf (hS.not h12)
 sameN:=h.sameN
 rows:=h.rows
 cfew:=h.cfew
 cok:=h.cok
theorem RG.own.non {w w':World} {base:Nat} {r:RG} (h:r.own w base) (hf:Fr Non w w'):r.own w' base:=
 h.keepP (P:=fun _=>False) hf (fun _ _ _ _ _ e=>e.elim) zq zq zq zq zq zq zq zq zq zq zq zq
theorem RG.own.few {w:World} {base:Nat} {r:RG} (h:r.own w base):r.l.length<=200:=h.rows.few
end Oq
namespace Oq
attribute [local go_sem] Bool.not_false Bool.not_true
theorem Af3 (base:Nat) (g:Gph) (gv:Nat) (id:Id) (w:World) (hg:GAt w base g) (hv:w.cell? ⟨gv,0,none⟩=some (.pointer (some ⟨g.gb,0,none⟩))) (hid:id.ok):
  Calls zp 87 #[.agg id.V,.pointer (some ⟨gv,0,none⟩)] w (Ae (place g.nodes id).isSome w):=by
 have f0:Fr Non w (w.alloc (.cells id.V 45)):=(Fr.refl Non w).alloc _;have hb:=Blk.new w 45 id.V;have hg1:=hg.fr f0;replace hv:=f0.cell hv zq;generalize hw0:w.alloc (.cells id.V 45)=w0 at*;have i0:cI w0 w.heap.size 0 id.b:=hb.cell 0;have i1:cI w0 w.heap.size 1 id.s:=hb.cell 1;have i2:cU w0 w.heap.size 2 id.u:=hb.cell 2;have c1:w0.cell? ⟨g.gb,1,none⟩=some (.map (some g.mb)):=hg1.blk.cell 1;have hmap:=hg1.map;have hlook:=fun (w':World) (h:MapAt w' g.mb g.mm (place g.nodes))=>MapAt.look h id hid;clear hg hg1 hb
 cases hp:place g.nodes id
 ·
  rw [hp] at hlook;go_enter func87,ntmps87;go_wp2_with fail;try rw [hw0]
  clear hw0 hp;refine wp_region_held_drew (S:=(fun w'=>cI w' w.heap.size 0 id.b/\cI w' w.heap.size 1 id.s/\cU w' w.heap.size 2 id.u/\w'.cell? ⟨g.gb,1,none⟩=some (.map (some g.mb))/\w'.cell? ⟨gv,0,none⟩=some (.pointer (some ⟨g.gb,0,none⟩))/\MapAt w' g.mb g.mm (place g.nodes))) (by kernel_rfl) ⟨i0,i1,i2,c1,hv,hmap⟩ (fun hS=> ?_);replace f0:=f0.drew;refine tkN 0 11 hS (h:=?_);refine oD ?_;go_simp;go_wp2_with fail
  go_ret
  exact ⟨rfl,f0⟩
 ·
  rw [hp] at hlook;go_enter func87,ntmps87;go_wp2_with fail;try rw [hw0]
  clear hw0 hp;refine wp_region_held_drew (S:=(fun w'=>cI w' w.heap.size 0 id.b/\cI w' w.heap.size 1 id.s/\cU w' w.heap.size 2 id.u/\w'.cell? ⟨g.gb,1,none⟩=some (.map (some g.mb))/\w'.cell? ⟨gv,0,none⟩=some (.pointer (some ⟨g.gb,0,none⟩))/\MapAt w' g.mb g.mm (place g.nodes))) (by kernel_rfl) ⟨i0,i1,i2,c1,hv,hmap⟩ (fun hS=> ?_);replace f0:=f0.drew;refine tkN 0 11 hS (h:=?_);refine oD ?_;go_simp;go_wp2_with fail
  go_ret
  exact ⟨rfl,f0⟩
end Oq
namespace Oq
theorem Nt {α:Type} (l:List α) (q:α->Bool) {k:Nat} {x:α} (h:l[k]? =some x):(l.take (k+1)).any q=((l.take k).any q||q x):=by
 obtain ⟨hk,rfl⟩:=List.getElem?_eq_some_iff.1 h;rw [A73 hk,A75];simp
def Af4 (l:List Id) (p:Id->Bool) (w:World) (e:Ending) (w':World):Prop:=
 ((∃(k:Nat) (id:Id),e=.returned (.int .i64 (k:Int))/\l[k]? =some id/\p id=true/\(l.take k).any p=false)\/(e=.returned (.int .i64 (-1))/\l.any p=false))/\Fr Non w w'
theorem Af5 (B n c gv:Nat) (A:Option Addr) (l:List Id) (p:Id->Bool) (w:World) (hn:Hid (l.length=n)) (hr:Rd w B 3 A n (l.flatMap Id.cells)) (hnm:n<=1000000)
  (hmay:Hid (∀x∈l,∀w':World,Fr Non w w'->Calls zp 87 #[.agg x.V,.pointer (some ⟨gv,0,none⟩)] w' (Ae (p x) w'))):
  Calls zp 144 #[.slice A n c,.func (.func 87) #[] #[.pointer (some ⟨gv,0,none⟩)]] w (Af4 l p w):=by
 go_enter func144,ntmps144;go_wp2
 go_loopw [8] (fun v wr=>∃k:Nat,v=.int .i64 (k:Int)/\k<=n/\Hid ((l.take k).any p=false)/\Fr Non w wr) (fun v _=>n-(intOf v).toNat)
 case atStart=>exact ⟨0,rfl,by omega,rfl,Fr.refl _ _⟩
 case round=>
  obtain ⟨k,rfl,hk,hh,hf⟩:=hrel
  by_cases hlt:k<n
  ·
   obtain ⟨i1,i2,i3⟩:=ix k n
   obtain ⟨x,hx⟩:∃x,l[k]? =some x:=⟨_,A80 (by rw [hn.out];exact hlt)⟩;obtain ⟨b,off,rfl,hbB,k0,k1,k2⟩:=Id.at (hr.fr hf zr) hx;have hmem:=A76 hx;have hsn:=lh (Nt l p hx);have hc:=lh (fun w' (h:Fr Non wr w')=>hmay.out x hmem w' (hf.trans h zr));have hx':=lh hx;clear hx hmem
   rcases zb (p x) with hp|hp
   ·
    have hp':=lh hp;rw [hp] at hc hsn;clear hp;go_wp2_with (go_at_call 87;(with_reducible refine (hc.out _ (by first|exact Fr.refl _ _|exact (Fr.refl Non wr).alloc _)).mono ?_);rintro _ w1 ⟨rfl,f1⟩)
    go_ret
    exact ⟨.inl ⟨k,x,rfl,hx'.out,hp'.out,hh.out⟩,by first|exact hf.trans f1 zr|exact (hf.alloc _).trans f1 zr⟩
   ·
    rw [hp] at hc hsn;clear hp;go_wp2_with (go_at_call 87;(with_reducible refine (hc.out _ (by first|exact Fr.refl _ _|exact (Fr.refl Non wr).alloc _)).mono ?_);rintro _ w1 ⟨rfl,f1⟩);go_roundw
    case rel=>exact ⟨k+1,by go_num,by omega,by show _=_;rw [hsn.out,hh.out];rfl,by first|exact hf.trans f1 zr|exact (hf.alloc _).trans f1 zr⟩
    case measure=>simp [intOf];omega
  ·
   obtain rfl:k=n:=by omega
   have hfin:l.any p=false:=by have h:=hh.out;rw [A79 (by rw [hn.out];omega)] at h;exact h
   go_wp2
   go_ret
   exact ⟨.inr ⟨rfl,hfin⟩,hf⟩
