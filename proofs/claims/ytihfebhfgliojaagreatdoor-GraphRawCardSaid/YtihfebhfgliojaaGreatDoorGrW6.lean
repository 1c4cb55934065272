/-
  Contracts of the functions that the claim's statement reaches, walked one by one (part 6).
  Conditions: as each theorem says.
-/
import Derived.Test.YtihfebhfgliojaaGreatDoorGrW5
set_option maxRecDepth 100000
set_option maxHeartbeats 16000000
open Bool renaming and_eq_true->An3,false_and->An8,true_and->An9,or_eq_true->Ao1,eq_iff_iff->Ao8
open Int renaming le_trans->Ao0,le_max_left->Ap8
open List renaming getElem?_append_left->An4,take_succ_eq_append_getElem->Ap0,range->Ap1,any_append->Ap2,mem_of_getElem?->Ap3,any_eq_false->Ap4,mem_cons_self->Ap5,mem_cons_of_mem->Ap6,any_eq_true->Ap7,map_congr_left->Ap9,take_of_length_le->Aq0,getElem?_eq_getElem->Aq1,foldl_append->Aq2,getElem?_eq_none->Aq3,findIdx?_append->Aq4,getElem?_of_mem->Aq5,contains_iff_mem->Aq6
open Nat renaming mod_lt->An5,mul_mod->An6,le_refl->An7,lt_or_ge->Ao2,pow_mul->Ao3,mod_mod->Ao4,add_mod->Ao5,mul_comm->Ao7,pow_mod->Ao9
open Go.World renaming size_alloc->Ao6
open Go.Proofs.Tryz
open Go.Proofs.Tryz renaming prog->zp
open Go.Lib renaming hid->lh
open List renaming set->zl
open Go.Ending renaming returned->ze
namespace Go.Proofs.YtihfebhfgliojaaGreatDoor
open Go.RowKit
attribute [local go_sem ↓] Go.wp_at_zero Go.wp_at_succ
namespace Dv
def Top (u t q s:Nat):Prop:=q*4294967295+s=u/\s<4294967296/\(u*4294967296+t)/18446744073709551600<=q
theorem over1 {u t q s:Nat} (h1:q*4294967295+s=u) (hq:4294967296*s+t<q*4294967280):u*4294967296+t<q*18446744073709551600:=by omega
theorem over2 {U q:Nat} (h:U<q*18446744073709551600):U/18446744073709551600<=q-1/\0<q:=by
 have h1:U/18446744073709551600<q:=Nat.div_lt_of_lt_mul (by rw [Ao7];exact h);omega
theorem over {u t q s:Nat} (h:Top u t q s) (hq:4294967296*s+t<q*4294967280):(u*4294967296+t)/18446744073709551600<=q-1/\0<q:=over2 (over1 h.1 hq)
theorem step (k d u:Nat) (h:(d+1)*k+0=u):d*k+k=u:=by rw [<- h,Nat.succ_mul,Nat.add_zero]
theorem next {u t q:Nat} (h:Top u t q 0) (h1:(u*4294967296+t)/18446744073709551600<=q-1) (h0:0<q):Top u t (q-1) 4294967295:=by
 obtain ⟨d,rfl⟩:∃d,q=d+1:=⟨q-1,(Nat.succ_pred_eq_of_pos h0).symm⟩;obtain ⟨h2,_,_⟩:=h;rw [Nat.add_sub_cancel] at h1 ⊢;exact And.intro (step _ _ _ h2) (And.intro (by decide) h1)
theorem left {W V:Int} (hW:Hid (4294967296=W)) (hV:Hid (18446744073709551600=V)) {u t q z:Nat} (hq:(u*4294967296+t)/18446744073709551600=q) (hz:Hid (u*4294967296+t-q*18446744073709551600=z)):
  IntKind.u64.wrap (IntKind.u64.wrap (IntKind.u64.wrap ((u:Int)*W)+(t:Int))-IntKind.u64.wrap ((q:Int)*V))=(z:Int)/\z<18446744073709551600:=by
 rw [<- hz.out,<- hW.out,<- hV.out];simp only [IntKind.wrap_u64];omega
theorem rest {W1:Int} (hW1:Hid (4294967295=W1)) {u q1 r1:Nat} (_hu:u<18446744073709551616) (hq1:Hid (u/4294967295=q1)) (hr1:Hid (u-u/4294967295*4294967295=r1)):IntKind.u64.wrap ((u:Int)-IntKind.u64.wrap ((q1:Int)*W1))=(r1:Int):=by
 rw [<- hW1.out,IntKind.wrap_u64,IntKind.wrap_u64,<- hq1.out,<- hr1.out];omega
theorem fin {hi lo u t t1 u0 q z q0 R:Nat} (hu:Hid (hi*8+lo/2305843009213693952=u)) (ht:Hid (lo*8%18446744073709551616=t)) (ht1:Hid (t/4294967296=t1)) (hu0:Hid (t%4294967296=u0)) (hq:Hid ((u*4294967296+t1)/18446744073709551600=q)) (hz:Hid (u*4294967296+t1-q*18446744073709551600=z))
  (hq0:(z*4294967296+u0)/18446744073709551600=q0) (hR:Hid (z*4294967296+u0-q0*18446744073709551600=R)):R/8=(hi*18446744073709551616+lo)%2305843009213693950:=by
 have e1:8*(hi*18446744073709551616+lo)=u*18446744073709551616+t:=by rw [<- hu.out,<- ht.out];omega
 have e4:t=t1*4294967296+u0:=by rw [<- ht1.out,<- hu0.out];omega
 have e2:u*4294967296+t1=q*18446744073709551600+z:=by rw [<- hz.out,<- hq.out];omega
 have e3:z*4294967296+u0=q0*18446744073709551600+R/\R<18446744073709551600:=by rw [<- hR.out];omega
 clear hu ht hq hz hq0 hR ht1 hu0;omega
end Dv
namespace Sg
def lSigned:List UInt8:=[115,105,103,110,101,100]
def lSig:List UInt8:=[115,105,103]
def lNonce:List UInt8:=[110,111,110,99,101]
def m (bs:List UInt8):Nat:=Hs.ofBytes lSigned bs
def e (r pub:Nat) (bs:List UInt8):Nat:=Hs.of lSig [r,pub,m bs]
def pub (secret:Nat):Nat:=Fd.pow 37 secret
def once (secret:Nat) (bs:List UInt8):Nat:=Hs.secret lNonce [secret,m bs]
def r (secret:Nat) (bs:List UInt8):Nat:=Fd.pow 37 (once secret bs)
def x (secret:Nat) (bs:List UInt8):Nat:=e (r secret bs) (pub secret) bs*secret%2305843009213693950
def s (secret:Nat) (bs:List UInt8):Nat:=(once secret bs+x secret bs)%2305843009213693950
def within (n lo hi:Int):Bool:=decide (lo<=n)&&decide (n<=hi)
def check (pub:Nat) (bs:List UInt8) (R S:Nat):Bool:=
 within pub 1 2305843009213693950&&within R 1 2305843009213693950&&within S 0 2305843009213693949&&(Fd.pow 37 S==Fd.mul R (Fd.pow pub (e R pub bs)))
theorem m_lt (bs:List UInt8):m bs<2305843009213693951:=Hs.of_lt _ _
theorem e_lt (r pub:Nat) (bs:List UInt8):e r pub bs<2305843009213693951:=Hs.of_lt _ _
theorem once_lt (secret:Nat) (bs:List UInt8):once secret bs<2305843009213693950:=Hs.secret_lt _ _
theorem r_lt (secret:Nat) (bs:List UInt8):r secret bs<2305843009213693951:=Fd.pow_lt _ _
theorem x_lt (secret:Nat) (bs:List UInt8):x secret bs<2305843009213693950:=An5 _ (by omega)
theorem s_lt (secret:Nat) (bs:List UInt8):s secret bs<2305843009213693950:=An5 _ (by omega)
end Sg
section
open Go.RowKit Go.Shelf
def Wb (m e:Nat) (w:World) (r:Ending) (w':World):Prop:=r=.returned (.tuple #[.int .u64 (m:Int),.int .u64 (e:Int)])/\Fr Non w w'
theorem Wc (pub r B n c:Nat) (A:Option Addr) (bs:List UInt8) (w:World) (hp:pub<18446744073709551616) (hr0:r<18446744073709551616) (hlen:Hid (bs.length=n)) (hnc:n<=c) (hn:n<=1099511627775) (hB:B<=w.heap.size) (hr:Rd w B 1 A n (bs.map Bv)):
  Calls zp 184 #[.int .u64 (pub:Int),.int .u64 (r:Int),.slice A n c] w (Wb (Sg.m bs) (Sg.e r pub bs) w):=by
 have he:Hid (Sg.e r pub bs=Hs.of Sg.lSig [r,pub,Sg.m bs]):=rfl;have hm:=Sg.m_lt bs;have hby:=lh (Oa Sg.lSigned B n c A bs w hlen hnc hn (by decide) hB hr);have hmm:Hid (Hs.ofBytes Sg.lSigned bs=Sg.m bs):=rfl;rw [hmm.out] at hby;obtain ⟨v,hv⟩:=Aa (Sg.m bs);rw [hv.out] at he hm hby;rw [he.out,hv.out];go_enter func184,ntmps184;go_wp2_with fail;refine hby.out.mono ?_;rintro _ w1 ⟨rfl,hf1⟩;go_wp2_with fail;have hnew:=Blk.new w1 23 #[.int .u64 (r:Int),.int .u64 (pub:Int),.int .u64 (v:Int)]
 have hrd:Rd (w1.alloc (.cells #[.int .u64 (r:Int),.int .u64 (pub:Int),.int .u64 (v:Int)] 23)) (w1.heap.size+1) 1 (some ⟨w1.heap.size,0,none⟩) 3 ([r,pub,v].map Wv):=by
  refine ⟨rfl,.inr ⟨w1.heap.size,0,rfl,by omega,fun j u hu=> ?_⟩⟩;rw [hnew.cell]
  match j,hu with
  |0,hu=>simpa [Wv] using hu
  |1,hu=>simpa [Wv] using hu
  |2,hu=>simpa [Wv] using hu
 refine (H5 Sg.lSig [r,pub,v] _ 3 3 _ _ rfl (by decide) (by omega) hrd (by simp;omega)).mono ?_;rintro _ w2 ⟨rfl,hf2⟩;go_wp2
 go_ret2
 exact ⟨rfl,(hf1.alloc _).trans hf2 zr⟩
def Dx (R S:Nat):Value:=.agg #[.int .u64 (R:Int),.int .u64 (S:Int)]
def Og (secret:Nat) (bs:List UInt8) (w:World) (r:Ending) (w':World):Prop:=r=.returned (Dx (Sg.r secret bs) (Sg.s secret bs))/\Fr Non w w'
theorem Kl (n lo hi:Int) (b:Bool) (w:World) (hb:Hid (Sg.within n lo hi=b)):
  Calls zp 183 #[.int .u64 n,.int .u64 lo,.int .u64 hi] w fun e w'=>e=.returned (.bool b)/\w=w':=by
 have hb':=hb.out;unfold Sg.within at hb'
 by_cases h1:lo<=n
 ·
  by_cases h2:n<=hi
  ·
   have hbb:Hid (true=b):=by rw [<- hb'];simp [h1,h2,Hid]
   clear hb' hb;go_enter func183,ntmps183;go_wp2
   go_ret
   exact ⟨congrArg (fun z=>ze (.bool z)) (Eq.trans (by first|simp|(simp;omega)) hbb.out),rfl⟩
  ·
   have hbb:Hid (false=b):=by rw [<- hb'];simp [h2,Hid]
   clear hb' hb;go_enter func183,ntmps183;go_wp2
   go_ret
   exact ⟨congrArg (fun z=>ze (.bool z)) (Eq.trans (by first|simp|(simp;omega)) hbb.out),rfl⟩
 ·
  have hbb:Hid (false=b):=by rw [<- hb'];simp [h1,Hid]
  clear hb' hb;go_enter func183,ntmps183;go_wp2
  go_ret
  exact ⟨congrArg (fun z=>ze (.bool z)) hbb.out,rfl⟩
theorem Km (pub R S B n c:Nat) (A:Option Addr) (bs:List UInt8) (w:World) (hp:pub<18446744073709551616) (hR:R<18446744073709551616) (hS:S<18446744073709551616) (hlen:Hid (bs.length=n)) (hnc:n<=c) (hn:n<=1099511627775) (hB:B<=w.heap.size) (hr:Rd w B 1 A n (bs.map Bv)):
  Calls zp 128 #[.int .u64 (pub:Int),.slice A n c,Dx R S] w (Ae (Sg.check pub bs R S) w):=by
 unfold Dx;have aa:Hid (Sg.check pub bs R S=(Sg.within pub 1 2305843009213693950&&Sg.within R 1 2305843009213693950&&Sg.within S 0 2305843009213693949&&(Fd.pow 37 S==Fd.mul R (Fd.pow pub (Sg.e R pub bs))))):=rfl;have ae:=Blk.new w 25 #[.int .u64 (R:Int),.int .u64 (S:Int)];have ac:Fr Non w (w.alloc (.cells #[.int .u64 (R:Int),.int .u64 (S:Int)] 25)):=(Fr.refl _ _).alloc _;have c0:=ae.cell 0;have c1:=ae.cell 1;have aj:=hr.alloc (.cells #[.int .u64 (R:Int),.int .u64 (S:Int)] 25);obtain ⟨b1,h1⟩:=Aa (Sg.within pub 1 2305843009213693950);obtain ⟨b2,h2⟩:=Aa (Sg.within R 1 2305843009213693950);obtain ⟨b3,h3⟩:=Aa (Sg.within S 0 2305843009213693949);have k1:=lh (fun w=>Kl pub 1 2305843009213693950 b1 w h1);have k2:=lh (fun w=>Kl R 1 2305843009213693950 b2 w h2);have k3:=lh (fun w=>Kl S 0 2305843009213693949 b3 w h3);rw [h1.out,h2.out,h3.out] at aa
 cases b1 with
 |false=>
  rw [An8,An8,An8] at aa;rw [aa.out];go_enter func128,ntmps128;go_wp2_with (first|(go_at_call 183;refine (k1.out _).mono ?_;rintro _ _ ⟨rfl,rfl⟩))
  go_ret
  exact ⟨rfl,ac⟩
 |true=>
  cases b2 with
  |false=>
   rw [An9,An8,An8] at aa;rw [aa.out];go_enter func128,ntmps128;go_wp2_with (first|(go_at_call 183;(with_reducible refine (k1.out _).mono ?_);rintro _ _ ⟨rfl,rfl⟩)|(go_at_call 183;(with_reducible refine (k2.out _).mono ?_);rintro _ _ ⟨rfl,rfl⟩))
   go_ret
   exact ⟨rfl,ac⟩
  |true=>
   cases b3 with
   |false=>
    rw [An9,An9,An8] at aa;rw [aa.out];go_enter func128,ntmps128;go_wp2_with (first|(go_at_call 183;(with_reducible refine (k1.out _).mono ?_);rintro _ _ ⟨rfl,rfl⟩)|(go_at_call 183;(with_reducible refine (k2.out _).mono ?_);rintro _ _ ⟨rfl,rfl⟩)|(go_at_call 183;(with_reducible refine (k3.out _).mono ?_);rintro _ _ ⟨rfl,rfl⟩))
    go_ret
    exact ⟨rfl,ac⟩
   |true=>
    rw [An9,An9,An9] at aa;have le:=Sg.e_lt R pub bs;go_enter func128,ntmps128;go_wp2_with (first|(go_at_call 183;(with_reducible refine (k1.out _).mono ?_);rintro _ _ ⟨rfl,rfl⟩)|(go_at_call 183;(with_reducible refine (k2.out _).mono ?_);rintro _ _ ⟨rfl,rfl⟩)|(go_at_call 183;(with_reducible refine (k3.out _).mono ?_);rintro _ _ ⟨rfl,rfl⟩));refine (Wc pub R B n c A bs _ hp hR hlen hnc hn (by simp;omega) aj).mono ?_;rintro _ w1 ⟨rfl,ag⟩;have ah:=ae.fr ag zq;have ai:=ac.trans ag zr;obtain ⟨E,hE⟩:=Aa (Sg.e R pub bs);rw [hE.out] at le aa;rw [hE.out];generalize Sg.m bs=m0;have p1:=lh (fun w=>Kh 37 S w (by omega) hS);have p2:=lh (fun w=>Kh pub E w hp (by omega));have lq:=Fd.pow_lt pub E;obtain ⟨q,hq⟩:=Aa (Fd.pow pub E);obtain ⟨t,ht⟩:=Aa (Fd.pow 37 S);rw [hq.out] at p2 lq aa;rw [ht.out] at p1 aa;have p3:=lh (fun w=>Hv R q hR (by omega) w);obtain ⟨v,hv⟩:=Aa (Fd.mul R q);rw [hv.out] at p3 aa;have ak:Hid (∀w,Calls zp 185 #[.int .u64 37,.int .u64 (S:Int)] w (Cb t w)):=p1.out;have ab:Blk w1.drew w.heap.size 25 #[.int .u64 (R:Int),.int .u64 (S:Int)]:=ah;have d0:=ab.cell 0;have d1:=ab.cell 1;clear c0 c1;go_wp2_with fail
    go_region_held3 (fun w'=>w'.cell? ⟨w.heap.size,0,none⟩=some (.int .u64 (R:Int))/\w'.cell? ⟨w.heap.size,1,none⟩=some (.int .u64 (S:Int))) (go_keep) (first
     |(go_at_call 185;(with_reducible refine (ak.out _).mono ?_);rintro _ w2 ⟨rfl,af⟩;obtain ⟨g0,g1⟩:=zk2 af d0 d1)
     |(go_at_call 185;(with_reducible refine (p2.out _).mono ?_);rintro _ w3 ⟨rfl,ad⟩;obtain ⟨ao,al⟩:=zk2 ad g0 g1)
     |(go_at_call 186;(with_reducible refine (p3.out _).mono ?_);rintro _ _ ⟨rfl,rfl⟩))
    go_wp2
    go_ret
    refine ⟨congrArg (fun z=>ze (.bool z)) ?_,(((ai.drew.trans af zr).trans ad zr))⟩;rw [aa.out,Ao8];simp only [beq_iff_eq];exact Int.ofNat_inj
end
namespace Sg
theorem Wd {M:Nat} (hM:M=2305843009213693950):37^M%2305843009213693951=1:=by
 have h:=Fd.pow_eq 37 M (by omega);rw [<- h,hM]
 decide+kernel
theorem pow_one {M:Nat} (hM:M=2305843009213693950) (k:Nat):(37^M)^k%2305843009213693951=1:=by
 rw [Ao9,Wd hM,Nat.one_pow]
theorem We {M:Nat} (hM:M=2305843009213693950) (k:Nat):37^(k%M)%2305843009213693951=37^k%2305843009213693951:=by
 conv=>rhs;rw [<- Nat.div_add_mod k M,Nat.pow_add,Ao3,An6,pow_one hM,Nat.one_mul,Ao4]
theorem Wf (k:Nat):37^(k%2305843009213693950)%2305843009213693951=37^k%2305843009213693951:=We rfl k
theorem Wg {M:Nat} (hM:M=2305843009213693950) (k:Nat):37^k%2305843009213693951≠0:=by
 intro h;have h1:(37^k)^M%2305843009213693951=1:=by rw [<- Ao3,Ao7,Ao3];exact pow_one hM k
 rw [Ao9,h,Nat.zero_pow (by omega)] at h1;simp at h1
theorem Wh (k:Nat):37^k%2305843009213693951≠0:=Wg rfl k
theorem Oh {k:Nat} (hk:k<18446744073709551616):1<=Fd.pow 37 k:=by
 rw [Fd.pow_eq 37 k hk];exact Nat.one_le_iff_ne_zero.2 (Wh k)
theorem sides {x o e:Nat} (hx:x<18446744073709551616) (ho:o<18446744073709551616) (he:e<18446744073709551616):
  Fd.pow 37 ((o+e*x%2305843009213693950)%2305843009213693950)=Fd.mul (Fd.pow 37 o) (Fd.pow (Fd.pow 37 x) e):=by
 have hs:(o+e*x%2305843009213693950)%2305843009213693950=(o+e*x)%2305843009213693950:=by rw [Nat.add_mod_mod]
 have hlt:(o+e*x)%2305843009213693950<18446744073709551616:=by have:=An5 (o+e*x) (show 0<2305843009213693950 by omega);omega
 rw [hs,Fd.pow_eq _ _ hlt,Wf,Nat.pow_add];unfold Fd.mul;rw [Fd.pow_eq _ _ ho,Fd.pow_eq _ _ he,Fd.pow_eq _ _ hx,<- Ao9,<- An6,<- Ao3,Ao7 x e]
theorem within_yes {n lo hi:Nat} (h1:lo<=n) (h2:n<=hi):within n lo hi=true:=by
 unfold within;simp;omega
theorem takes (x:Nat) (bs:List UInt8) (hx:x<18446744073709551616):check (pub x) bs (r x bs) (s x bs)=true:=by
 have lo:=once_lt x bs;have lr:=r_lt x bs;have ls:=s_lt x bs;have lp:=Fd.pow_lt 37 x;have le:=e_lt (r x bs) (pub x) bs;have p1:1<=Fd.pow 37 x:=Oh hx;have p2:1<=r x bs:=Oh (by omega);have w1:within (pub x) 1 2305843009213693950=true:=within_yes (lo:=1) (hi:=2305843009213693950) p1 (by unfold pub;omega);have w2:within (r x bs) 1 2305843009213693950=true:=within_yes (lo:=1) (hi:=2305843009213693950) p2 (by omega);have w3:within (s x bs) 0 2305843009213693949=true:=within_yes (lo:=0) (hi:=2305843009213693949) (by omega) (by omega);unfold check;rw [w1,w2,w3];have h:=sides (x:=x) (o:=once x bs) (e:=e (r x bs) (pub x) bs) hx (by omega) (by omega);have hs:s x bs=(once x bs+e (r x bs) (pub x) bs*x%2305843009213693950)%2305843009213693950:=rfl;have hr:r x bs=Fd.pow 37 (once x bs):=rfl;rw [hs,h,<- hr];simp [pub]
end Sg
namespace R8
theorem step (M o x h:Nat):((o+x)%M+(x+x)%M*h)%M=(o+x*(2*h+1))%M:=by
 have e:o+x*(2*h+1)=(o+x)+(x+x)*h:=by rw [Nat.mul_add,Nat.add_mul,Nat.mul_one,<- Nat.mul_assoc,Nat.mul_two,Nat.add_mul];omega
 rw [e,Ao5 (o+x) ((x+x)*h),An6 (x+x) h,Ao5 ((o+x)%M),Ao4,An6 ((x+x)%M),Ao4]
theorem step0 (M o x h:Nat):(o+(x+x)%M*h)%M=(o+x*(2*h))%M:=by
 have e:x*(2*h)=(x+x)*h:=by rw [<- Nat.mul_assoc,Nat.mul_two]
 rw [e,Ao5 o ((x+x)*h),An6 (x+x) h,Ao5 o,An6 ((x+x)%M),Ao4]
end R8
theorem H8 (w:World):Calls zp 101 #[] w fun e w'=>e=.returned (.int .u64 2305843009213693950)/\w=w':=by
 go_enter func101,ntmps101;go_wp2
 go_ret
 exact ⟨rfl,rfl⟩
theorem Wi (a b:Nat) (w:World):Calls zp 99 #[.int .u64 (a:Int),.int .u64 (b:Int)] w fun e w'=>e=.returned (.int .u64 ((a*b%2305843009213693950:Nat):Int))/\w=w':=by
 obtain ⟨x,hx⟩:=Aa (a%2305843009213693950);obtain ⟨y,hy⟩:=Aa (b%2305843009213693950);have lx:x<2305843009213693950:=by rw [<- hx.out];exact An5 _ (by omega)
 have ly:y<2305843009213693950:=by rw [<- hy.out];exact An5 _ (by omega)
 have ab:Hid ((0+x*y)%2305843009213693950=a*b%2305843009213693950):=by show _=_;rw [Nat.zero_add,<- hx.out,<- hy.out,<- An6]
 obtain ⟨r,hr⟩:=Aa (a*b%2305843009213693950);rw [hr.out] at ab ⊢;obtain ⟨fa,ap⟩:=R1.nn 2305843009213693950 rfl hx.out;obtain ⟨fb,ar⟩:=R1.nn 2305843009213693950 rfl hy.out;have z1:¬(2305843009213693950:Int)=0:=by decide
 have ho:Hid (∀w,Calls zp 101 #[] w fun e w'=>e=.returned (.int .u64 2305843009213693950)/\w=w'):=fun w=>H8 w;clear hx hy;go_enter func99,ntmps99;unfold Hid at ho;generalize eM:(2305843009213693950:Int)=M at*;have hM:=lh eM;have ac:=lh ho;clear eM ho;go_wp2_with fail;refine (ac.out _).mono ?_;rintro _ _ ⟨rfl,rfl⟩;go_wp2_with fail;refine (ac.out _).mono ?_;rintro _ _ ⟨rfl,rfl⟩;go_wp2_with fail
 go_loopw [0,1,5] (fun p q o wr=>∃x' y' o':Nat,p=.int .u64 (x':Int)/\q=.int .u64 (y':Int)/\o=.int .u64 (o':Int)/\x'<2305843009213693950/\y'<2305843009213693950/\o'<2305843009213693950/\Hid ((o'+x'*y')%2305843009213693950=r)/\wr=w) (fun _ q _ _=>(intOf q).toNat)
 case atStart=>exact ⟨x,y,0,rfl,rfl,rfl,lx,ly,by omega,ab,rfl⟩
 case round=>
  obtain ⟨x',y',o',rfl,rfl,rfl,ao,au,af,hd,rfl⟩:=hrel
  by_cases hz:y'=0
  ·
   subst hz;have e:o'=r:=by have h:=hd.out;rw [Nat.mul_zero,Nat.add_zero,Nat.mod_eq_of_lt af] at h;exact h
   go_wp2
   go_ret
   exact ⟨by rw [<- e];rfl,rfl⟩
  ·
   have aq:(0:Int)<(y':Int):=by omega
   have l1:(o'+x')%2305843009213693950<2305843009213693950:=An5 _ (by omega);have l2:(x'+x')%2305843009213693950<2305843009213693950:=An5 _ (by omega);have s1:=R8.step 2305843009213693950 o' x' (y'/2);have s0:=R8.step0 2305843009213693950 o' x' (y'/2);obtain ⟨ox,ae⟩:=Aa ((o'+x')%2305843009213693950);obtain ⟨xx,ag⟩:=Aa ((x'+x')%2305843009213693950);obtain ⟨g1,ai⟩:=R1.nn M hM.out ae.out;obtain ⟨g2,al⟩:=R1.nn M hM.out ag.out;rw [Int.natCast_add] at g1 ai g2 al;rw [ae.out] at l1 s1;rw [ag.out] at l2 s1 s0;have aj:=lh s1;have ak:=lh s0;clear s1 s0;have aa:y'%2=1\/y'%2=0:=by omega
   rcases aa with hp|hp
   ·
    have ah:((y':Int)%2==1)=true:=by simp;omega
    have ad:Hid ((ox+xx*(y'/2))%2305843009213693950=r):=by show _=_;rw [aj.out,show 2*(y'/2)+1=y' by omega];exact hd.out
    clear hd hp;go_wp2_with (first|(go_at_call 101;refine (ac.out _).mono ?_;rintro _ _ ⟨rfl,rfl⟩));exact ⟨⟨xx,y'/2,ox,rfl,by go_num,rfl,l2,by omega,l1,ad,by first|rfl|trivial⟩,by simp [intOf];omega⟩
   ·
    have ah:((y':Int)%2==1)=false:=by simp;omega
    have ad:Hid ((o'+xx*(y'/2))%2305843009213693950=r):=by show _=_;rw [ak.out,show 2*(y'/2)=y' by omega];exact hd.out
    clear hd hp;go_wp2_with (first|(go_at_call 101;refine (ac.out _).mono ?_;rintro _ _ ⟨rfl,rfl⟩));exact ⟨⟨xx,y'/2,o',rfl,by go_num,rfl,l2,by omega,af,ad,by first|rfl|trivial⟩,by simp [intOf];omega⟩
theorem H9 (n:Nat) (w:World) (hn:n<18446744073709551616):Calls zp 90 #[.int .u64 (n:Int)] w (Cb (Sg.pub n) w):=by
 have hp:Hid (∀w,Calls zp 98 #[.int .u64 37,.int .u64 (n:Int)] w fun e w'=>e=.returned (.int .u64 (Sg.pub n:Int))/\∃k,w'=w.drewN k):=fun w=>Gv 37 n w (by omega) hn;go_enter func90,ntmps90;go_wp2_with fail;refine (hp.out _).mono ?_;rintro _ _ ⟨rfl,k,rfl⟩;go_wp2
 go_ret
 exact ⟨rfl,(Fr.refl _ _).drewN _⟩
theorem Oi (B n c:Nat) (A:Option Addr) (bs:List UInt8) (w:World) (hlen:Hid (bs.length=n)) (hn:n<=1099511627775) (hB:B<=w.heap.size) (hr:Rd w B 1 A n (bs.map Bv)):
  Calls zp 97 #[.slice A n c] w (Cb (Sg.m bs) w):=by
 have hby:Hid (Calls zp 113 #[.string ⟨#[115,105,103,110,101,100]⟩,.slice A n c] w (Cb (Sg.m bs) w)):=Od Sg.lSigned B n c A bs w hlen hn (by decide) hB hr;go_enter func97,ntmps97;go_wp2_with fail;refine hby.out.mono ?_;rintro _ w1 ⟨rfl,hf1⟩;go_wp2
 go_ret
 exact ⟨rfl,hf1⟩
theorem Oj (r pub B n c:Nat) (A:Option Addr) (bs:List UInt8) (w:World) (hr0:r<18446744073709551616) (hp:pub<18446744073709551616) (hlen:Hid (bs.length=n)) (hn:n<=1099511627775) (hB:B<=w.heap.size) (hr:Rd w B 1 A n (bs.map Bv)):
  Calls zp 100 #[.int .u64 (r:Int),.int .u64 (pub:Int),.slice A n c] w (Cb (Sg.e r pub bs) w):=by
 have he:Hid (Sg.e r pub bs=Hs.of Sg.lSig [r,pub,Sg.m bs]):=rfl;have hm:=Sg.m_lt bs;have hby:=lh (Oi B n c A bs w hlen hn hB hr);obtain ⟨v,hv⟩:=Aa (Sg.m bs);rw [hv.out] at he hm hby;rw [he.out];go_enter func100,ntmps100;go_wp2_with fail;refine hby.out.mono ?_;rintro _ w1 ⟨rfl,hf1⟩;go_wp2_with fail;have hnew:=Blk.new w1 23 #[.int .u64 (r:Int),.int .u64 (pub:Int),.int .u64 (v:Int)]
 have hrd:Rd (w1.alloc (.cells #[.int .u64 (r:Int),.int .u64 (pub:Int),.int .u64 (v:Int)] 23)) (w1.heap.size+1) 1 (some ⟨w1.heap.size,0,none⟩) 3 ([r,pub,v].map Wv):=by
  refine ⟨rfl,.inr ⟨w1.heap.size,0,rfl,by omega,fun j u hu=> ?_⟩⟩;rw [hnew.cell]
  match j,hu with
  |0,hu=>simpa [Wv] using hu
  |1,hu=>simpa [Wv] using hu
  |2,hu=>simpa [Wv] using hu
 refine (Kj Sg.lSig [r,pub,v] _ 3 3 _ _ rfl (by decide) (by omega) hrd (by simp;omega)).mono ?_;rintro _ w2 ⟨rfl,hf2⟩;go_wp2
 go_ret
 exact ⟨rfl,(hf1.alloc _).trans hf2 zr⟩
theorem Wj (o X S:Nat) (ho:o<2305843009213693950) (hX:X<2305843009213693950) (hS:Hid ((o+X)%2305843009213693950=S)):((o:Int)+(X:Int))%2305843009213693950=(S:Int)/\((o:Int)+(X:Int)).tmod 2305843009213693950=(S:Int):=by
 have h2:((o:Int)+(X:Int))%2305843009213693950=(S:Int):=by rw [<- hS.out];omega
 exact ⟨h2,by rw [Int.tmod_eq_emod_of_nonneg (by omega),h2]⟩
theorem Wk (secret B n c:Nat) (A:Option Addr) (bs:List UInt8) (w:World) (hs:secret<18446744073709551616) (hlen:Hid (bs.length=n)) (hn:n<=1099511627775) (hB:B<=w.heap.size) (hr:Rd w B 1 A n (bs.map Bv)):
  Calls zp 52 #[.int .u64 (secret:Int),.slice A n c] w (Og secret bs w):=by
 have av:=Blk.new w 25 #[.int .u64 0,.int .u64 0];have au:Fr Non w (w.alloc (.cells #[.int .u64 0,.int .u64 0] 25)):=(Fr.refl _ _).alloc _;have ap:=hr.alloc (.cells #[.int .u64 0,.int .u64 0] 25);have lp:=Fd.pow_lt 37 secret;have lm:=Sg.m_lt bs;have lo:=Sg.once_lt secret bs;have lr:=Sg.r_lt secret bs;have ao:Hid (Sg.x secret bs=Sg.e (Sg.r secret bs) (Sg.pub secret) bs*secret%2305843009213693950):=rfl;have ak:Hid ((Sg.once secret bs+Sg.x secret bs)%2305843009213693950=Sg.s secret bs):=rfl;have lx:=Sg.x_lt secret bs;have ls:=Sg.s_lt secret bs;have af:Hid (∀w,Calls zp 98 #[.int .u64 37,.int .u64 (Sg.once secret bs:Int)] w fun e w'=>e=.returned (.int .u64 (Sg.r secret bs:Int))/\∃k,w'=w.drewN k):=fun w=>Gv 37 (Sg.once secret bs) w (by omega) (by omega);have a1:Sg.pub secret<2305843009213693951:=lp;have le:=Sg.e_lt (Sg.r secret bs) (Sg.pub secret) bs;have aa:Hid (Sg.once secret bs=Hs.secret Sg.lNonce [secret,Sg.m bs]):=rfl;have ac:=lh (fun w=>H9 secret w hs);obtain ⟨P,hP⟩:=Aa (Sg.pub secret);obtain ⟨m,hm⟩:=Aa (Sg.m bs);obtain ⟨o,ho⟩:=Aa (Sg.once secret bs);obtain ⟨R,hR⟩:=Aa (Sg.r secret bs);rw [hR.out,hP.out] at ao le;rw [hR.out,ho.out] at af;rw [ho.out] at ak lo aa;rw [hm.out] at aa lm;rw [hR.out] at lr;rw [hP.out] at a1 ac;obtain ⟨E,hE⟩:=Aa (Sg.e R P bs);rw [hE.out] at ao le;have ab:Hid (∀w,Calls zp 99 #[.int .u64 (E:Int),.int .u64 (secret:Int)] w fun e w'=>e=.returned (.int .u64 (Sg.x secret bs:Int))/\w=w'):=fun w=>by rw [ao.out];exact Wi E secret w
 obtain ⟨X,hX⟩:=Aa (Sg.x secret bs);obtain ⟨S,hS⟩:=Aa (Sg.s secret bs);rw [hX.out] at ab lx ak;rw [hS.out] at ak ls;obtain ⟨v1,v2⟩:=Wj o X S lo lx ak;have ad:Hid (∀w,Calls zp 101 #[] w fun e w'=>e=.returned (.int .u64 2305843009213693950)/\w=w'):=fun w=>H8 w;have z1:¬(2305843009213693950:Int)=0:=by decide
 go_enter func52,ntmps52;go_wp2_with fail;refine (Oi B n c A bs _ hlen hn (by simp;omega) ap).mono ?_;rw [hm.out];rintro _ w2 ⟨rfl,aj⟩;go_wp2_with fail;have al:=Blk.new w2 23 #[.int .u64 (secret:Int),.int .u64 (m:Int)]
 have ar:Rd (w2.alloc (.cells #[.int .u64 (secret:Int),.int .u64 (m:Int)] 23)) (w2.heap.size+1) 1 (some ⟨w2.heap.size,0,none⟩) 2 ([secret,m].map Wv):=by
  refine ⟨rfl,.inr ⟨w2.heap.size,0,rfl,by omega,fun j u hu=> ?_⟩⟩;rw [al.cell]
  match j,hu with
  |0,hu=>simpa [Wv] using hu
  |1,hu=>simpa [Wv] using hu
 refine (Oe Sg.lNonce [secret,m] _ 2 2 _ _ rfl (by decide) (by omega) ar (by simp;omega)).mono ?_;rw [<- aa.out];rintro _ w3 ⟨rfl,ai⟩;go_wp2_with fail;refine (af.out _).mono ?_;rintro _ _ ⟨rfl,k4,rfl⟩;go_wp2_with fail;refine (ac.out _).mono ?_;rintro _ w4 ⟨rfl,ah⟩;have a0:=aj.size;have aw:=ai.size;have az:=ah.size;simp only [Ao6] at a0 aw;have a2:w3.heap.size<=w4.heap.size:=az;have ax:=((((ap.fr aj zr).alloc (.cells #[.int .u64 (secret:Int),.int .u64 (m:Int)] 23)).fr ai zr).drewN k4).fr ah zr;go_wp2_with fail;refine (Oj R P B n c A bs w4 (by omega) (by omega) hlen hn (by omega) ax).mono ?_;rw [hE.out];rintro _ w5 ⟨rfl,aq⟩;go_wp2_with fail;refine (ab.out _).mono ?_;rintro _ _ ⟨rfl,rfl⟩;unfold Hid at ad;generalize (2305843009213693950:Int)=M at*;have ag:=lh ad;clear ad;go_wp2_with fail;refine (ag.out _).mono ?_;rintro _ _ ⟨rfl,rfl⟩;have ae:=(((((av.fr aj zq).alloc (.cells #[.int .u64 (secret:Int),.int .u64 (m:Int)] 23)).fr ai zq).drewN k4).fr ah zq).fr aq zq;have ay:=(((((au.trans aj zr).alloc (.cells #[.int .u64 (secret:Int),.int .u64 (m:Int)] 23)).trans ai zr).drewN k4).trans ah zr).trans aq zr;have a3:=ae.cell 0;have a5:=ae.cell 1;have a6:=ae.frozen 0;have a4:=ae.frozen 1;go_wp2;refine C8 rfl rfl ((ae.set 0 _).set 1 _) rfl underlying25 (by kernel_rfl) rfl ⟨?_,(ay.setNew (An7 _) _ _).setNew (An7 _) _ _⟩;rw [hR.out,hS.out];rfl
namespace Oq
attribute [local go_sem ↓] Cg
attribute [local go_sem] Bool.not_false Bool.not_true
theorem Ad (l:List Value) (ds:List Deferred) (i:Nat) (v:Value):(⟨l.toArray,ds⟩:Act).put (some i) v=⟨(l.set i v).toArray,ds⟩:=by simp [Act.put]
theorem Bh {P:Program} {Q:Exit->Act->World->Prop} {ops:Array Oper} {md:Region.Mode} {S:World->Prop} {fuel:Nat} {listed:Array Bool} {a:Act} {w:World} (i:Nat) {o:Oper} (hr:Region.ready md ops listed=[i]) (ho:ops[i]? =some o)
  (hw:Region.wanted o (yielded ops a.tmps)=true)
  (h:∀K':Act->World->Prop,Shut (∀a w,S w->(S w->wpAnyH P md ops Q S fuel (listed.setIfInBounds i true) a w)->K' a w)->Oper.wp P o a w K' Q):
  wpAnyH P md ops Q S (fuel+1) listed a w:=
 wpAnyH_ready hr (by simp) (AllReadyH.cons ho (fun K' hK=>by rw [if_pos hw];exact h K' hK) AllReadyH.nil)
def sec (kind:List UInt8) (u:Nat):Nat:=Hs.secret kind [u]
theorem Gw (kind:List UInt8) (u:Nat):sec kind u<2305843009213693950:=Hs.secret_lt _ _
theorem Ol (kind:List UInt8) (d:Int) (u:Nat) (w:World) (hu:IntKind.u64.wrap d=(u:Int)) (hu':u<18446744073709551616) (hk:kind.length<=1000):
  Calls zp 53 #[.string (str kind),.int .i64 d] w (Cb (sec kind u) w):=by
 have hb:=Blk.new w 23 #[.int .u64 (u:Int)];have hr:Rd (w.alloc (.cells #[.int .u64 (u:Int)] 23)) (w.alloc (.cells #[.int .u64 (u:Int)] 23)).heap.size 1 (some ⟨w.heap.size,0,none⟩) 1 ([u].map Wv):=Rd.blk (n:=1) (size:=1) (l:=[.int .u64 (u:Int)]) hb rfl;have hf:Fr Non w (w.alloc (.cells #[.int .u64 (u:Int)] 23)):=(Fr.refl Non w).alloc _;obtain ⟨st,hst⟩:=Aa (str kind);have k:=lh (Oe kind [u] (some ⟨w.heap.size,0,none⟩) 1 1 _ _ rfl (by omega) (by omega) hr (by simp;omega));rw [hst.out] at k ⊢;go_enter func53,ntmps53;go_wp2_with fail;refine k.out.mono ?_;rintro _ w1 ⟨rfl,f1⟩;go_wp2
 go_ret
 exact ⟨rfl,hf.trans f1 zr⟩
theorem Om (d m:Int) (ld kp sg:Nat) (x:OpL) (w:World) (hat:x.at w w.heap.size) (hok:x.op.ok) (hsg:sg<18446744073709551616):
  Calls zp 66 #[.agg #[.int .i64 d,.int .i64 m,.int .u64 (ld:Int),.int .u64 (kp:Int),.int .u64 (sg:Int)],.agg x.cells] w (Ae ((x.by_==d)&&Sg.check sg x.op.bare x.r x.s) w):=by
 have ak:x.cells.size=27:=rfl;obtain ⟨CS,ae⟩:=Aa x.cells;have e0:Hid (CS[0]? =some (.int .i64 x.by_)):=by show _=_;rw [<- ae.out];rfl
 have ar:Hid (CS[25]? =some (.int .u64 (x.r:Int))):=by show _=_;rw [<- ae.out];rfl
 have aq:Hid (CS[26]? =some (.int .u64 (x.s:Int))):=by show _=_;rw [<- ae.out];rfl
 have ab:Blk ((w.alloc (.cells #[.int .i64 d,.int .i64 m,.int .u64 (ld:Int),.int .u64 (kp:Int),.int .u64 (sg:Int)] 104)).alloc (.cells x.cells 44)).drew w.heap.size 104 #[.int .i64 d,.int .i64 m,.int .u64 (ld:Int),.int .u64 (kp:Int),.int .u64 (sg:Int)]:=((Blk.new w 104 _).alloc _).drew
 have ac:Blk ((w.alloc (.cells #[.int .i64 d,.int .i64 m,.int .u64 (ld:Int),.int .u64 (kp:Int),.int .u64 (sg:Int)] 104)).alloc (.cells x.cells 44)).drew (w.heap.size+1) 44 x.cells:=by
  have:=(Blk.new (w.alloc (.cells #[.int .i64 d,.int .i64 m,.int .u64 (ld:Int),.int .u64 (kp:Int),.int .u64 (sg:Int)] 104)) 44 x.cells).drew;rwa [Ao6] at this
 have af:Fr Non w ((w.alloc (.cells #[.int .i64 d,.int .i64 m,.int .u64 (ld:Int),.int .u64 (kp:Int),.int .u64 (sg:Int)] 104)).alloc (.cells x.cells 44)).drew:=(((Fr.refl Non w).alloc _).alloc _).drew;have ai:=OpL.frame hat af;have kb:=lh (fun w' (h:x.at w' w'.heap.size)=>Nu x w' h hok);have lb:=Op.bare_len x.op hok;have hr:=hok.r;have hs:=hok.s;have kc:=lh (fun (A:Option Addr) (c:Nat) (w':World) (B:Nat) (h:Own w' B 5 1 A x.op.bare.length c (x.op.bare.map Bv))=>Km sg x.r x.s w'.heap.size x.op.bare.length c A x.op.bare w' hsg hr hs rfl h.cap.1 (by omega) (An7 _) h.rd);obtain ⟨D,hD⟩:=Aa x.op.bare;rw [hD.out] at kb lb kc;rw [hD.out];rw [ae.out] at ak ac ab kb ai af;rw [ae.out];have hi:(zp.info? 44).map (·.size)=some CS.size:=by rw [ak];kernel_rfl
 have hl:=Bb (P:=zp) (w.heap.size+1) 44 underlying44 rfl hi;obtain ⟨V,hV⟩:=Aa (Sg.check sg D x.r x.s);rw [hV.out] at kc ⊢;unfold Dx at kc;clear hat hok hr hs hD
 by_cases hd:x.by_=d
 ·
  have hb:(x.by_==d)=true:=by simp [hd]
  have ad:Hid (((x.by_==d)&&V)=V):=by show _=_;rw [hb];simp
  rw [ad.out];clear hd ad;go_enter func66,ntmps66;go_upto_region 1 with (fail)
  generalize (w.alloc (.cells #[.int .i64 d,.int .i64 m,.int .u64 (ld:Int),.int .u64 (kp:Int),.int .u64 (sg:Int)] 104)).alloc (.cells CS 44)=w0 at*;refine wp_region_held_drew (S:=fun w'=>Blk w' w.heap.size 104 #[.int .i64 d,.int .i64 m,.int .u64 (ld:Int),.int .u64 (kp:Int),.int .u64 (sg:Int)]/\Blk w' (w.heap.size+1) 44 CS) (by kernel_rfl) ⟨ab,ac⟩ (fun _=> ?_);refine tkH 0 ⟨ab,ac⟩ (h:=?_);(try simp only [zl]);refine wpAnyH_take (i:=1) (v:=?_) rfl (by kernel_rfl) (by kernel_rfl) (by kernel_rfl) (fun _ _ _ h=>h) (Or.inl ⟨by kernel_rfl,?_⟩) ⟨ab,ac⟩ ?_;rotate_left
  focus (intro w' aa;have b1:=aa.1;have b2:=aa.2;have q:cI w' (w.heap.size+1) 0 x.by_:=(b2.cell 0).trans e0.out;go_simp;(try with_reducible rfl))
  try simp only [Ad,zl]
  refine tkH 2 ⟨ab,ac⟩ (h:=?_);(try simp only [zl]);refine wpAnyH_take (i:=3) (v:=?_) rfl (by kernel_rfl) (by kernel_rfl) (by kernel_rfl) (fun _ _ _ h=>h) (Or.inl ⟨by kernel_rfl,?_⟩) ⟨ab,ac⟩ ?_;rotate_left
  focus (intro w' aa;have b1:=aa.1;have b2:=aa.2;have q:cI w' w.heap.size 0 d:=b1.cell 0;go_simp;(try with_reducible rfl))
  try simp only [Ad,zl]
  refine tkH 4 ⟨ab,ac⟩ (h:=?_);(try simp only [zl]);refine tkH 5 ⟨ab,ac⟩ (h:=?_);(try simp only [zl]);refine tkH 6 ⟨ab,ac⟩ (h:=?_);(try simp only [zl]);refine wpAnyH_take (i:=7) (v:=?_) rfl (by kernel_rfl) (by kernel_rfl) (by kernel_rfl) (fun _ _ _ h=>h) (Or.inl ⟨by kernel_rfl,?_⟩) ⟨ab,ac⟩ ?_;rotate_left
  focus (intro w' aa;have b1:=aa.1;have b2:=aa.2;have q:cU w' w.heap.size 4 sg:=b1.cell 4;go_simp;(try with_reducible rfl))
  try simp only [Ad,zl]
  refine tkH 8 ⟨ab,ac⟩ (h:=?_);(try simp only [zl]);refine tkH 11 ⟨ab,ac⟩ (h:=?_);(try simp only [zl]);refine wpAnyH_take (i:=12) (v:=?_) rfl (by kernel_rfl) (by kernel_rfl) (by kernel_rfl) (fun _ _ _ h=>h) (Or.inl ⟨by kernel_rfl,?_⟩) ⟨ab,ac⟩ ?_;rotate_left
  focus (intro w' aa;have b1:=aa.1;have b2:=aa.2;have q1:cU w' (w.heap.size+1) 25 x.r:=(b2.cell 25).trans ar.out;have q2:cU w' (w.heap.size+1) 26 x.s:=(b2.cell 26).trans aq.out;go_simp;(try with_reducible rfl))
  try simp only [Ad,zl]
  refine Bh 9 (by kernel_rfl) rfl (by kernel_rfl) (fun K hK=> ?_);go_simp;go_wp2_with (go_at_call 126;(with_reducible refine (kb.out _ ai).mono ?_);rintro _ v1 ⟨A1,c1,rfl,o1,f1⟩;have al:=ab.fr f1 zq;have ao:=ac.fr f1 zq;have ax:=OpL.frame ai f1;have au:=af.trans f1 zr;have az:OutAt v1 w0.heap.size (w0.heap.size+1) A1 c1 D:=o1);refine hK.out _ _ ⟨al,ao⟩ (fun _=> ?_);clear hK K;try simp only [Ad,zl]
  refine Bh 10 (by kernel_rfl) rfl (by kernel_rfl) (fun K hK=> ?_);go_simp;go_wp2_with (go_at_call 127;(with_reducible refine (Mu _ _ A1 c1 _ _ az (by omega)).mono ?_);rintro _ v2 ⟨A2,c2,rfl,o2,f2⟩;have aj:=al.fr f2 zq;have ap:=ao.fr f2 zq;have ay:=OpL.frame ax f2;have av:=au.trans f2 zr);refine hK.out _ _ ⟨aj,ap⟩ (fun _=> ?_);clear hK K;try simp only [Ad,zl]
  refine Bh 13 (by kernel_rfl) rfl (by kernel_rfl) (fun K hK=> ?_);go_simp;go_wp2_with (go_at_call 128;(with_reducible refine (kc.out _ _ _ _ o2).mono ?_);rintro _ v3 ⟨rfl,f3⟩;have ag:=aj.fr f3 zq;have ah:=ap.fr f3 zq;have a0:=OpL.frame ay f3;have aw:=av.trans f3 zr);refine hK.out _ _ ⟨ag,ah⟩ (fun _=> ?_);clear hK K;try simp only [Ad,zl]
  refine tkH 14 ⟨ag,ah⟩ (h:=?_);(try simp only [zl]);refine tkH 15 ⟨ag,ah⟩ (h:=?_);(try simp only [zl]);refine oD ?_;go_wp2
  go_ret
  exact ⟨rfl,aw⟩
 ·
  have hb:(x.by_==d)=false:=by simp [hd]
  have ad:Hid (((x.by_==d)&&V)=false):=by show _=_;rw [hb];simp
  rw [ad.out];clear hd ad;go_enter func66,ntmps66;go_upto_region 1 with (fail)
  generalize (w.alloc (.cells #[.int .i64 d,.int .i64 m,.int .u64 (ld:Int),.int .u64 (kp:Int),.int .u64 (sg:Int)] 104)).alloc (.cells CS 44)=w0 at*;refine wp_region_held_drew (S:=fun w'=>Blk w' w.heap.size 104 #[.int .i64 d,.int .i64 m,.int .u64 (ld:Int),.int .u64 (kp:Int),.int .u64 (sg:Int)]/\Blk w' (w.heap.size+1) 44 CS) (by kernel_rfl) ⟨ab,ac⟩ (fun _=> ?_);refine tkH 0 ⟨ab,ac⟩ (h:=?_);(try simp only [zl]);refine wpAnyH_take (i:=1) (v:=?_) rfl (by kernel_rfl) (by kernel_rfl) (by kernel_rfl) (fun _ _ _ h=>h) (Or.inl ⟨by kernel_rfl,?_⟩) ⟨ab,ac⟩ ?_;rotate_left
  focus (intro w' aa;have b1:=aa.1;have b2:=aa.2;have q:cI w' (w.heap.size+1) 0 x.by_:=(b2.cell 0).trans e0.out;go_simp;(try with_reducible rfl))
  try simp only [Ad,zl]
  refine tkH 2 ⟨ab,ac⟩ (h:=?_);(try simp only [zl]);refine wpAnyH_take (i:=3) (v:=?_) rfl (by kernel_rfl) (by kernel_rfl) (by kernel_rfl) (fun _ _ _ h=>h) (Or.inl ⟨by kernel_rfl,?_⟩) ⟨ab,ac⟩ ?_;rotate_left
  focus (intro w' aa;have b1:=aa.1;have b2:=aa.2;have q:cI w' w.heap.size 0 d:=b1.cell 0;go_simp;(try with_reducible rfl))
  try simp only [Ad,zl]
  refine tkH 4 ⟨ab,ac⟩ (h:=?_);(try simp only [zl]);refine tkH 5 ⟨ab,ac⟩ (h:=?_);(try simp only [zl]);refine wpAnyH_take (i:=6) (v:=undef) rfl (by kernel_rfl) (by kernel_rfl) (by kernel_rfl) (fun _ _ _ h=>h) (Or.inr ⟨by kernel_rfl,rfl⟩) ⟨ab,ac⟩ ?_;try simp only [Ad,zl]
  refine wpAnyH_take (i:=7) (v:=undef) rfl (by kernel_rfl) (by kernel_rfl) (by kernel_rfl) (fun _ _ _ h=>h) (Or.inr ⟨by kernel_rfl,rfl⟩) ⟨ab,ac⟩ ?_;try simp only [Ad,zl]
  refine wpAnyH_take (i:=8) (v:=undef) rfl (by kernel_rfl) (by kernel_rfl) (by kernel_rfl) (fun _ _ _ h=>h) (Or.inr ⟨by kernel_rfl,rfl⟩) ⟨ab,ac⟩ ?_;try simp only [Ad,zl]
  refine wpAnyH_take (i:=9) (v:=undef) rfl (by kernel_rfl) (by kernel_rfl) (by kernel_rfl) (fun _ _ _ h=>h) (Or.inr ⟨by kernel_rfl,rfl⟩) ⟨ab,ac⟩ ?_;try simp only [Ad,zl]
  refine wpAnyH_take (i:=10) (v:=undef) rfl (by kernel_rfl) (by kernel_rfl) (by kernel_rfl) (fun _ _ _ h=>h) (Or.inr ⟨by kernel_rfl,rfl⟩) ⟨ab,ac⟩ ?_;try simp only [Ad,zl]
  refine wpAnyH_take (i:=11) (v:=undef) rfl (by kernel_rfl) (by kernel_rfl) (by kernel_rfl) (fun _ _ _ h=>h) (Or.inr ⟨by kernel_rfl,rfl⟩) ⟨ab,ac⟩ ?_;try simp only [Ad,zl]
  refine wpAnyH_take (i:=12) (v:=undef) rfl (by kernel_rfl) (by kernel_rfl) (by kernel_rfl) (fun _ _ _ h=>h) (Or.inr ⟨by kernel_rfl,rfl⟩) ⟨ab,ac⟩ ?_;try simp only [Ad,zl]
  refine wpAnyH_take (i:=13) (v:=undef) rfl (by kernel_rfl) (by kernel_rfl) (by kernel_rfl) (fun _ _ _ h=>h) (Or.inr ⟨by kernel_rfl,rfl⟩) ⟨ab,ac⟩ ?_;try simp only [Ad,zl]
  refine tkH 14 ⟨ab,ac⟩ (h:=?_);(try simp only [zl]);refine tkH 15 ⟨ab,ac⟩ (h:=?_);(try simp only [zl]);refine oD ?_;go_wp2
  go_ret
  exact ⟨by go_simp,af⟩
theorem On {x:OpL} {w:World} {B:Nat} (o:x.at w B) (r s:Nat):({x with r:=r,s:=s}:OpL).at w B:=⟨o.past,o.path,o.nodes,o.body,o.refs,o.guards,o.boxes,o.hist,o.seals⟩
theorem Wl (x:OpL) (R S:Nat):({x with r:=R,s:=S}:OpL).op={x.op with r:=R,s:=S}:=rfl
def Bd:List UInt8:=[115,105,103,110]
def Kn (x:OpL) (secret:Nat) (w:World) (r:Ending) (w':World):Prop:=
 r=.returned (.agg ({x with r:=Sg.r secret x.op.bare,s:=Sg.s secret x.op.bare}:OpL).cells)/\Fr Non w w'
theorem Ko (x:OpL) (u:Nat) (w:World) (hu:IntKind.u64.wrap x.by_=(u:Int)) (hu':u<18446744073709551616) (hat:x.at w w.heap.size) (hok:x.op.ok):
  Calls zp 15 #[.agg x.cells] w (Kn x (sec Bd u) w):=by
 have hi:(zp.info? 44).map (·.size)=some 27:=by kernel_rfl
 have ai:Blk ((w.alloc (.cells x.cells 44)).alloc (.cells zO 44)).drew w.heap.size 44 x.cells:=((Blk.new w 44 _).alloc _).drew
 have ay:Blk ((w.alloc (.cells x.cells 44)).alloc (.cells zO 44)).drew (w.heap.size+1) 44 zO:=by
  have:=(Blk.new (w.alloc (.cells x.cells 44)) 44 zO).drew;rwa [Ao6] at this
 have ak:Fr Non w ((w.alloc (.cells x.cells 44)).alloc (.cells zO 44)).drew:=(((Fr.refl Non w).alloc _).alloc _).drew;have ao:=OpL.frame hat ak;have hs:=Gw Bd u;have k1:Hid (∀w':World,Calls zp 53 #[.string ⟨#[115,105,103,110]⟩,.int .i64 x.by_] w' (Cb (sec Bd u) w')):=fun w'=>Ol Bd x.by_ u w' hu hu' (by decide);have kb:=lh (fun w' (h:x.at w' w'.heap.size)=>Kb x w' h hok);have lb:=Op.bare_len x.op hok;have ks:=lh (fun (A:Option Addr) (c:Nat) (w':World) (B:Nat) (h:Own w' B 5 1 A x.op.bare.length c (x.op.bare.map Bv))=>Wk (sec Bd u) w'.heap.size x.op.bare.length c A x.op.bare w' (by omega) rfl (by omega) (An7 _) h.rd);have ab:∀(R S:Nat) (w':World),Sg.r (sec Bd u) x.op.bare=R->Sg.s (sec Bd u) x.op.bare=S->({x with r:=R,s:=S}:OpL).at w' w'.heap.size->Fr Non w w'->Kn x (sec Bd u) w (.returned (.agg ({x with r:=R,s:=S}:OpL).cells)) w':=fun R S w' h1 h2 h3 h4=>by subst h1;subst h2;exact ⟨rfl,h4⟩
 obtain ⟨D,hD⟩:=Aa x.op.bare;rw [hD.out] at kb lb ks ab;generalize sec Bd u=V at*;obtain ⟨R,hR⟩:=Aa (Sg.r V D);obtain ⟨S,hS⟩:=Aa (Sg.s V D);unfold Og Dx at ks;rw [hR.out,hS.out] at ks;have aa:=lh (fun w'=>ab R S w' hR.out hS.out);generalize Kn x V w=POST at aa ⊢;have a8:=Bb (P:=zp) w.heap.size 44 underlying44 rfl (cs:=x.cells) hi;have ad:=lh hat;clear ab hat hok hs hD hR hS hu hu';go_enter func15,ntmps15;go_upto_region 1 with (fail)
 generalize (w.alloc (.cells x.cells 44)).alloc (.cells zO 44)=w0 at*;have c0:cI w0.drew w.heap.size 0 x.by_:=ai.cell 0;have f0:Fr Non w0.drew w0.drew:=Fr.refl _ _
 go_region_with (first
  |(go_at_call 53;(with_reducible refine (k1.out _).mono ?_);rintro _ v1 ⟨rfl,f1⟩;have a1:=ai.fr f1 zq;have ah:=OpL.frame ao f1;have a2:=ay.fr f1 zq;have ap:=ak.trans f1 zr)
  |(go_at_call 54;(with_reducible refine (kb.out _ ah).mono ?_);rintro _ v2 ⟨A2,c2,rfl,o2,f2⟩;have a5:=a1.fr f2 zq;have a4:=OpL.frame ah f2;have a6:=a2.fr f2 zq;have aq:=ap.trans f2 zr)
  |(go_at_call 52;(with_reducible refine (ks.out _ _ _ _ o2).mono ?_);rintro _ v3 ⟨rfl,f3⟩;have ae:=a5.fr f3 zq;have bb:=OpL.frame a4 f3;have az:=a6.fr f3 zq;have aw:=aq.trans f3 zr;have bc:v3.cell? ⟨w.heap.size,25,none⟩=some _:=ae.cell 25;have a7:v3.cell? ⟨w.heap.size,26,none⟩=some _:=ae.cell 26;have ba:=ae.frozen 25;have a9:=ae.frozen 26))
 all_goals
  have ar:Blk _ w.heap.size 44 ({x with r:=R,s:=S}:OpL).cells:=(ae.set 25 (.int .u64 (R:Int))).set 26 (.int .u64 (S:Int));have al:=((Fr.refl (One w.heap.size) v3).setOne 25 (.int .u64 (R:Int))).setOne 26 (.int .u64 (S:Int));have a0:=az.fr al (fun e=>by have e':w.heap.size+1=w.heap.size:=e;omega);have aj:=(aw.setNew (An7 _) 25 (.int .u64 (R:Int))).setNew (An7 _) 26 (.int .u64 (S:Int));have ag:=On (OpL.frame ad.out aj) R S;generalize (v3.setCell ⟨w.heap.size,25,none⟩ (.int .u64 (R:Int))).setCell ⟨w.heap.size,26,none⟩ (.int .u64 (S:Int))=w4 at*;have ac:=Cn ({x with r:=R,s:=S}:OpL)
  have av:Hid (∀wz,Fr (One (w.heap.size+1)) w4 wz->POST (.returned (.agg ({x with r:=R,s:=S}:OpL).cells)) wz):=by
   intro wz hf;have a3:=aj.trans hf (fun k hk e=>absurd hk (by have e':k=w.heap.size+1:=e;omega));exact aa.out wz (On (OpL.frame ad.out a3) R S) a3
  clear ag aa ad aj ai a1 a5 ae ay a2 a6 az ao ah a4 bb ak ap aq aw bc a7 ba a9 al a8 o2 f1 f2 f3 c0 f0;generalize ({x with r:=R,s:=S}:OpL)=v at ar ac av;have af:True:=trivial
  go_wp2_with (first
   |(have _t:=af;refine Jq rfl 44 (.tmp 1) rfl rfl ar underlying44 rfl hi ?_;clear af _t)
   |(refine Ei rfl 44 (.tmp 2) (.tmp 10) rfl rfl rfl rfl a0 hi rfl ac ?_;have ax:=(Fr.refl (One (w.heap.size+1)) w4).setRow (g:=w.heap.size+1) (fun _=>rfl) v.cells;have au:=a0.setRow (cs:=v.cells);generalize w4.setRow (w.heap.size+1) v.cells=wz at ax au ⊢;(repeat (first|go_values|go_skip|go_guarded|go_step));exact C8 (t:=44) rfl rfl au rfl underlying44 (by kernel_rfl) rfl (av.out wz ax)))
def E9:List UInt8:=[108,101,97,100]
def Fa:List UInt8:=[107,101,101,112]
def Bs (i:Nat) (m:Int):Cd:=⟨(i:Int)+1,m,Sg.pub (sec E9 (i+1)),Sg.pub (sec Fa (i+1)),Sg.pub (sec Bd (i+1))⟩
def Be (i:Nat):List Int->List Cd
 |[]=>[]
 |m::r=>Bs i m::Be (i+1) r
theorem Oo (l:List Int):∀i,(Be i l).length=l.length:=by
 induction l with
 |nil=>intro i;rfl
 |cons m r ih=>intro i;simp [Be,ih]
theorem Wm (l:List Int) (m:Int):∀i,Be i (l++[m])=Be i l++[Bs (i+l.length) m]:=by
 induction l with
 |nil=>intro i;rfl
 |cons x r ih=>
  intro i;show Bs i x::Be (i+1) (r++[m])=_;rw [ih,List.length_cons,show i+1+r.length=i+(r.length+1) by omega];rfl
theorem slCd:SlT zp 26 104 (.agg zC) 5 40:=⟨underlying26,by kernel_rfl,rfl,by decide⟩
def Ot (l:List Int) (n:Nat) (w:World) (r:Ending) (w':World):Prop:=
 ∃A c,r=.returned (.slice A n c)/\Own w' w.heap.size 104 5 A n c ((Be 0 l).flatMap Cd.cells)/\Fr Non w w'
theorem Ou (n c:Nat) (A:Option Addr) (l:List Int) (w:World) (hn:Hid (l.length=n)) (hl:n<=1000) (hr:Rd w w.heap.size 1 A n (l.map Iv)):
  Calls zp 42 #[.slice A n c] w (Ot l n w):=by
 have ap:∀(kind:List UInt8) (k:Nat) (w':World),k<n->kind.length<=1000->Calls zp 53 #[.string (str kind),.int .i64 ((k:Int)+1)] w' (Cb (sec kind (k+1)) w'):=fun kind k w' hkn hkl=>Ol kind _ (k+1) w' (by rw [IntKind.wrap_u64];omega) (by omega) hkl;go_enter func42,ntmps42;go_wp2
 go_loopw [3,4] (fun s v wr=>∃(k:Nat) (A':Option Addr) (c':Nat),v=.int .i64 (k:Int)/\s=.slice A' k c'/\k<=n/\Own wr w.heap.size 104 5 A' k c' ((Be 0 (l.take k)).flatMap Cd.cells)/\Fr Non w wr) (fun _ v _=>n-(intOf v).toNat)
 case atStart=>exact ⟨0,none,0,rfl,rfl,by omega,Own.nil _ _ _ _,Fr.refl _ _⟩
 case round=>
  obtain ⟨k,A',c',rfl,rfl,hk,ab,hf⟩:=hrel
  by_cases hlt:k<n
  ·
   obtain ⟨b,a9,v,rfl,hb,hu,hc⟩:=(hr.fr hf zr).at hlt;rw [List.getElem?_map] at hu;obtain ⟨mm,a1,rfl⟩:=Option.map_eq_some_iff.1 hu
   have av:l.take (k+1)=l.take k++[mm]:=by
    obtain ⟨hx,rfl⟩:=List.getElem?_eq_some_iff.1 a1;exact Ap0 hx
   have bd:(l.take k).length=k:=by rw [List.length_take,hn.out];omega
   have az:Hid (((Be 0 (l.take (k+1))).flatMap Cd.cells)=(Be 0 (l.take k)).flatMap Cd.cells++(Bs k mm).cells):=by
    show _=_;rw [av,Wm,bd,Nat.zero_add,List.flatMap_append,List.flatMap_cons,List.flatMap_nil,List.append_nil]
   obtain ⟨V1,bb⟩:=Aa (sec E9 (k+1));obtain ⟨V2,a4⟩:=Aa (sec Fa (k+1));obtain ⟨V3,a5⟩:=Aa (sec Bd (k+1));have l1:=Gw E9 (k+1);have l2:=Gw Fa (k+1);have l3:=Gw Bd (k+1);have k1:Hid (∀w':World,Calls zp 53 #[.string ⟨#[108,101,97,100]⟩,.int .i64 ((k:Int)+1)] w' (Cb (sec E9 (k+1)) w')):=fun w'=>ap E9 k w' hlt (by decide);have k2:Hid (∀w':World,Calls zp 53 #[.string ⟨#[107,101,101,112]⟩,.int .i64 ((k:Int)+1)] w' (Cb (sec Fa (k+1)) w')):=fun w'=>ap Fa k w' hlt (by decide);have k3:Hid (∀w':World,Calls zp 53 #[.string ⟨#[115,105,103,110]⟩,.int .i64 ((k:Int)+1)] w' (Cb (sec Bd (k+1)) w')):=fun w'=>ap Bd k w' hlt (by decide);have p1:=lh (fun w'=>H9 (sec E9 (k+1)) w' (by omega));have p2:=lh (fun w'=>H9 (sec Fa (k+1)) w' (by omega));have p3:=lh (fun w'=>H9 (sec Bd (k+1)) w' (by omega))
   have ad:Hid ((Bs k mm).cells=[.int .i64 ((k:Int)+1),.int .i64 mm,.int .u64 (Sg.pub (sec E9 (k+1)):Int),.int .u64 (Sg.pub (sec Fa (k+1)):Int),.int .u64 (Sg.pub (sec Bd (k+1)):Int)]):=by
    show _=_;unfold Bs;exact Uc _ _ _ _ _
   rw [bb.out] at k1 p1 ad l1;rw [a4.out] at k2 p2 ad l2;rw [a5.out] at k3 p3 ad l3;obtain ⟨Q1,a7⟩:=Aa (Sg.pub V1);obtain ⟨Q2,a8⟩:=Aa (Sg.pub V2);obtain ⟨Q3,aw⟩:=Aa (Sg.pub V3);rw [a7.out] at p1 ad;rw [a8.out] at p2 ad;rw [aw.out] at p3 ad;have ak:Hid (∀(A2:Option Addr) (c2:Nat) (w2:World),Own w2 w.heap.size 104 5 A2 (k+1) c2 ((Be 0 (l.take k)).flatMap Cd.cells++[.int .i64 ((k:Int)+1),.int .i64 mm,.int .u64 (Q1:Int),.int .u64 (Q2:Int),.int .u64 (Q3:Int)])->Own w2 w.heap.size 104 5 A2 (k+1) c2 ((Be 0 (l.take (k+1))).flatMap Cd.cells)):=fun A2 c2 w2 h=>by rw [az.out,ad.out];exact h
   clear bb a4 a5 a7 a8 aw az ad av bd a1 hu hn ap;obtain ⟨XS,bm⟩:=Aa ((Be 0 (l.take k)).flatMap Cd.cells);rw [bm.out] at ab ak;have bn:b<w.heap.size:=hb;have ac:cI wr.drew b (a9+k) mm:=hc;have aj:Own wr.drew w.heap.size 104 5 A' k c' XS:=ab;have bl:=hf.drew;go_upto_region 6 with (fail)
   refine wp_region_held_drew (S:=fun w'=>cI w' b (a9+k) mm) (by kernel_rfl) ac (fun _=> ?_);refine tkH 0 ac (h:=?_);(try simp only [zl]);refine tkH 1 ac (h:=?_);(try simp only [zl]);refine tkH 2 ac (h:=?_);(try simp only [zl]);refine tkH 3 ac (h:=?_);(try simp only [zl]);refine tkH 4 ac (h:=?_);(try simp only [zl]);refine tkH 5 ac (h:=?_);(try simp only [zl]);refine tkH 6 ac (h:=?_);(try simp only [zl]);refine tkH 9 ac (h:=?_);(try simp only [zl]);refine tkH 12 ac (h:=?_);(try simp only [zl]);refine Bh 7 (by kernel_rfl) rfl (by kernel_rfl) (fun K hK=> ?_);go_simp;go_wp2_with (go_at_call 53;(with_reducible refine (k1.out _).mono ?_);rintro _ v1 ⟨rfl,f1⟩;have a0:=f1.cell ac zq;have ag:=aj.fr f1 zr;have bg:=bl.trans f1 zr);refine hK.out _ _ a0 (fun _=> ?_);clear hK K;try simp only [Ad,zl]
   refine Bh 8 (by kernel_rfl) rfl (by kernel_rfl) (fun K hK=> ?_);go_simp;go_wp2_with (go_at_call 90;(with_reducible refine (p1.out _).mono ?_);rintro _ v2 ⟨rfl,f2⟩;have bc:=f2.cell a0 zq;have af:=ag.fr f2 zr;have bj:=bg.trans f2 zr);refine hK.out _ _ bc (fun _=> ?_);clear hK K;try simp only [Ad,zl]
   refine Bh 10 (by kernel_rfl) rfl (by kernel_rfl) (fun K hK=> ?_);go_simp;go_wp2_with (go_at_call 53;(with_reducible refine (k2.out _).mono ?_);rintro _ v3 ⟨rfl,f3⟩;have ba:=f3.cell bc zq;have ao:=af.fr f3 zr;have bh:=bj.trans f3 zr);refine hK.out _ _ ba (fun _=> ?_);clear hK K;try simp only [Ad,zl]
   refine Bh 11 (by kernel_rfl) rfl (by kernel_rfl) (fun K hK=> ?_);go_simp;go_wp2_with (go_at_call 90;(with_reducible refine (p2.out _).mono ?_);rintro _ v4 ⟨rfl,f4⟩;have a3:=f4.cell ba zq;have ai:=ao.fr f4 zr;have bk:=bh.trans f4 zr);refine hK.out _ _ a3 (fun _=> ?_);clear hK K;try simp only [Ad,zl]
   refine Bh 13 (by kernel_rfl) rfl (by kernel_rfl) (fun K hK=> ?_);go_simp;go_wp2_with (go_at_call 53;(with_reducible refine (k3.out _).mono ?_);rintro _ v5 ⟨rfl,f5⟩;have be:=f5.cell a3 zq;have ae:=ai.fr f5 zr;have bf:=bk.trans f5 zr);refine hK.out _ _ be (fun _=> ?_);clear hK K;try simp only [Ad,zl]
   refine Bh 14 (by kernel_rfl) rfl (by kernel_rfl) (fun K hK=> ?_);go_simp;go_wp2_with (go_at_call 90;(with_reducible refine (p3.out _).mono ?_);rintro _ v6 ⟨rfl,f6⟩;have aq:=f6.cell be zq;have ah:=ae.fr f6 zr;have ax:=bf.trans f6 zr);refine hK.out _ _ aq (fun _=> ?_);clear hK K;try simp only [Ad,zl]
   refine tkH 15 aq (h:=?_);(try simp only [zl]);refine Bh 16 (by kernel_rfl) rfl (by kernel_rfl) (fun K hK=> ?_);go_simp;have a2:=Fk aq (.cells #[.int .i64 ((k:Int)+1),.int .i64 mm,.int .u64 (Q1:Int),.int .u64 (Q2:Int),.int .u64 (Q3:Int)] 104);have al:=ah.alloc (.cells #[.int .i64 ((k:Int)+1),.int .i64 mm,.int .u64 (Q1:Int),.int .u64 (Q2:Int),.int .u64 (Q3:Int)] 104);have au:=Rd.blk (n:=1) (size:=5) (Blk.new v6 104 #[.int .i64 ((k:Int)+1),.int .i64 mm,.int .u64 (Q1:Int),.int .u64 (Q2:Int),.int .u64 (Q3:Int)]) rfl;refine hK.out _ _ a2 (fun _=> ?_);clear hK K;go_simp;refine wpAnyH_ready (rs:=[17]) (by kernel_rfl) (by simp) (AllReadyH.cons rfl (fun K hK=> ?_) AllReadyH.nil);refine Fg (base:=w.heap.size) (.tmp 14) (.tmp 30) 26 (by rfl) (by rfl) (by rfl) (by rfl) slCd al au (by simp [Value.oneCell']) (by omega) (by omega) (by rw [Ao6];have:=ax.size;omega) ?_;intro A2 c2 w9 ar ay bi;have a6:=ay.cell a2 (fun e=>by have h:w.heap.size<=b:=(ab.row b e).1;omega);refine hK.out _ _ a6 (fun _=> ?_);clear hK K;go_simp;refine tkH 18 a6 (h:=?_);(try simp only [zl]);refine oD ?_;go_wp2;go_roundw
   case rel=>exact ⟨k+1,A2,c2,by go_num,rfl,by omega,ak.out A2 c2 _ ar,(ax.alloc _).trans ay (fun j hj e=>by have:=(ab.row j e).1;omega)⟩
   case measure=>simp [intOf];omega
  ·
   obtain rfl:k=n:=by omega
   have ht:l.take k=l:=Aq0 (by rw [hn.out];exact An7 _);rw [ht] at ab;go_wp2
   go_ret
   exact ⟨A',c',rfl,ab,hf⟩
end Oq
namespace Oq
structure Pn where
 o:Op
 id:Id
 ps:Nat->Bool
 lev:Nat
def Ag.pn (n:Ag):Pn:=⟨n.x.op,n.id,n.past,n.lev⟩
def Gph.pns (g:Gph):List Pn:=g.nodes.map Ag.pn
def plc (l:List Pn) (id:Id):Option Nat:=l.findIdx? (fun n=>decide (n.id=id))
theorem Fv (l:List Ag) (id:Id):plc (l.map Ag.pn) id=Af l id:=by
 unfold plc Af;rw [List.findIdx?_map];rfl
theorem Dy {l:List Pn} {id:Id} {i:Nat} (h:plc l id=some i):∃n,l[i]? =some n/\n.id=id:=by
 obtain ⟨hi,h1,_⟩:=List.findIdx?_eq_some_iff_getElem.1 h;exact ⟨l[i],Aq1 hi,by simpa using h1⟩
theorem Dp {l:List Pn} {id:Id} {i:Nat} (h:plc l id=some i):i<l.length:=by
 obtain ⟨n,hn,_⟩:=Dy h;exact (List.getElem?_eq_some_iff.1 hn).1
def Bu (l:List Pn) (ids:List Id) (q:Nat):Bool:=ids.any (fun id=>plc l id==some q)
def upB (l:List Pn) (id:Id) (q:Nat):Bool:=match plc l id with|some i=>(l[i]?.map (fun n=>n.ps q)).getD false|none=>false
def Av (l:List Pn) (ids:List Id) (q:Nat):Bool:=ids.any (fun id=>upB l id q)
def Ca (l:List Pn) (id:Id):Int:=match plc l id with|some i=>(l[i]?.map (fun n=>n.o.at_)).getD 0|none=>0
def late (l:List Pn) (ids:List Id):Int:=ids.foldl (fun t id=>max t (Ca l id)) 0
def Cr (l:List Pn) (id:Id):Nat:=match plc l id with|some i=>(l[i]?.map (fun n=>n.lev)).getD 0|none=>0
def lvl (l:List Pn) (ids:List Id):Nat:=ids.foldl (fun t id=>max t (Cr l id+1)) 1
def clash (l:List Pn) (ids:List Id):Bool:=(Ap1 256).any (fun q=>Bu l ids q&&Av l ids q)
def Bj (l:List Pn) (p:Nat->Bool) (d:Int):Nat->Int
 |0=>0
 |k+1=>match l[k]? with
  |some n=>if (n.o.by_==d&&p k)=true then max (Bj l p d k) n.o.sq else Bj l p d k
  |none=>Bj l p d k
def Bt (l:List Pn) (p:Nat->Bool) (d s:Int):Nat->Bool
 |0=>false
 |k+1=>match l[k]? with
  |some n=>Bt l p d s k||(n.o.by_==d&&p k&&n.o.sq==s-1)
  |none=>Bt l p d s k
def Aj (l:List Pn) (ids:List Id) (q:Nat):Bool:=decide (q<256)&&(Av l ids q||Bu l ids q)
def Ba (l:List Pn) (p:Nat->Bool) (o:Op):Bool:=decide (o.sq<=Bj l p o.by_ l.length)||(decide (1<o.sq)&& !Bt l p o.by_ o.sq l.length)
def Op.name (o:Op):Id:=⟨o.by_,o.sq,o.id⟩
def Bk (cards:List Cd) (d:Int):Option Cd:=cards.find? (fun c=>c.d==d)
def Ah (cards:List Cd) (l:List Pn) (o:Op):Int:=
 if o.chk≠0 then o.chk
 else if (plc l o.name).isSome=true then 5
 else if 200<=l.length then 3
 else match Bk cards o.by_ with
  |none=>17
  |some c=>
   if Sg.check c.s o.bare o.r o.s=false then 12
   else if o.kind=1/\l≠[] then 1
   else if o.past.any (fun id=>(plc l id).isNone)=true then 10
   else if clash l o.past=true\/o.at_<late l o.past then 6
   else if Ba l (Aj l o.past) o=true then 11
   else 0
def Au (l:List Pn) (o:Op):Pn:=⟨o,o.name,Aj l o.past,lvl l o.past⟩
theorem Dz {α:Type} {l:List α} {k:Nat} {x:α} (h:l[k]? =some x):l.take (k+1)=l.take k++[x]:=by
 obtain ⟨hk,rfl⟩:=List.getElem?_eq_some_iff.1 h;rw [Ap0 hk]
theorem Wn (l:List Pn) (ids:List Id) (k:Nat) {id:Id} (h:ids[k]? =some id):Bu l (ids.take (k+1))=fun q=>(plc l id==some q)||Bu l (ids.take k) q:=by
 funext q;unfold Bu;rw [Dz h,Ap2];simp [Bool.or_comm]
theorem Ov (l:List Pn) (ids:List Id) (k:Nat) {id:Id} (h:ids[k]? =some id):Av l (ids.take (k+1))=fun q=>Av l (ids.take k) q||upB l id q:=by
 funext q;unfold Av;rw [Dz h,Ap2];simp
theorem Ow (l:List Pn) (ids:List Id) (k:Nat) {id:Id} (h:ids[k]? =some id):late l (ids.take (k+1))=max (late l (ids.take k)) (Ca l id):=by
 unfold late;rw [Dz h,Aq2];rfl
theorem Wo (l:List Pn) (ids:List Id) (k:Nat) {id:Id} (h:ids[k]? =some id):lvl l (ids.take (k+1))=max (lvl l (ids.take k)) (Cr l id+1):=by
 unfold lvl;rw [Dz h,Aq2];rfl
theorem Wp (l:List Pn) (m:Int) (hm:0<=m) (h:∀n∈l,n.o.at_<=m) (ids:List Id):late l ids<=m:=by
 have hat:∀id,Ca l id<=m:=by
  intro id;unfold Ca
  split
  ·
   rename_i i hi;obtain ⟨n,hn,_⟩:=Dy hi;rw [hn];exact h n (Ap3 hn)
  · exact hm
 unfold late
 suffices H:∀(t:Int),t<=m->ids.foldl (fun t id=>max t (Ca l id)) t<=m from H 0 hm
 intro t
 induction ids generalizing t with
 |nil=>intro h;exact h
 |cons id r ih=>intro h;exact ih _ (by have:=hat id;dsimp only;omega)
theorem Wq (l:List Pn) (m:Nat) (h:∀n∈l,n.lev<=m) (ids:List Id):lvl l ids<=m+1:=by
 have hat:∀id,Cr l id<=m:=by
  intro id;unfold Cr
  split
  ·
   rename_i i hi;obtain ⟨n,hn,_⟩:=Dy hi;rw [hn];exact h n (Ap3 hn)
  · omega
 unfold lvl
 suffices H:∀(t:Nat),t<=m+1->ids.foldl (fun t id=>max t (Cr l id+1)) t<=m+1 from H 1 (by omega)
 intro t
 induction ids generalizing t with
 |nil=>intro h;exact h
 |cons id r ih=>intro h;exact ih _ (by have:=hat id;dsimp only;omega)
theorem Wr (ws:List Nat) (h:ws.length=4) (k:Nat) (hk:256<=k):((ws.getD (k/64) 0).testBit (k%64))=false:=by
 rw [List.getD_eq_getElem?_getD,Aq3 (by omega)];simp
theorem Ws {n:Ag} {m:Nat->Bool} (h:Aq n.ws m):n.past=fun q=>decide (q<256)&&m q:=by
 funext q;unfold Ag.past
 by_cases hq:q<256
 ·
  rw [<- h.bit q hq];simp [hq]
 ·
  rw [Wr n.ws rfl q (by omega)];simp [hq]
theorem Wt {a0 a1 a2 a3:Nat} {m:Nat->Bool} (h:Aq [a0,a1,a2,a3] m):(a0==0&&a1==0&&a2==0&&a3==0)=!(Ap1 256).any m:=by
 rw [Ao8];simp only [An3,beq_iff_eq,Bool.not_eq_true',Ap4,List.mem_range];constructor
 ·
  rintro ⟨⟨⟨rfl,rfl⟩,rfl⟩,rfl⟩ q hq;rw [h.bit q hq];have hq4:q/64=0\/q/64=1\/q/64=2\/q/64=3:=by omega
  rcases hq4 with e|e|e|e<;>rw [e]<;>simp
 ·
  intro hz
  have key:∀k,k<4->[a0,a1,a2,a3].getD k 0=0:=by
   intro k hk;refine Nat.eq_of_testBit_eq (fun j=> ?_);rw [Nat.zero_testBit]
   by_cases hj:j<64
   ·
    have h1:=h.bit (64*k+j) (by omega);have h2:=hz (64*k+j) (by omega);rw [show (64*k+j)/64=k by omega,show (64*k+j)%64=j by omega] at h1;rw [<- h1];simpa using h2
   ·
    have hu:=h.u64 k
    exact Nat.testBit_lt_two_pow (Nat.lt_of_lt_of_le hu (by
     have:(2:Nat)^64<=2^j:=Nat.pow_le_pow_right (by decide) (by omega);exact Nat.le_trans (by decide) this))
  exact ⟨⟨⟨key 0 (by omega),key 1 (by omega)⟩,key 2 (by omega)⟩,key 3 (by omega)⟩
inductive Rows (cards:List Cd):List Pn->Prop
 |nil:Rows cards []
 |snoc (l:List Pn) (o:Op):Rows cards l->Ah cards l o=0->Rows cards (l++[Au l o])
structure Ia (cards:List Cd) (l:List Pn) (o:Op):Prop where
 chk:o.chk=0
 new:plc l o.name=none
 room:l.length<200
 card:(Bk cards o.by_).isSome=true
 past:∀id∈o.past,∃i,plc l id=some i
 clash:clash l o.past=false
 late:late l o.past<=o.at_
 seq:Ba l (Aj l o.past) o=false
theorem Ib {cards:List Cd} {l:List Pn} {o:Op} (h:Ah cards l o=0):Ia cards l o:=by
 unfold Ah at h
 by_cases h1:o.chk≠0
 · rw [if_pos h1] at h;exact absurd h h1
 rw [if_neg h1] at h
 by_cases h2:(plc l o.name).isSome=true
 · rw [if_pos h2] at h;omega
 rw [if_neg h2] at h
 by_cases h3:200<=l.length
 · rw [if_pos h3] at h;omega
 rw [if_neg h3] at h
 cases hc:Bk cards o.by_ with
 |none=>rw [hc] at h;dsimp only at h;omega
 |some c=>
  rw [hc] at h;dsimp only at h
  by_cases h4:Sg.check c.s o.bare o.r o.s=false
  · rw [if_pos h4] at h;omega
  rw [if_neg h4] at h
  by_cases h5:o.kind=1/\l≠[]
  · rw [if_pos h5] at h;omega
  rw [if_neg h5] at h
  by_cases h6:o.past.any (fun id=>(plc l id).isNone)=true
  · rw [if_pos h6] at h;omega
  rw [if_neg h6] at h
  by_cases h7:Oq.clash l o.past=true\/o.at_<Oq.late l o.past
  · rw [if_pos h7] at h;omega
  rw [if_neg h7] at h
  by_cases h8:Ba l (Aj l o.past) o=true
  · rw [if_pos h8] at h;omega
  refine ⟨Decidable.not_not.1 h1,?_,by omega,by rw [hc];rfl,?_,?_,?_,Bool.not_eq_true _▸h8⟩
  ·
   cases hp:plc l o.name with
   |none=>rfl
   |some i=>rw [hp] at h2;exact absurd rfl h2
  ·
   intro id hid
   cases hp:plc l id with
   |some i=>exact ⟨i,rfl⟩
   |none=>exact absurd (List.any_eq_true.2 ⟨id,hid,by rw [hp];rfl⟩) h6
  ·
   cases hcl:Oq.clash l o.past with
   |false=>rfl
   |true=>exact absurd (Or.inl hcl) h7
  · exact Int.not_lt.1 (fun hh=>h7 (Or.inr hh))
theorem Eg {l:List Pn} {id:Id} {i:Nat} (n:Pn) (h:plc l id=some i):plc (l++[n]) id=some i:=by
 unfold plc at h ⊢;rw [Aq4,h];rfl
theorem Wu {l:List Pn} {n:Pn} (h:plc l n.id=none):plc (l++[n]) n.id=some l.length:=by
 unfold plc at h ⊢;rw [Aq4,h];simp
theorem Ic {l:List Pn} {p:Nat} {m n:Pn} (h:l[p]? =some m):(l++[n])[p]? =some m:=by
 obtain ⟨hp,hm⟩:=List.getElem?_eq_some_iff.1 h;rw [An4 hp];exact h
structure NOk (cards:List Cd) (l:List Pn) (i:Nat) (n:Pn):Prop where
 id:n.id=n.o.name
 plc:plc l n.id=some i
 chk:n.o.chk=0
 card:(Bk cards n.o.by_).isSome=true
 par:∀id∈n.o.past,∃p,p<i/\Oq.plc l id=some p
 lt:∀q,n.ps q=true->q<i
 ps:∀q,n.ps q=true<->∃id∈n.o.past,∃p m,Oq.plc l id=some p/\l[p]? =some m/\(q=p\/m.ps q=true)
 anti:∀id∈n.o.past,∀id'∈n.o.past,∀p p' m,Oq.plc l id=some p->Oq.plc l id'=some p'->l[p]? =some m->m.ps p'=false
 late:∀id∈n.o.past,∀p m,Oq.plc l id=some p->l[p]? =some m->m.o.at_<=n.o.at_
 lev:n.lev=lvl l n.o.past
 seqs:∀q m,n.ps q=true->l[q]? =some m->m.o.by_=n.o.by_->m.o.sq<n.o.sq
 one:n.o.sq=1\/∃q m,n.ps q=true/\l[q]? =some m/\m.o.by_=n.o.by_/\m.o.sq=n.o.sq-1
theorem Ox {l l':List Pn} {ids:List Id} (h:∀id∈ids,Cr l' id=Cr l id):lvl l' ids=lvl l ids:=by
 unfold lvl
 suffices H:∀t:Nat,ids.foldl (fun t id=>max t (Cr l' id+1)) t=ids.foldl (fun t id=>max t (Cr l id+1)) t from H 1
 induction ids with
 |nil=>intro t;rfl
 |cons x r ih=>intro t;rw [List.foldl_cons,List.foldl_cons,h x Ap5];exact ih (fun y hy=>h y (Ap6 _ hy)) _
theorem NOk.keep {cards:List Cd} {l:List Pn} {i:Nat} {n n':Pn} (h:NOk cards l i n) (hi:l[i]? =some n):NOk cards (l++[n']) i n:=by
 have hil:i<l.length:=(List.getElem?_eq_some_iff.1 hi).1
 have hpar:∀id∈n.o.past,∀p,Oq.plc (l++[n']) id=some p->Oq.plc l id=some p:=by
  intro id hid p hp;obtain ⟨q,_,hq⟩:=h.par id hid;rw [Eg n' hq] at hp;injection hp with hp
  subst hp;exact hq
 have hat:∀id∈n.o.past,∀p m,Oq.plc l id=some p->(l++[n'])[p]? =some m->l[p]? =some m:=by
  intro id hid p m hp hm;rw [An4 (Dp hp)] at hm;exact hm
 have hlow:∀q m,n.ps q=true->(l++[n'])[q]? =some m->l[q]? =some m:=by
  intro q m hq hm;rw [An4 (Nat.lt_trans (h.lt q hq) hil)] at hm;exact hm
 refine ⟨h.id,Eg n' h.plc,h.chk,h.card,fun id hid=> ?_,h.lt,fun q=>(h.ps q).trans ⟨?_,?_⟩,?_,?_,?_,?_,?_⟩
 ·
  obtain ⟨p,hp,hq⟩:=h.par id hid;exact ⟨p,hp,Eg n' hq⟩
 ·
  rintro ⟨id,hid,p,m,h1,h2,h3⟩;exact ⟨id,hid,p,m,Eg n' h1,Ic h2,h3⟩
 ·
  rintro ⟨id,hid,p,m,h1,h2,h3⟩;have h1':=hpar id hid p h1;exact ⟨id,hid,p,m,h1',hat id hid p m h1' h2,h3⟩
 ·
  intro id hid id' hid' p p' m h1 h2 h3;have h1':=hpar id hid p h1;exact h.anti id hid id' hid' p p' m h1' (hpar id' hid' p' h2) (hat id hid p m h1' h3)
 ·
  intro id hid p m h1 h2;have h1':=hpar id hid p h1;exact h.late id hid p m h1' (hat id hid p m h1' h2)
 ·
  rw [h.lev];refine (Ox (fun id hid=> ?_)).symm;obtain ⟨p,_,hq⟩:=h.par id hid;unfold Cr;rw [Eg n' hq,hq];dsimp only;rw [An4 (Dp hq)]
 ·
  intro q m hq hm;exact h.seqs q m hq (hlow q m hq hm)
 ·
  rcases h.one with h1|⟨q,m,h1,h2,h3⟩
  · exact .inl h1
  · exact .inr ⟨q,m,h1,Ic h2,h3⟩
theorem upB_iff {l:List Pn} {id:Id} {q:Nat}:upB l id q=true<->∃p m,plc l id=some p/\l[p]? =some m/\m.ps q=true:=by
 unfold upB;constructor
 ·
  intro h
  split at h
  ·
   rename_i p hp;obtain ⟨m,hm,_⟩:=Dy hp;rw [hm] at h;exact ⟨p,m,hp,hm,h⟩
  · cases h
 ·
  rintro ⟨p,m,h1,h2,h3⟩;rw [h1];dsimp only;rw [h2];exact h3
theorem Oy {l:List Pn} {ids:List Id} (hlen:l.length<=200) (hlt:∀(p:Nat) (m:Pn),l[p]? =some m->∀q,m.ps q=true->q<p) (q:Nat):
  Aj l ids q=true<->∃id∈ids,∃p m,plc l id=some p/\l[p]? =some m/\(q=p\/m.ps q=true):=by
 unfold Aj Av Bu;rw [An3,Ao1,Ap7,Ap7,decide_eq_true_eq];constructor
 ·
  rintro ⟨_,⟨id,hid,h⟩|⟨id,hid,h⟩⟩
  ·
   obtain ⟨p,m,h1,h2,h3⟩:=upB_iff.1 h;exact ⟨id,hid,p,m,h1,h2,.inr h3⟩
  ·
   have h1:plc l id=some q:=by simpa using h
   obtain ⟨m,hm,_⟩:=Dy h1;exact ⟨id,hid,q,m,h1,hm,.inl rfl⟩
 ·
  rintro ⟨id,hid,p,m,h1,h2,h3⟩;have hp:=Dp h1
  rcases h3 with rfl|h3
  · exact ⟨by omega,.inr ⟨id,hid,by rw [h1];exact beq_self_eq_true _⟩⟩
  ·
   have:=hlt p m h2 q h3;exact ⟨by omega,.inl ⟨id,hid,upB_iff.2 ⟨p,m,h1,h2,h3⟩⟩⟩
theorem Oz {l:List Pn} {ids:List Id} {id:Id} (h:id∈ids):Ca l id<=late l ids:=by
 unfold late
 have mono:∀(r:List Id) (t:Int),t<=r.foldl (fun t id=>max t (Ca l id)) t:=by
  intro r
  induction r with
  |nil=>intro t;exact Int.le_refl _
  |cons y r ih=>intro t;exact Ao0 (Ap8 _ _) (ih _)
 suffices H:∀t:Int,Ca l id<=ids.foldl (fun t id=>max t (Ca l id)) t from H 0
 induction ids with
 |nil=>cases h
 |cons x r ih=>
  intro t
  rcases List.mem_cons.1 h with rfl|h'
  · exact Ao0 (Int.le_max_right t _) (mono r _)
  · exact ih h' _
theorem Ie {l:List Pn} {id:Id} {p:Nat} {m:Pn} (h1:plc l id=some p) (h2:l[p]? =some m):Ca l id=m.o.at_:=by
 unfold Ca;rw [h1];dsimp only;rw [h2];rfl
theorem O4 {l:List Pn} {p:Nat->Bool} {d:Int}:∀{K k:Nat} {m:Pn},k<K->l[k]? =some m->m.o.by_=d->p k=true->m.o.sq<=Bj l p d K:=by
 intro K
 induction K with
 |zero=>intro k m h;omega
 |succ K ih=>
  intro k m h hm hd hp;unfold Bj
  rcases Ao2 k K with hk|hk
  ·
   have:=ih hk hm hd hp
   split
   ·
    split
    · exact Ao0 this (Ap8 _ _)
    · exact this
   · exact this
  ·
   have e:k=K:=by omega
   subst e;rw [hm];dsimp only;rw [if_pos (by rw [An3];exact ⟨beq_iff_eq.2 hd,hp⟩)];exact Int.le_max_right _ _
theorem aheadTo_iff {l:List Pn} {p:Nat->Bool} {d s:Int}:∀{K:Nat},Bt l p d s K=true<->∃k m,k<K/\l[k]? =some m/\m.o.by_=d/\p k=true/\m.o.sq=s-1:=by
 intro K
 induction K with
 |zero=>exact ⟨fun h=>(by cases h),fun ⟨k,m,h,_⟩=>by omega⟩
 |succ K ih=>
  unfold Bt
  cases hK:l[K]? with
  |none=>
   dsimp only;rw [ih];constructor
   ·
    rintro ⟨k,m,h,h'⟩;exact ⟨k,m,by omega,h'⟩
   ·
    rintro ⟨k,m,h,h1,h'⟩;have:k≠K:=fun e=>by subst e;rw [hK] at h1;cases h1
    exact ⟨k,m,by omega,h1,h'⟩
  |some n=>
   dsimp only;rw [Ao1,ih,An3,An3,beq_iff_eq,beq_iff_eq];constructor
   ·
    rintro (⟨k,m,h,h'⟩|⟨⟨h1,h2⟩,h3⟩)
    · exact ⟨k,m,by omega,h'⟩
    · exact ⟨K,n,by omega,hK,h1,h2,h3⟩
   ·
    rintro ⟨k,m,h,h1,h2,h3,h4⟩
    rcases Ao2 k K with hk|hk
    · exact .inl ⟨k,m,hk,h1,h2,h3,h4⟩
    ·
     have e:k=K:=by omega
     subst e;rw [hK] at h1;injection h1 with h1
     subst h1;exact .inr ⟨⟨h2,h3⟩,h4⟩
theorem O5 {cards:List Cd} {l:List Pn} {o:Op} (hl:∀i n,l[i]? =some n->NOk cards l i n) (T:Ia cards l o):NOk cards (l++[Au l o]) l.length (Au l o):=by
 have ai:∀(p:Nat) (m:Pn),l[p]? =some m->∀q,m.ps q=true->q<p:=fun p m hm=>(hl p m hm).lt;have aj:=Oy (ids:=o.past) (Nat.le_of_lt T.room) ai
 have ac:∀id∈o.past,∀p,plc (l++[Au l o]) id=some p->plc l id=some p:=by
  intro id aa p hp;obtain ⟨q,hq⟩:=T.past id aa;rw [Eg _ hq] at hp;injection hp with hp
  subst hp;exact hq
 have ah:∀id∈o.past,∀p m,plc l id=some p->(l++[Au l o])[p]? =some m->l[p]? =some m:=by
  intro id aa p m hp hm;rw [An4 (Dp hp)] at hm;exact hm
 have af:∀q,Aj l o.past q=true->q<l.length:=by
  intro q hq;obtain ⟨id,aa,p,m,h1,h2,h3⟩:=(aj q).1 hq;have:=Dp h1
  rcases h3 with rfl|h3
  · exact this
  ·
   have:=ai p m h2 q h3;omega
 have ab:=T.seq;unfold Ba at ab;rw [Bool.or_eq_false_iff,decide_eq_false_iff_not] at ab;refine ⟨rfl,Wu (n:=Au l o) T.new,T.chk,T.card,?_,af,fun q=>(aj q).trans ⟨?_,?_⟩,?_,?_,?_,?_,?_⟩
 ·
  intro id aa;obtain ⟨p,hp⟩:=T.past id aa;exact ⟨p,Dp hp,Eg _ hp⟩
 ·
  rintro ⟨id,aa,p,m,h1,h2,h3⟩;exact ⟨id,aa,p,m,Eg _ h1,Ic h2,h3⟩
 ·
  rintro ⟨id,aa,p,m,h1,h2,h3⟩;have ad:=ac id aa p h1;exact ⟨id,aa,p,m,ad,ah id aa p m ad h2,h3⟩
 ·
  intro id aa ak ae p p' m h1 h2 h3;have ad:=ac id aa p h1;have ag:=ac ak ae p' h2;have ap:=ah id aa p m ad h3;have ao:=T.room;have aq:=Dp ag;have hc:=T.clash;unfold Oq.clash at hc;rw [Ap4] at hc;have hq:=hc p' (List.mem_range.2 (by omega))
  cases hm:m.ps p' with
  |false=>rfl
  |true=>
   refine absurd ?_ hq;rw [An3];exact ⟨List.any_eq_true.2 ⟨ak,ae,by rw [ag];exact beq_self_eq_true _⟩,List.any_eq_true.2 ⟨id,aa,upB_iff.2 ⟨p,m,ad,ap,hm⟩⟩⟩
 ·
  intro id aa p m h1 h2;have ad:=ac id aa p h1;have ag:=ah id aa p m ad h2;have:=Oz (l:=l) aa;rw [Ie ad ag] at this;exact Ao0 this T.late
 ·
  refine (Ox (l:=l) (l':=l++[Au l o]) (fun id aa=> ?_)).symm;obtain ⟨p,hq⟩:=T.past id aa;unfold Cr;rw [Eg _ hq,hq];dsimp only;rw [An4 (Dp hq)]
 ·
  intro q m hq hm hb;have al:=af q hq;rw [An4 al] at hm;have:=O4 (p:=Aj l o.past) al hm hb hq;exact Int.lt_of_le_of_lt this (Int.not_le.1 ab.1)
 ·
  rcases Int.lt_or_le 1 o.sq with h1|h1
  ·
   have h2:=ab.2;rw [Bool.and_eq_false_iff] at h2
   rcases h2 with h2|h2
   ·
    rw [decide_eq_false_iff_not] at h2;exact absurd h1 h2
   ·
    have h3:Bt l (Aj l o.past) o.by_ o.sq l.length=true:=by
     cases ha:Bt l (Aj l o.past) o.by_ o.sq l.length with
     |true=>rfl
     |false=>rw [ha] at h2;cases h2
    obtain ⟨k,m,hk,hm,hb,hp,hs⟩:=aheadTo_iff.1 h3;exact .inr ⟨k,m,hp,Ic hm,hb,hs⟩
  ·
   refine .inl ?_
   have h0:∀K,0<=Bj l (Aj l o.past) o.by_ K:=by
    intro K
    induction K with
    |zero=>exact Int.le_refl _
    |succ K ih=>
     unfold Bj
     split
     ·
      split
      · exact Ao0 ih (Ap8 _ _)
      · exact ih
     · exact ih
   have h2:=h0 l.length;have h3:=Int.not_le.1 ab.1;have h4:(Au l o).o.sq=o.sq:=rfl;rw [h4];omega
theorem Rows.ok {cards:List Cd} {l:List Pn} (h:Rows cards l):∀i n,l[i]? =some n->NOk cards l i n:=by
 induction h with
 |nil=>intro i n h;simp at h
 |snoc l o hl ho ih=>
  intro i n hi
  rcases Ao2 i l.length with hlt|hge
  ·
   rw [An4 hlt] at hi;exact (ih i n hi).keep hi
  ·
   rw [List.getElem?_append_right hge] at hi
   have e:i-l.length=0:=by
    rcases Nat.eq_zero_or_pos (i-l.length) with h0|h0
    · exact h0
    · rw [Aq3 (by simp;omega)] at hi;cases hi
   rw [e] at hi;injection hi with hi
   subst hi;have:i=l.length:=by omega
   subst this;exact O5 ih (Ib ho)
theorem Rows.few {cards:List Cd} {l:List Pn} (h:Rows cards l):l.length<=200:=by
 induction h with
 |nil=>simp
 |snoc l o hl ho ih=>
  have:=(Ib ho).room;simp;omega
theorem Rows.trans {cards:List Cd} {l:List Pn} (h:Rows cards l):∀(i:Nat) {n m:Pn} {q r:Nat},l[i]? =some n->n.ps q=true->l[q]? =some m->m.ps r=true->n.ps r=true:=by
 intro i
 induction i using Nat.strongRecOn with
 |_ i ih=>
  intro n m q r hn hq hm hr;have k:=h.ok i n hn;obtain ⟨id,hid,p,m',h1,h2,h3⟩:=(k.ps q).1 hq;refine (k.ps r).2 ⟨id,hid,p,m',h1,h2,.inr ?_⟩
  rcases h3 with rfl|h3
  ·
   rw [h2] at hm;injection hm with hm
   subst hm;exact hr
  ·
   obtain ⟨p2,hp2,e⟩:=k.par id hid;rw [h1] at e;injection e with e
   subst e;exact ih p hp2 h2 h3 hm hr
theorem Rows.node {cards:List Cd} {l:List Pn} (h:Rows cards l) {i:Nat} {n:Pn} {id:Id} (hn:l[i]? =some n):plc l id=some i<->n.id=id:=by
 constructor
 ·
  intro hp;obtain ⟨m,hm,e⟩:=Dy hp;rw [hn] at hm;injection hm with hm
  subst hm;exact e
 ·
  rintro rfl;exact (h.ok i n hn).plc
def Am (l:List Pn) (ids:List Id):List Nat:=ids.map (fun id=>(plc l id).getD 0)
def Fb (l:List Pn):List (List Nat):=l.map (fun n=>Am l n.o.past)
def Bn (n:Nat) (p:Nat->Bool):List Bool:=(Ap1 n).map p
def Dd (l:List Pn):List (List Bool):=l.map (fun n=>Bn l.length n.ps)
theorem Fw (n:Nat) (p:Nat->Bool):(Bn n p).length=n:=by simp [Bn]
theorem O6 {n:Nat} {p:Nat->Bool} {k:Nat} (h:k<n):(Bn n p)[k]? =some (p k):=by simp [Bn,h]
theorem O7 (n:Nat) (p:Nat->Bool):Bn (n+1) p=Bn n p++[p n]:=by simp [Bn,List.range_succ]
theorem Ww (l:List Pn):(Dd l).length=l.length:=by simp [Dd]
theorem Wx {l:List Pn} {i:Nat} {n:Pn} (h:l[i]? =some n):(Fb l)[i]? =some (Am l n.o.past):=by simp [Fb,h]
theorem O8 {l:List Pn} {i:Nat} {n:Pn} (h:l[i]? =some n):(Dd l)[i]? =some (Bn l.length n.ps):=by simp [Dd,h]
theorem Gx (l:List Pn) (ids:List Id):(Am l ids).length=ids.length:=by simp [Am]
theorem Kp {l:List Pn} {ids:List Id} (h:∀id∈ids,∃p,plc l id=some p):∀q∈Am l ids,q<l.length:=by
 intro q hq;obtain ⟨id,hid,rfl⟩:=List.mem_map.1 hq;obtain ⟨p,hp⟩:=h id hid;rw [hp];exact Dp hp
theorem Ig {l:List Pn} {ids:List Id} (h:∀id∈ids,∃p,plc l id=some p) (q:Nat):q∈Am l ids<->∃id∈ids,plc l id=some q:=by
 unfold Am;rw [List.mem_map];constructor
 ·
  rintro ⟨id,hid,rfl⟩;obtain ⟨p,hp⟩:=h id hid;exact ⟨id,hid,by rw [hp];rfl⟩
 ·
  rintro ⟨id,hid,hq⟩;exact ⟨id,hid,by rw [hq];rfl⟩
theorem NOk.placed {cards:List Cd} {l:List Pn} {i:Nat} {n:Pn} (h:NOk cards l i n):∀id∈n.o.past,∃p,Oq.plc l id=some p:=fun id hid=>by
 obtain ⟨p,_,hp⟩:=h.par id hid;exact ⟨p,hp⟩
theorem Wy {cards:List Cd} {l:List Pn} {o:Op} (h:Rows cards l) (T:Ia cards l o):Fb (l++[Au l o])=Fb l++[Am l o.past]:=by
 have key:∀ids:List Id,(∀id∈ids,∃p,plc l id=some p)->Am (l++[Au l o]) ids=Am l ids:=by
  intro ids hids;unfold Am;refine Ap9 (fun id hid=> ?_);obtain ⟨p,hp⟩:=hids id hid;rw [Eg _ hp,hp]
 unfold Fb;rw [List.map_append,List.map_cons,List.map_nil];have h1:Am (l++[Au l o]) (Au l o).o.past=Am l o.past:=key _ T.past;rw [h1];congr 1;refine Ap9 (fun n hn=> ?_);obtain ⟨i,hi⟩:=Aq5 hn;exact key _ (h.ok i n hi).placed
theorem Wz {cards:List Cd} {l:List Pn} {o:Op} (h:Rows cards l) (T:Ia cards l o):Dd (l++[Au l o])=(Dd l).map (· ++[false])++[Bn l.length (Aj l o.past)++[false]]:=by
 have hn:=(O5 h.ok T).lt;unfold Dd;rw [List.map_append,List.map_cons,List.map_nil,List.map_map,List.length_append,List.length_singleton];congr 1
 ·
  refine Ap9 (fun n hm=> ?_);obtain ⟨i,hi⟩:=Aq5 hm;have hil:i<l.length:=(List.getElem?_eq_some_iff.1 hi).1;show Bn (l.length+1) n.ps=Bn l.length n.ps++[false];rw [O7]
  have:n.ps l.length=false:=by
   cases hp:n.ps l.length with
   |false=>rfl
   |true=>have:=(h.ok i n hi).lt _ hp;omega
  rw [this]
 ·
  have:(Au l o).ps l.length=false:=by
   cases hp:(Au l o).ps l.length with
   |false=>rfl
   |true=>have:=hn _ hp;omega
  rw [O7,this];rfl
def Cw (up:List Nat) (i:Nat) (s:Nat->Bool):Nat->Bool:=fun q=>s q||(decide (q=i)&&up.contains i)
def De (us:Nat->List Nat) (up:List Nat) (i:Nat) (s:Nat->Bool):Nat->Bool:=
 fun q=>Cw up i s q||(Cw up i s i&&(us i).contains q)
def C5 (us:Nat->List Nat) (up:List Nat):Nat->(Nat->Bool)->(Nat->Bool)
 |0,s=>s
 |i+1,s=>C5 us up i (De us up i s)
theorem W8 (us:Nat->List Nat) (up:List Nat) (P:Nat->Bool) (h1:∀q∈up,P q=true) (h2:∀j,P j=true->∀q∈us j,P q=true) (h3:∀j,∀q∈us j,q<j):
  ∀(i:Nat) (s:Nat->Bool),(∀q,s q=true->P q=true)->(∀q∈up,i<=q->s q=true)->(∀j,i<=j->s j=true->∀q∈us j,s q=true)->
  (∀q,C5 us up i s q=true->P q=true)/\(∀q∈up,C5 us up i s q=true)/\(∀j,C5 us up i s j=true->∀q∈us j,C5 us up i s q=true):=by
 intro i
 induction i with
 |zero=>intro s a b c;exact ⟨a,fun q hq=>b q hq (Nat.zero_le _),fun j=>c j (Nat.zero_le _)⟩
 |succ i ih=>
  intro s a b c
  have hm:∀q,Cw up i s q=true<->s q=true\/(q=i/\i∈up):=by
   intro q;unfold Cw;rw [Ao1,An3,decide_eq_true_eq,Aq6]
  have hs:∀q,De us up i s q=true<->Cw up i s q=true\/(Cw up i s i=true/\q∈us i):=by
   intro q;unfold De;rw [Ao1,An3,Aq6]
  have hmP:∀q,Cw up i s q=true->P q=true:=by
   intro q hq
   rcases (hm q).1 hq with h|⟨rfl,h⟩
   · exact a q h
   · exact h1 q h
  refine ih (De us up i s) ?_ ?_ ?_
  ·
   intro q hq
   rcases (hs q).1 hq with h|⟨h,h'⟩
   · exact hmP q h
   · exact h2 i (hmP i h) q h'
  ·
   intro q hq hiq;refine (hs q).2 (.inl ((hm q).2 ?_))
   rcases Ao2 i q with h|h
   · exact .inl (b q hq h)
   ·
    have e:q=i:=by omega
    subst e;exact .inr ⟨rfl,hq⟩
  ·
   intro j hij hj q hq
   rcases Ao2 i j with h|h
   ·
    have hsj:s j=true:=by
     rcases (hs j).1 hj with h'|⟨_,h'⟩
     ·
      rcases (hm j).1 h' with h''|⟨e,_⟩
      · exact h''
      · omega
     ·
      have:=h3 i j h';omega
    exact (hs q).2 (.inl ((hm q).2 (.inl (c j h hsj q hq))))
   ·
    have e:j=i:=by omega
    subst e;refine (hs q).2 (.inr ⟨?_,hq⟩)
    rcases (hs j).1 hj with h'|⟨h',_⟩
    · exact h'
    · exact h'
def Df (l:List Pn) (i:Nat):List Nat:=match l[i]? with|some n=>Am l n.o.past|none=>[]
theorem Kq {l:List Pn} {i:Nat} {n:Pn} (h:l[i]? =some n):Df l i=Am l n.o.past:=by
 unfold Df;rw [h]
theorem W9 {cards:List Cd} {l:List Pn} (h:Rows cards l) {ids:List Id} (hids:∀id∈ids,∃p,plc l id=some p) (q:Nat):
  C5 (Df l) (Am l ids) l.length (fun _=>false) q=Aj l ids q:=by
 have hlt:∀(p:Nat) (m:Pn),l[p]? =some m->∀q,m.ps q=true->q<p:=fun p m hm=>(h.ok p m hm).lt;have hps:=Oy (ids:=ids) h.few hlt
 have hus:∀j q,q∈Df l j->∃n,l[j]? =some n/\∃id∈n.o.past,plc l id=some q:=by
  intro j q hq
  cases hj:l[j]? with
  |none=>unfold Df at hq;rw [hj] at hq;cases hq
  |some n=>
   rw [Kq hj,Ig (h.ok j n hj).placed] at hq;exact ⟨n,rfl,hq⟩
 have hps1:∀j n,l[j]? =some n->∀q∈Df l j,n.ps q=true:=by
  intro j n hj q hq;obtain ⟨n',hn',id,hid,hp⟩:=hus j q hq;rw [hj] at hn';injection hn' with e
  subst e;obtain ⟨m,hm,_⟩:=Dy hp;exact ((h.ok j n hj).ps q).2 ⟨id,hid,q,m,hp,hm,.inl rfl⟩
 obtain ⟨a,b,c⟩:=W8 (Df l) (Am l ids) (Aj l ids) (by
   intro q hq;obtain ⟨id,hid,hp⟩:=(Ig hids q).1 hq;obtain ⟨m,hm,_⟩:=Dy hp;exact (hps q).2 ⟨id,hid,q,m,hp,hm,.inl rfl⟩) (by
   intro j hj q hq;obtain ⟨n,hn,_⟩:=hus j q hq;have hnq:=hps1 j n hn q hq;obtain ⟨id,hid,p,m,h1,h2,h3⟩:=(hps j).1 hj;refine (hps q).2 ⟨id,hid,p,m,h1,h2,.inr ?_⟩
   rcases h3 with rfl|h3
   ·
    rw [hn] at h2;injection h2 with e
    subst e;exact hnq
   · exact h.trans p h2 h3 hn hnq) (by
   intro j q hq;obtain ⟨n,hn,id,hid,hp⟩:=hus j q hq;obtain ⟨p,hpj,hp'⟩:=(h.ok j n hn).par id hid;rw [hp] at hp';injection hp' with e
   omega) l.length (fun _=>false) (fun q hq=>by cases hq) (fun q hq hle=>by have:=Kp hids q hq;omega) (fun j _ hj=>by cases hj)
 rw [Ao8];refine ⟨a q,fun hq=> ?_⟩;obtain ⟨id,hid,p,m,h1,h2,h3⟩:=(hps q).1 hq;have hp:=b p ((Ig hids p).2 ⟨id,hid,h1⟩)
 have down:∀(j:Nat) (n:Pn) (r:Nat),l[j]? =some n->C5 (Df l) (Am l ids) l.length (fun _=>false) j=true->n.ps r=true->C5 (Df l) (Am l ids) l.length (fun _=>false) r=true:=by
  intro j
  induction j using Nat.strongRecOn with
  |_ j ih=>
   intro n r hn hj hr;obtain ⟨id',hid',p',m',k1,k2,k3⟩:=((h.ok j n hn).ps r).1 hr;have hp':p'∈Df l j:=by rw [Kq hn,Ig (h.ok j n hn).placed];exact ⟨id',hid',k1⟩
   have hd:=c j hj p' hp'
   rcases k3 with rfl|k3
   · exact hd
   ·
    obtain ⟨p2,hp2,e⟩:=(h.ok j n hn).par id' hid';rw [k1] at e;injection e with e
    exact ih p' (by omega) m' r k2 hd k3
 rcases h3 with rfl|h3
 · exact hp
 · exact down p m q h2 hp h3
theorem Xa {l:List Pn} {p:Nat->Bool} {o:Op} {k:Nat} {m:Pn} (hm:l[k]? =some m) (hb:m.o.by_=o.by_) (hp:p k=true) (hs:o.sq<=m.o.sq):Ba l p o=true:=by
 unfold Ba;rw [Ao1];have hk:k<l.length:=(List.getElem?_eq_some_iff.1 hm).1;exact .inl (decide_eq_true (Ao0 hs (O4 hk hm hb hp)))
theorem Xd {l:List Pn} {p:Nat->Bool} {o:Op} (h1:1<=o.sq) (h:∀k m,l[k]? =some m->m.o.by_=o.by_->p k=true->m.o.sq<o.sq):
  Ba l p o=!((o.sq==1)||Bt l p o.by_ o.sq l.length):=by
 have hl:∀K,Bj l p o.by_ K<o.sq:=by
  intro K
  induction K with
  |zero=>exact h1
  |succ K ih=>
   unfold Bj
   split
   ·
    rename_i n hn
    split
    ·
     rename_i hc;rw [An3,beq_iff_eq] at hc;have:=h K n hn hc.1 hc.2;exact Int.max_lt.2 ⟨ih,this⟩
    · exact ih
   · exact ih
 unfold Ba;rw [decide_eq_false (Int.not_le.2 (hl _)),Bool.false_or]
 rcases Int.lt_or_le 1 o.sq with h2|h2
 ·
  rw [decide_eq_true h2,beq_eq_false_iff_ne.2 (fun e=>by omega)];rfl
 ·
  rw [decide_eq_false (Int.not_lt.2 h2),beq_iff_eq.2 (by omega)];rfl
theorem Xe {l:List Pn} {ids:List Id} (hlen:l.length<=200) {a b:Id} (ha:a∈ids) (hb:b∈ids) {p r:Nat} {m:Pn} (h1:plc l a=some p) (h2:plc l b=some r) (h3:l[p]? =some m) (h4:m.ps r=true):clash l ids=true:=by
 unfold clash;rw [Ap7];have:=Dp h2;refine ⟨r,List.mem_range.2 (by omega),?_⟩;rw [An3];exact ⟨List.any_eq_true.2 ⟨b,hb,by rw [h2];exact beq_self_eq_true _⟩,List.any_eq_true.2 ⟨a,ha,upB_iff.2 ⟨p,m,h1,h3,h4⟩⟩⟩
theorem Xf {l:List Pn} {ids:List Id} (h:∀a∈ids,∀b∈ids,∀p r m,plc l a=some p->plc l b=some r->l[p]? =some m->m.ps r=false):clash l ids=false:=by
 unfold clash;rw [Ap4];intro q _ hq;rw [An3] at hq;obtain ⟨b,hb,h2⟩:=List.any_eq_true.1 hq.1;obtain ⟨a,ha,h3⟩:=List.any_eq_true.1 hq.2;obtain ⟨p,m,h4,h5,h6⟩:=upB_iff.1 h3;rw [h a ha b hb p q m h4 (by simpa using h2) h5] at h6
 cases h6
theorem Xg {l:List Pn} {ids:List Id} {t:Int} {a:Id} (ha:a∈ids) {p:Nat} {m:Pn} (h1:plc l a=some p) (h2:l[p]? =some m) (h3:t<m.o.at_):t<late l ids:=by
 have:=Oz (l:=l) ha;rw [Ie h1 h2] at this;omega
theorem Xi {l:List Pn} {ids:List Id} {t:Int} (h0:0<=t) (hp:∀id∈ids,∃p,plc l id=some p) (h:∀a∈ids,∀p m,plc l a=some p->l[p]? =some m->m.o.at_<=t):¬t<late l ids:=by
 unfold late
 suffices H:∀s:Int,s<=t->ids.foldl (fun t id=>max t (Ca l id)) s<=t from Int.not_lt.2 (H 0 h0)
 induction ids with
 |nil=>intro s hs;exact hs
 |cons x r ih=>
  intro s hs;refine ih (fun id hid=>hp id (Ap6 _ hid)) (fun a ha=>h a (Ap6 _ ha)) _ ?_;obtain ⟨p,hpx⟩:=hp x Ap5;obtain ⟨m,hm,_⟩:=Dy hpx;have:=h x Ap5 p m hpx hm;exact Int.max_le.2 ⟨hs,by rw [Ie hpx hm];exact this⟩
end Oq
namespace Oq
attribute [local go_sem] Bool.not_false Bool.not_true
theorem Xj (base:Nat) (g:Gph) (gv:Nat) (id:Id) (w:World) (hg:GAt w base g) (hv:w.cell? ⟨gv,0,none⟩=some (.pointer (some ⟨g.gb,0,none⟩))) (hid:id.ok):
  Calls zp 130 #[.agg id.V,.pointer (some ⟨gv,0,none⟩)] w (Ae (Af g.nodes id).isSome w):=by
 have f0:Fr Non w (w.alloc (.cells id.V 38)):=(Fr.refl Non w).alloc _;have hb:=Blk.new w 38 id.V;have ac:=hg.fr f0;replace hv:=f0.cell hv zq;generalize hw0:w.alloc (.cells id.V 38)=w0 at*;have i0:cI w0 w.heap.size 0 id.b:=hb.cell 0;have i1:cI w0 w.heap.size 1 id.s:=hb.cell 1;have i2:cU w0 w.heap.size 2 id.u:=hb.cell 2;have c1:w0.cell? ⟨g.gb,1,none⟩=some (.map (some g.mb)):=ac.blk.cell 1;have aa:=ac.map;have ab:=fun (w':World) (h:MapAt w' g.mb g.mm (Af g.nodes))=>MapAt.look h id hid;clear hg ac hb
 cases hp:Af g.nodes id
 ·
  rw [hp] at ab;go_enter func130,ntmps130;go_wp2_with fail;try rw [hw0]
  clear hw0 hp;refine wp_region_held_drew (S:=(fun w'=>cI w' w.heap.size 0 id.b/\cI w' w.heap.size 1 id.s/\cU w' w.heap.size 2 id.u/\w'.cell? ⟨g.gb,1,none⟩=some (.map (some g.mb))/\w'.cell? ⟨gv,0,none⟩=some (.pointer (some ⟨g.gb,0,none⟩))/\MapAt w' g.mb g.mm (Af g.nodes))) (by kernel_rfl) ⟨i0,i1,i2,c1,hv,aa⟩ (fun hS=> ?_);replace f0:=f0.drew;refine tkH 0 hS (h:=tkH 1 hS (h:=tkH 2 hS (h:=tkH 3 hS (h:=tkH 4 hS (h:=tkH 5 hS (h:=tkH 6 hS (h:=tkH 7 hS (h:=tkH 8 hS (h:=tkH 9 hS (h:=tkH 10 hS (h:=?_)))))))))));simp only [zl];refine oD ?_;go_simp;go_wp2_with fail
  go_ret
  exact ⟨rfl,f0⟩
 ·
  rw [hp] at ab;go_enter func130,ntmps130;go_wp2_with fail;try rw [hw0]
  clear hw0 hp;refine wp_region_held_drew (S:=(fun w'=>cI w' w.heap.size 0 id.b/\cI w' w.heap.size 1 id.s/\cU w' w.heap.size 2 id.u/\w'.cell? ⟨g.gb,1,none⟩=some (.map (some g.mb))/\w'.cell? ⟨gv,0,none⟩=some (.pointer (some ⟨g.gb,0,none⟩))/\MapAt w' g.mb g.mm (Af g.nodes))) (by kernel_rfl) ⟨i0,i1,i2,c1,hv,aa⟩ (fun hS=> ?_);replace f0:=f0.drew;refine tkH 0 hS (h:=tkH 1 hS (h:=tkH 2 hS (h:=tkH 3 hS (h:=tkH 4 hS (h:=tkH 5 hS (h:=tkH 6 hS (h:=tkH 7 hS (h:=tkH 8 hS (h:=tkH 9 hS (h:=tkH 10 hS (h:=?_)))))))))));simp only [zl];refine oD ?_;go_simp;go_wp2_with fail
  go_ret
  exact ⟨rfl,f0⟩
end Oq
namespace Oq
theorem Xk {α:Type} (l:List α) (q:α->Bool) {k:Nat} {x:α} (h:l[k]? =some x):(l.take (k+1)).any q=((l.take k).any q||q x):=by
 obtain ⟨hk,rfl⟩:=List.getElem?_eq_some_iff.1 h;rw [Ap0 hk,Ap2];simp
def Xl (l:List Id) (p:Id->Bool) (w:World) (e:Ending) (w':World):Prop:=
 ((∃(k:Nat) (id:Id),e=.returned (.int .i64 (k:Int))/\l[k]? =some id/\p id=true/\(l.take k).any p=false)\/(e=.returned (.int .i64 (-1))/\l.any p=false))/\Fr Non w w'
theorem Xm (B n c gv:Nat) (A:Option Addr) (l:List Id) (p:Id->Bool) (w:World) (hn:Hid (l.length=n)) (hr:Rd w B 3 A n (l.flatMap Id.cells)) (hnm:n<=1000000)
  (hmay:Hid (∀x∈l,∀w':World,Fr Non w w'->Calls zp 130 #[.agg x.V,.pointer (some ⟨gv,0,none⟩)] w' (Ae (p x) w'))):
  Calls zp 187 #[.slice A n c,.func (.func 130) #[] #[.pointer (some ⟨gv,0,none⟩)]] w (Xl l p w):=by
 go_enter func187,ntmps187;go_wp2
 go_loopw [8] (fun v wr=>∃k:Nat,v=.int .i64 (k:Int)/\k<=n/\Hid ((l.take k).any p=false)/\Fr Non w wr) (fun v _=>n-(intOf v).toNat)
 case atStart=>exact ⟨0,rfl,by omega,rfl,Fr.refl _ _⟩
 case round=>
  obtain ⟨k,rfl,hk,hh,hf⟩:=hrel
  by_cases hlt:k<n
  ·
   obtain ⟨i1,i2,i3⟩:=ix k n
   obtain ⟨x,hx⟩:∃x,l[k]? =some x:=⟨_,Aq1 (by rw [hn.out];exact hlt)⟩;obtain ⟨b,off,rfl,hbB,k0,k1,k2⟩:=Id.at (hr.fr hf zr) hx;have hmem:=Ap3 hx;have hsn:=lh (Xk l p hx);have hc:=lh (fun w' (h:Fr Non wr w')=>hmay.out x hmem w' (hf.trans h zr));have hx':=lh hx;clear hx hmem
   rcases zb (p x) with hp|hp
   ·
    have hp':=lh hp;rw [hp] at hc hsn;clear hp;go_wp2_with (go_at_call 130;(with_reducible refine (hc.out _ (by first|exact Fr.refl _ _|exact (Fr.refl Non wr).alloc _)).mono ?_);rintro _ w1 ⟨rfl,f1⟩)
    go_ret
    exact ⟨.inl ⟨k,x,rfl,hx'.out,hp'.out,hh.out⟩,by first|exact hf.trans f1 zr|exact (hf.alloc _).trans f1 zr⟩
   ·
    rw [hp] at hc hsn;clear hp;go_wp2_with (go_at_call 130;(with_reducible refine (hc.out _ (by first|exact Fr.refl _ _|exact (Fr.refl Non wr).alloc _)).mono ?_);rintro _ w1 ⟨rfl,f1⟩);go_roundw
    case rel=>exact ⟨k+1,by go_num,by omega,by show _=_;rw [hsn.out,hh.out];rfl,by first|exact hf.trans f1 zr|exact (hf.alloc _).trans f1 zr⟩
    case measure=>simp [intOf];omega
  ·
   obtain rfl:k=n:=by omega
   have hfin:l.any p=false:=by have h:=hh.out;rw [Aq0 (by rw [hn.out];omega)] at h;exact h
   go_wp2
   go_ret
   exact ⟨.inr ⟨rfl,hfin⟩,hf⟩
end Oq
end Go.Proofs.YtihfebhfgliojaaGreatDoor
