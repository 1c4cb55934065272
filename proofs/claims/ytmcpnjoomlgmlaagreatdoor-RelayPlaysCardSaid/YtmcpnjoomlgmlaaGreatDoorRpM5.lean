/- Contracts of functions, walked (part 5).
Conditions: as each theorem says. -/
import Derived.Deep.DeepCutAuto
import Derived.Deep.RegionLaw
import Derived.Deep.CutBlock
import Derived.ChangeVars
import Derived.RowKit
import Derived.RangeFuncSeq
import Derived.RangeFuncBound
import Derived.RangeFuncLeaves
import Derived.RangeFuncRecord
import Derived.Shelf.Abstract
import Derived.Test.YtmcpnjoomlgmlaaGreatDoorRpM4
set_option maxRecDepth 100000
set_option maxHeartbeats 16000000
open Bool renaming or_eq_false_iff->A64
open List renaming length_append->A63
open Nat renaming le_trans->A59
open Go.World renaming putObj_heap_other->A60,cell?->A61,size_alloc->A62,alloc_heap_new->A65,putObj_heap_same->A66
open Go.Proofs.Tryz
open Go.Proofs.Tryz renaming prog->zp
open Go.Lib renaming hid->lh
open List renaming set->zl
open Go.Ending renaming returned->ze
namespace Go.Proofs.YtmcpnjoomlgmlaaGreatDoor
open Go.RowKit
attribute [local go_sem ↓] Go.wp_at_zero Go.wp_at_succ
namespace Oq
attribute [local go_sem] Mo
attribute [local go_sem ↓] Bq Dx Yj Yk Yl Ym Yn Yo Yp Yq
def GG (g go:Nat):Nat->Prop:=fun k=>k=g\/k=go
theorem OpBlk.of {w:World} {g:Nat} {cs:Array Value} (h:Blk w g 52 cs) (hs:cs.size=27:=by simp):OpBlk w g:=⟨cs,h,hs⟩
theorem InAt.set {w:World} {B g:Nat} {bs:List UInt8} {a:Nat} {e:Int} (h:InAt w B g bs a e) {go:Nat} (hg:g<go) (i:Nat) (u:Value):InAt (w.setCell ⟨go,i,none⟩ u) B g bs a e:=by
 have hB:B<=g:=by obtain ⟨_,_,_,_,h,_⟩:=h;exact h
 exact h.fr ((Fr.refl (One go) w).setOne i u) (fun k hk e=>by have e':k=go:=e;omega) (fun e=>by have e':g=go:=e;omega)
theorem GG.set {a w:World} {g go:Nat} (h:Fr (GG g go) a w) (i:Nat) (u:Value):Fr (GG g go) a (w.setCell ⟨go,i,none⟩ u):=h.setCell (p:=⟨go,i,none⟩) (fun _=> .inr rfl) u
theorem GG.one {a w w':World} {g go:Nat} (h:Fr (GG g go) a w) (k:Fr (One g) w w'):Fr (GG g go) a w':=h.trans k (fun _ _ e=> .inl e)
theorem GG.put {a w:World} {g go B k:Nat} {cs:Array Value} {bs:List UInt8} {e:Int} (st:Fr (GG g go) a w) (ho:Blk w go 52 cs) (hin:InAt w B g bs k e) (lg:g<go) (i:Nat) (u:Value):Fr (GG g go) w (w.setCell ⟨go,i,none⟩ u)/\Fr (GG g go) a (w.setCell ⟨go,i,none⟩ u)/\Blk (w.setCell ⟨go,i,none⟩ u) go 52 (cs.setIfInBounds i u)/\InAt (w.setCell ⟨go,i,none⟩ u) B g bs k e:=⟨GG.set (Fr.refl _ _) i u,GG.set st i u,ho.set i u,InAt.set hin lg i u⟩
theorem GG.all {a w:World} {g go B k:Nat} {cs:Array Value} {bs:List UInt8} {e:Int} (st:Fr (GG g go) a w) (ho:Blk w go 52 cs) (hin:InAt w B g bs k e) (t:TypeId) (ps:Array Value):Fr (GG g go) w (w.alloc (.cells ps t))/\Blk (w.alloc (.cells ps t)) w.heap.size t ps/\Fr (GG g go) a (w.alloc (.cells ps t))/\Blk (w.alloc (.cells ps t)) go 52 cs/\InAt (w.alloc (.cells ps t)) B g bs k e/\go<w.heap.size/\Fr (GG g go) (w.alloc (.cells ps t)) (w.alloc (.cells ps t)):=⟨(Fr.refl _ _).alloc _,Blk.new w t ps,st.alloc _,ho.alloc _,hin.alloc _,ho.lt,Fr.refl _ _⟩
theorem GG.alloc {a w:World} {g go:Nat} (h:Fr (GG g go) a w) (o:Obj):Fr (GG g go) a (w.alloc o):=Fr.alloc h o
theorem Ai {w:World} {r j g i:Nat} {u v:Value} (h:w.cell? ⟨g,i,none⟩=some v) (hne:r≠g):(w.setCell ⟨r,j,none⟩ u).cell? ⟨g,i,none⟩=some v:=by
 rw [World.cell?_setCell_far _ _ _ _ (by exact hne)];exact h
theorem Dy {w w':World} {base size n c g go:Nat} {t:TypeId} {A:Option Addr} {xs:List Value} {cs:Array Value} {bs:List UInt8} {B a:Nat} {e:Int} (h:RowAt w base t size A n c xs) (hf:Fr (GG g go) w w') (ho:Blk w go 52 cs) (hin:InAt w B g bs a e) (h1:t≠52) (h2:t≠169):RowAt w' base t size A n c xs:=by
 refine h.fr hf (fun h0 k hk e=> ?_);obtain ⟨_,_,hb,_⟩:=hin
 rcases e with e|e
 · exact h.ne hb h2 h0 k hk e
 · exact h.ne ho h1 h0 k hk e
theorem Aa3 (B n c:Nat) (A:Option Addr) (bs:List UInt8) (w:World) (hn:Hid (bs.length=n)) (hr:Rd w B 1 A n (bs.map Bv)) (hl:n<=1099511627776):
  Calls zp 25 #[.slice A n c] w (Hv bs w):=by
 obtain ⟨v1,a1,e1,h1⟩:=Aw (Pk.rdInt bs 0 0);obtain ⟨v2,a2,e2,h2⟩:=Aw (Pk.rdInt bs a1 e1);obtain ⟨v3,a3,e3,h3⟩:=Aw (Pk.rdInt bs a2 e2);obtain ⟨v4,a4,e4,h4⟩:=Aw (Pk.rdInt bs a3 e3);obtain ⟨l5,a5,e5,h5⟩:=Aw (Bk Dn bs a4 e4);obtain ⟨v6,a6,e6,h6⟩:=Aw (Pk.rdInt bs a5 e5);obtain ⟨v7,a7,e7,h7⟩:=Aw (Pk.rdInt bs a6 e6);obtain ⟨v8,a8,e8,h8⟩:=Aw (Pk.rdInt bs a7 e7);obtain ⟨v9,a9,e9,h9⟩:=Aw (Pk.rdInt bs a8 e8);obtain ⟨ox,ja,gv,li⟩:=Aw (Bk Fi bs a9 e9);obtain ⟨ad,jz,jo,kc⟩:=Aw (Dn bs ja gv);obtain ⟨bn,kv,ka,lo⟩:=Aw (Pk.rdInt bs jz jo);obtain ⟨bp,j4,ju,lc⟩:=Aw (Pk.rdText bs kv ka);obtain ⟨ay,j3,j5,k1⟩:=Aw (Bk Pk.rd bs j4 ju);obtain ⟨ac,jv,jt,kz⟩:=Aw (Dn bs j3 j5);obtain ⟨a0,i9,iv,kl⟩:=Aw (Bk Pk.rdInt bs jv jt);obtain ⟨bk,kj,k4,lq⟩:=Aw (Pk.rdInt bs i9 iv);obtain ⟨bm,lz,lu,lf⟩:=Aw (Pk.rdInt bs kj k4);obtain ⟨bf,lx,ki,lp⟩:=Aw (Bk Ef bs lz lu);obtain ⟨bl,jx,jp,k7⟩:=Aw (Pk.rd bs lx ki);obtain ⟨o3,j1,j0,l2⟩:=Aw (Bk E5 bs jx jp);obtain ⟨c9,ld,lb,k8⟩:=Aw (Pk.rd bs j1 j0);obtain ⟨c2,kh,ku,la⟩:=Aw (Pk.rd bs ld lb);have fu:bs.length<=1099511627776:=by rw [hn.out];exact hl
 go_enter func25,ntmps25;go_wp2_with fail;refine (Yh B n c A bs _ hn (hr.alloc _) hl).mono ?_;rintro _ w1 ⟨g,A1,c1,rfl,j8,eo,ll,mp,mx,n5⟩;have hq:=Yi j8 eo mx n5;have nx:=j8.lt;have oz:w.heap.size<g:=by rw [A62] at mp;omega
 have eh:=(Blk.new w 52 zO).fr ll zq;have m1:Fr Non w w1:=((Fr.refl Non w).alloc (.cells zO 52)).trans ll zr;clear j8 eo ll mp mx;go_upto_region 5 with (fail)
 have ah:=(((Blk.new w1 98 #[.pointer (some ⟨g,0,none⟩)]).alloc (.cells #[.func (.func 56) #[] #[.pointer (some ⟨w1.heap.size,0,none⟩)]] 101)).alloc (.cells #[.func (.func 58) #[] #[.pointer (some ⟨w1.heap.size,0,none⟩)]] 105)).alloc (.cells zO 52);have av:=((Blk.new (w1.alloc (.cells #[.pointer (some ⟨g,0,none⟩)] 98)) 101 #[.func (.func 56) #[] #[.pointer (some ⟨w1.heap.size,0,none⟩)]]).alloc (.cells #[.func (.func 58) #[] #[.pointer (some ⟨w1.heap.size,0,none⟩)]] 105)).alloc (.cells zO 52);have ba:=(Blk.new ((w1.alloc (.cells #[.pointer (some ⟨g,0,none⟩)] 98)).alloc (.cells #[.func (.func 56) #[] #[.pointer (some ⟨w1.heap.size,0,none⟩)]] 101)) 105 #[.func (.func 58) #[] #[.pointer (some ⟨w1.heap.size,0,none⟩)]]).alloc (.cells zO 52);have k2:=Blk.new (((w1.alloc (.cells #[.pointer (some ⟨g,0,none⟩)] 98)).alloc (.cells #[.func (.func 56) #[] #[.pointer (some ⟨w1.heap.size,0,none⟩)]] 101)).alloc (.cells #[.func (.func 58) #[] #[.pointer (some ⟨w1.heap.size,0,none⟩)]] 105)) 52 zO;have i0:=(((hq.alloc (.cells #[.pointer (some ⟨g,0,none⟩)] 98)).alloc (.cells #[.func (.func 56) #[] #[.pointer (some ⟨w1.heap.size,0,none⟩)]] 101)).alloc (.cells #[.func (.func 58) #[] #[.pointer (some ⟨w1.heap.size,0,none⟩)]] 105)).alloc (.cells zO 52);have e0:=(((eh.alloc (.cells #[.pointer (some ⟨g,0,none⟩)] 98)).alloc (.cells #[.func (.func 56) #[] #[.pointer (some ⟨w1.heap.size,0,none⟩)]] 101)).alloc (.cells #[.func (.func 58) #[] #[.pointer (some ⟨w1.heap.size,0,none⟩)]] 105)).alloc (.cells zO 52);have c7:=(((m1.alloc (.cells #[.pointer (some ⟨g,0,none⟩)] 98)).alloc (.cells #[.func (.func 56) #[] #[.pointer (some ⟨w1.heap.size,0,none⟩)]] 101)).alloc (.cells #[.func (.func 58) #[] #[.pointer (some ⟨w1.heap.size,0,none⟩)]] 105)).alloc (.cells zO 52);simp only [A62] at av ba k2;generalize (((w1.alloc (.cells #[.pointer (some ⟨g,0,none⟩)] 98)).alloc (.cells #[.func (.func 56) #[] #[.pointer (some ⟨w1.heap.size,0,none⟩)]] 101)).alloc (.cells #[.func (.func 58) #[] #[.pointer (some ⟨w1.heap.size,0,none⟩)]] 105)).alloc (.cells zO 52)=w5 at*;clear hq eh m1;generalize w1.heap.size=gp at*;generalize hgb:gp+1=gb at*;generalize hgc:gb+1=gc at*;generalize hgo:gc+1=go at*;have pb:g<gp:=nx;have aj:g<go:=by omega
 have m4:go≠g:=by omega
 have ap:¬One g go:=m4;have ai:¬GG g go gp:=by rintro (e|e)<;>omega
 have be:¬GG g go gb:=by rintro (e|e)<;>omega
 have bc:¬GG g go gc:=by rintro (e|e)<;>omega
 have nn:¬GG g go w.heap.size:=by rintro (e|e)<;>omega
 have ae:go≠gp:=by omega
 have ag:go≠gb:=by omega
 have af:go≠gc:=by omega
 have mg:=Fr.refl (GG g go) w5;clear hgb hgc hgo;obtain ⟨F5,gq,kq,nj,iq,ou,od⟩:=GG.all mg k2 i0 106 #[.pointer (some ⟨go,0,none⟩),.pointer (some ⟨go,1,none⟩),.pointer (some ⟨go,2,none⟩),.pointer (some ⟨go,3,none⟩)];have j2:¬GG g go (w5.heap.size):=by rintro (e|e)<;>omega
 go_wp2;refine wp_loop_rounds 5 ?_;rw [rounds_succ];have cp:=(ah.fr kq ai).cell 0;have cq:=gq.cell 0;go_wp2_with fail;refine (Dl g g bs 0 0 v1 a1 e1 _ iq h1).mono ?_;rintro _ x1 ⟨rfl,ab,aa⟩;clear cp cq;have dc:=GG.set (GG.one od aa) 0 (.int .i64 v1);have F6:Fr (GG g go) _ _:=aa.mono (fun _ _ e=> .inl e);have ms:=GG.one kq aa;have kd:=nj.fr aa ap;have hv:=ab;clear iq ab aa;have ob:=OpBlk.of kd;have hs:=Fk go 0 (by omega) v1;go_wp2;clear ob hs;obtain ⟨F7,kx,n3,g2⟩:=GG.put ms kd hv aj 0 (.int .i64 v1);clear kd hv;rw [rounds_succ];have cp:=(ah.fr kx ai).cell 0;have cq:=(gq.fr dc j2).cell 1;go_wp2_with fail;refine (Dl g g bs a1 e1 v2 a2 e2 _ g2 h2).mono ?_;rintro _ x2 ⟨rfl,ab,aa⟩;clear cp cq;have c6:=GG.set (GG.one dc aa) 1 (.int .i64 v2);have F8:Fr (GG g go) _ _:=aa.mono (fun _ _ e=> .inl e);have n1:=GG.one kx aa;have l0:=n3.fr aa ap;have ih:=ab;clear g2 ab aa;have ob:=OpBlk.of l0;have hs:=Fk go 1 (by omega) v2;go_wp2;clear ob hs;obtain ⟨F9,ft,ii,d7⟩:=GG.put n1 l0 ih aj 1 (.int .i64 v2);clear l0 ih;rw [rounds_succ];have cp:=(ah.fr ft ai).cell 0;have cq:=(gq.fr c6 j2).cell 2;go_wp2_with fail;refine (Dl g g bs a2 e2 v3 a3 e3 _ d7 h3).mono ?_;rintro _ x3 ⟨rfl,ab,aa⟩;clear cp cq;have dd:=GG.set (GG.one c6 aa) 2 (.int .i64 v3);have o1:Fr (GG g go) _ _:=aa.mono (fun _ _ e=> .inl e);have il:=GG.one ft aa;have f4:=ii.fr aa ap;have ea:=ab;clear d7 ab aa;have ob:=OpBlk.of f4;have hs:=Fk go 2 (by omega) v3;go_wp2;clear ob hs;obtain ⟨om,fz,gy,ek⟩:=GG.put il f4 ea aj 2 (.int .i64 v3);clear f4 ea;rw [rounds_succ];have cp:=(ah.fr fz ai).cell 0;have cq:=(gq.fr dd j2).cell 3;go_wp2_with fail;refine (Dl g g bs a3 e3 v4 a4 e4 _ ek h4).mono ?_;rintro _ x4 ⟨rfl,ab,aa⟩;clear cp cq;have jj:=GG.set (GG.one dd aa) 3 (.int .i64 v4);have o5:Fr (GG g go) _ _:=aa.mono (fun _ _ e=> .inl e);have i1:=GG.one fz aa;have f5:=gy.fr aa ap;have eu:=ab;clear ek ab aa;have ob:=OpBlk.of f5;have hs:=Fk go 3 (by omega) v4;go_wp2;clear ob hs;obtain ⟨ol,dm,dv,fi⟩:=GG.put i1 f5 eu aj 3 (.int .i64 v4);clear f5 eu;replace dv:Blk _ go 52 #[.int .i64 v1,.int .i64 v2,.int .i64 v3,.int .i64 v4,.slice none 0 0,.int .i64 0,.int .i64 0,.int .i64 0,.int .i64 0,.slice none 0 0,.int .i64 0,.int .i64 0,.int .u64 0,.int .i64 0,.slice none 0 0,.slice none 0 0,.int .i64 0,.int .i64 0,.int .u64 0,.slice none 0 0,.int .i64 0,.int .i64 0,.slice none 0 0,.int .u64 0,.slice none 0 0,.int .u64 0,.int .u64 0]:=dv;rw [rounds_succ];have cp:=(ah.fr dm ai).cell 0;go_wp2_with fail;refine (Xk g g bs a4 e4 l5 a5 e5 _ fi h5).mono ?_;rintro _ x5 ⟨B5,d5,rfl,ao,ab,aa⟩;have gs:=(RowAt.of_own ao).lower (base':=w.heap.size) (A59 c7.size dm.size);clear cp ao;have oq:Fr (GG g go) _ _:=aa.mono (fun _ _ e=> .inl e);have f6:=GG.one dm aa;have ck:=dv.fr aa ap;have cn:=ab;clear fi ab aa;have ey:=lh (fun (w':World) (hf:Fr (GG g go) _ w')=>Dy gs hf ck cn (by decide) (by decide));clear gs;have r4:A61 _ _=some (.slice none 0 0):=ck.cell 4;have q4:=ck.frozen 4;have cp:=(ah.fr (GG.set f6 4 (.slice B5 l5.length d5)) ai).cell 0;go_wp2;clear r4 q4 cp;obtain ⟨nc,i3,hh,eg⟩:=GG.put f6 ck cn aj 4 (.slice B5 l5.length d5);clear ck cn;obtain ⟨m8,b9,f0,hm,ed,g9,gw⟩:=GG.all i3 hh eg 106 #[.pointer (some ⟨go,5,none⟩),.pointer (some ⟨go,6,none⟩),.pointer (some ⟨go,7,none⟩),.pointer (some ⟨go,8,none⟩)];rw [show (x5.setCell ⟨go,4,none⟩ (.slice B5 l5.length d5)).heap.size=x5.heap.size by simp [World.setCell]] at b9 g9;have dr:¬GG g go (x5.heap.size):=by rintro (e|e)<;>omega
 go_wp2;refine wp_loop_rounds 5 ?_;rw [rounds_succ];have cp:=(ah.fr f0 ai).cell 0;have cq:=b9.cell 0;go_wp2_with fail;refine (Dl g g bs a5 e5 v6 a6 e6 _ ed h6).mono ?_;rintro _ x6 ⟨rfl,ab,aa⟩;clear cp cq;have bv:=GG.set (GG.one gw aa) 5 (.int .i64 v6);have nh:Fr (GG g go) _ _:=aa.mono (fun _ _ e=> .inl e);have g7:=GG.one f0 aa;have f2:=hm.fr aa ap;have el:=ab;clear ed ab aa;have ob:=OpBlk.of f2;have hs:=Fk go 5 (by omega) v6;go_wp2;clear ob hs;obtain ⟨mn,fw,gr,d4⟩:=GG.put g7 f2 el aj 5 (.int .i64 v6);clear f2 el;rw [rounds_succ];have cp:=(ah.fr fw ai).cell 0;have cq:=(b9.fr bv dr).cell 1;go_wp2_with fail;refine (Dl g g bs a6 e6 v7 a7 e7 _ d4 h7).mono ?_;rintro _ x7 ⟨rfl,ab,aa⟩;clear cp cq;have bu:=GG.set (GG.one bv aa) 6 (.int .i64 v7);have oi:Fr (GG g go) _ _:=aa.mono (fun _ _ e=> .inl e);have g3:=GG.one fw aa;have gd:=gr.fr aa ap;have ev:=ab;clear d4 ab aa;have ob:=OpBlk.of gd;have hs:=Fk go 6 (by omega) v7;go_wp2;clear ob hs;obtain ⟨mf,fo,ie,es⟩:=GG.put g3 gd ev aj 6 (.int .i64 v7);clear gd ev;rw [rounds_succ];have cp:=(ah.fr fo ai).cell 0;have cq:=(b9.fr bu dr).cell 2;go_wp2_with fail;refine (Dl g g bs a7 e7 v8 a8 e8 _ es h8).mono ?_;rintro _ x8 ⟨rfl,ab,aa⟩;clear cp cq;have bq:=GG.set (GG.one bu aa) 7 (.int .i64 v8);have mc:Fr (GG g go) _ _:=aa.mono (fun _ _ e=> .inl e);have hx:=GG.one fo aa;have fl:=ie.fr aa ap;have fj:=ab;clear es ab aa;have ob:=OpBlk.of fl;have hs:=Fk go 7 (by omega) v8;go_wp2;clear ob hs;obtain ⟨mj,f8,g0,ej⟩:=GG.put hx fl fj aj 7 (.int .i64 v8);clear fl fj;rw [rounds_succ];have cp:=(ah.fr f8 ai).cell 0;have cq:=(b9.fr bq dr).cell 3;go_wp2_with fail;refine (Dl g g bs a8 e8 v9 a9 e9 _ ej h9).mono ?_;rintro _ x9 ⟨rfl,ab,aa⟩;clear cp cq;have fs:=GG.set (GG.one bq aa) 8 (.int .i64 v9);have n9:Fr (GG g go) _ _:=aa.mono (fun _ _ e=> .inl e);have hk:=GG.one f8 aa;have fn:=g0.fr aa ap;have d6:=ab;clear ej ab aa;have ob:=OpBlk.of fn;have hs:=Fk go 8 (by omega) v9;go_wp2;clear ob hs;obtain ⟨mz,bj,dw,ew⟩:=GG.put hk fn d6 aj 8 (.int .i64 v9);clear fn d6;replace dw:Blk _ go 52 #[.int .i64 v1,.int .i64 v2,.int .i64 v3,.int .i64 v4,.slice B5 l5.length d5,.int .i64 v6,.int .i64 v7,.int .i64 v8,.int .i64 v9,.slice none 0 0,.int .i64 0,.int .i64 0,.int .u64 0,.int .i64 0,.slice none 0 0,.slice none 0 0,.int .i64 0,.int .i64 0,.int .u64 0,.slice none 0 0,.int .i64 0,.int .i64 0,.slice none 0 0,.int .u64 0,.slice none 0 0,.int .u64 0,.int .u64 0]:=dw;rw [rounds_succ];have cp:=(ah.fr bj ai).cell 0;have cc:=(ba.fr bj bc).cell 0;go_wp2_with fail;refine (Xw g g gp gc bs a9 e9 ox ja gv _ ew li (ah.fr bj ai) (ba.fr bj bc)).mono ?_;rintro _ pg ⟨b6,b5,al,d2,rfl,ao,fa,ab,aa⟩;have ch:=lh d2;clear d2;have c3:=lh fa;clear fa;have fg:=(RowAt.of_own ao).lower (base':=w.heap.size) (A59 c7.size bj.size);clear cp ao cc;have n8:Fr (GG g go) _ _:=aa.mono (fun _ _ e=> .inl e);have gl:=GG.one bj aa;have cb:=dw.fr aa ap;have bx:=ab;clear ew ab aa;have c8:=lh (fun (w':World) (hf:Fr (GG g go) _ w')=>Dy fg hf cb bx (by decide) (by decide));clear fg;have bw:=lh (fun (w':World) (hf:Fr (GG g go) _ w') y hy=>Dy ((c3.out y hy).lower (base':=w.heap.size) (A59 c7.size bj.size)) hf cb bx (by decide) (by decide));clear c3;have r9:A61 _ _=some (.slice none 0 0):=cb.cell 9;have q9:=cb.frozen 9;go_upto_region 17 with (fail)
 clear r9 q9;obtain ⟨ni,g4,i7,en⟩:=GG.put gl cb bx aj 9 (.slice b6 al.length b5);clear cb bx;generalize (pg.setCell ⟨go,9,none⟩ (.slice b6 al.length b5))=y17 at*;have ar:InAt y17.drew g g bs ja gv:=en.drewN 1;have aq:Fr (GG g go) w5 y17.drew:=g4.drew;have b2:=i7.drew;have dh:=OpBlk.of b2;have d8:Fr (GG g go) y17 y17.drew:=(Fr.refl _ _).drew;have pd:y17.drew.cell? ⟨gp,0,none⟩=some (.pointer (some ⟨g,0,none⟩)):=(ah.fr aq ai).cell 0;have bd:y17.drew.cell? ⟨gb,0,none⟩=some (.func (.func 56) #[] #[.pointer (some ⟨gp,0,none⟩)]):=(av.fr aq be).cell 0;have cd:y17.drew.cell? ⟨gc,0,none⟩=some (.func (.func 58) #[] #[.pointer (some ⟨gp,0,none⟩)]):=(ba.fr aq bc).cell 0;have hd:Hid (Pk.rdIdent bs ja gv=((ad.b,ad.s,ad.u),jz,jo)):=Jx kc.out;have mb:=Yw go ad.b ad.s (ad.u:Int);have km:=Fk go 13 (by omega) bn;have ks:=fun A c=>Ys go 14 (by omega) A bp.length c
 go_region_held3 (fun w'=>w'.cell? ⟨gp,0,none⟩=some (.pointer (some ⟨g,0,none⟩))/\w'.cell? ⟨gb,0,none⟩=some (.func (.func 56) #[] #[.pointer (some ⟨gp,0,none⟩)])/\w'.cell? ⟨gc,0,none⟩=some (.func (.func 58) #[] #[.pointer (some ⟨gp,0,none⟩)])/\OpBlk w' go) ((first|with_reducible exact ⟨pd,bd,cd,dh⟩|with_reducible exact ⟨oj,nu,nm,im⟩|with_reducible exact ⟨m5,nk,ns,hb⟩|with_reducible exact ⟨i5,jm,hc,ce⟩|with_reducible exact ⟨(Ai (Ai (Ai i5 ae) ae) ae),(Ai (Ai (Ai jm ag) ag) ag),(Ai (Ai (Ai hc af) af) af),(OpBlk.set (OpBlk.set (OpBlk.set ce _ _) _ _) _ _)⟩|with_reducible exact ⟨(Ai (Ai (Ai (Ai i5 ae) ae) ae) ae),(Ai (Ai (Ai (Ai jm ag) ag) ag) ag),(Ai (Ai (Ai (Ai hc af) af) af) af),(OpBlk.set (OpBlk.set (OpBlk.set (OpBlk.set ce _ _) _ _) _ _) _ _)⟩|with_reducible exact ⟨(Ai (Ai (Ai (Ai (Ai i5 ae) ae) ae) ae) ae),(Ai (Ai (Ai (Ai (Ai jm ag) ag) ag) ag) ag),(Ai (Ai (Ai (Ai (Ai hc af) af) af) af) af),(OpBlk.set (OpBlk.set (OpBlk.set (OpBlk.set (OpBlk.set ce _ _) _ _) _ _) _ _) _ _)⟩)) (first
  |(go_at_call 62;(with_reducible refine (Jr g g bs ja gv ad.b ad.s ad.u jz jo _ ar hd).mono ?_);rintro _ lw ⟨rfl,cf,aa⟩;have ip:=aa.mono (S':=GG g go) (fun _ _ e=> .inl e);have df:=GG.one aq aa;have oj:lw.cell? ⟨gp,0,none⟩=some (.pointer (some ⟨g,0,none⟩)):=(ah.fr df ai).cell 0;have nu:lw.cell? ⟨gb,0,none⟩=some (.func (.func 56) #[] #[.pointer (some ⟨gp,0,none⟩)]):=(av.fr df be).cell 0;have nm:lw.cell? ⟨gc,0,none⟩=some (.func (.func 58) #[] #[.pointer (some ⟨gp,0,none⟩)]):=(ba.fr df bc).cell 0;have gh:=b2.fr aa ap;have im:=OpBlk.of gh;clear aa)
  |(go_at_call 60;(with_reducible refine (Dl g g bs jz jo bn kv ka _ cf lo).mono ?_);rintro _ lg ⟨rfl,cj,aa⟩;have jl:=aa.mono (S':=GG g go) (fun _ _ e=> .inl e);have bt:=GG.one df aa;have m5:lg.cell? ⟨gp,0,none⟩=some (.pointer (some ⟨g,0,none⟩)):=(ah.fr bt ai).cell 0;have nk:lg.cell? ⟨gb,0,none⟩=some (.func (.func 56) #[] #[.pointer (some ⟨gp,0,none⟩)]):=(av.fr bt be).cell 0;have ns:lg.cell? ⟨gc,0,none⟩=some (.func (.func 58) #[] #[.pointer (some ⟨gp,0,none⟩)]):=(ba.fr bt bc).cell 0;have fx:=gh.fr aa ap;have hb:=OpBlk.of fx;clear aa)
  |(go_at_call 56;(with_reducible refine (Qa g g gp bs kv ka bp j4 ju _ cj (ah.fr bt ai) fu lc).mono ?_);rintro _ js ⟨b4,ca,rfl,ff,bo,aa⟩;have iu:=aa.mono (S':=GG g go) (fun _ _ e=> .inl e);have cm:=GG.one bt aa;have i5:js.cell? ⟨gp,0,none⟩=some (.pointer (some ⟨g,0,none⟩)):=(ah.fr cm ai).cell 0;have jm:js.cell? ⟨gb,0,none⟩=some (.func (.func 56) #[] #[.pointer (some ⟨gp,0,none⟩)]):=(av.fr cm be).cell 0;have hc:js.cell? ⟨gc,0,none⟩=some (.func (.func 58) #[] #[.pointer (some ⟨gp,0,none⟩)]):=(ba.fr cm bc).cell 0;have ds:=fx.fr aa ap;have ce:=OpBlk.of ds;clear aa))
 have ho:=ff.lower (base':=w.heap.size) (A59 c7.size bt.size);have dg:=lh (fun (w':World) (hf:Fr (GG g go) _ w')=>Dy ho hf ds bo (by decide) (by decide));clear ho;have g5:=cm;have ji:=ds;have ei:=bo;obtain ⟨oh,he,ib,et⟩:=GG.put g5 ji ei aj 10 (.int .i64 ad.b);clear ji ei;obtain ⟨m7,jh,io,ec⟩:=GG.put he ib et aj 11 (.int .i64 ad.s);clear ib et;obtain ⟨mv,i4,ht,fd⟩:=GG.put jh io ec aj 12 (.int .u64 (ad.u:Int));clear io ec;obtain ⟨mq,ig,je,d3⟩:=GG.put i4 ht fd aj 13 (.int .i64 bn);clear ht fd;obtain ⟨me,jb,d0,fh⟩:=GG.put ig je d3 aj 14 (.slice b4 bp.length ca);clear je d3;replace d0:Blk _ go 52 #[.int .i64 v1,.int .i64 v2,.int .i64 v3,.int .i64 v4,.slice B5 l5.length d5,.int .i64 v6,.int .i64 v7,.int .i64 v8,.int .i64 v9,.slice b6 al.length b5,.int .i64 ad.b,.int .i64 ad.s,.int .u64 (ad.u:Int),.int .i64 bn,.slice b4 bp.length ca,.slice none 0 0,.int .i64 0,.int .i64 0,.int .u64 0,.slice none 0 0,.int .i64 0,.int .i64 0,.slice none 0 0,.int .u64 0,.slice none 0 0,.int .u64 0,.int .u64 0]:=d0;clear ar aq b2 dh pd bd cd oj nu nm im m5 nk ns hb i5 jm hc ce hd mb km ks;go_upto_region 18 with (fail)
 generalize (((((js.setCell ⟨go,10,none⟩ (.int .i64 ad.b)).setCell ⟨go,11,none⟩ (.int .i64 ad.s)).setCell ⟨go,12,none⟩ (.int .u64 (ad.u:Int))).setCell ⟨go,13,none⟩ (.int .i64 bn)).setCell ⟨go,14,none⟩ (.slice b4 bp.length ca))=y18 at*;have ar:InAt y18.drew g g bs j4 ju:=fh.drewN 1;have aq:Fr (GG g go) w5 y18.drew:=jb.drew;have b2:=d0.drew;have dh:=OpBlk.of b2;have fc:Fr (GG g go) y18 y18.drew:=(Fr.refl _ _).drew;have pd:y18.drew.cell? ⟨gp,0,none⟩=some (.pointer (some ⟨g,0,none⟩)):=(ah.fr aq ai).cell 0;have bd:y18.drew.cell? ⟨gb,0,none⟩=some (.func (.func 56) #[] #[.pointer (some ⟨gp,0,none⟩)]):=(av.fr aq be).cell 0;have cd:y18.drew.cell? ⟨gc,0,none⟩=some (.func (.func 58) #[] #[.pointer (some ⟨gp,0,none⟩)]):=(ba.fr aq bc).cell 0;have hu:Hid (Pk.rdIdent bs j3 j5=((ac.b,ac.s,ac.u),jv,jt)):=Jx kz.out;have lr:=fun A c=>Yt go 15 (by omega) A ay.length c;have ly:=Yx go ac.b ac.s (ac.u:Int);have kn:=fun A c=>Yu go 19 (by omega) A a0.length c
 go_cut [] (fun wc=>∃(az:Option Addr) (aw:Nat) (ax:Option Addr) (bb:Nat),InAt wc g g bs i9 iv/\Blk wc go 52 #[.int .i64 v1,.int .i64 v2,.int .i64 v3,.int .i64 v4,.slice B5 l5.length d5,.int .i64 v6,.int .i64 v7,.int .i64 v8,.int .i64 v9,.slice b6 al.length b5,.int .i64 ad.b,.int .i64 ad.s,.int .u64 (ad.u:Int),.int .i64 bn,.slice b4 bp.length ca,.slice az ay.length aw,.int .i64 ac.b,.int .i64 ac.s,.int .u64 (ac.u:Int),.slice ax a0.length bb,.int .i64 0,.int .i64 0,.slice none 0 0,.int .u64 0,.slice none 0 0,.int .u64 0,.int .u64 0]/\Fr (GG g go) w5 wc/\Fr (GG g go) y18 wc/\RowAt wc w.heap.size 43 1 az ay.length aw (ay.map Uv)/\RowAt wc w.heap.size 3 1 ax a0.length bb (a0.map Iv))
 case first=>
  go_region_held3 (fun w'=>w'.cell? ⟨gp,0,none⟩=some (.pointer (some ⟨g,0,none⟩))/\w'.cell? ⟨gb,0,none⟩=some (.func (.func 56) #[] #[.pointer (some ⟨gp,0,none⟩)])/\w'.cell? ⟨gc,0,none⟩=some (.func (.func 58) #[] #[.pointer (some ⟨gp,0,none⟩)])/\OpBlk w' go) ((first|with_reducible exact ⟨pd,bd,cd,dh⟩|with_reducible exact ⟨o9,o6,o8,k9⟩|with_reducible exact ⟨oy,pe,o2,ky⟩|with_reducible exact ⟨jn,jr,jq,du⟩|with_reducible exact ⟨(Ai jn ae),(Ai jr ag),(Ai jq af),(OpBlk.set du _ _)⟩|with_reducible exact ⟨(Ai (Ai (Ai (Ai jn ae) ae) ae) ae),(Ai (Ai (Ai (Ai jr ag) ag) ag) ag),(Ai (Ai (Ai (Ai jq af) af) af) af),(OpBlk.set (OpBlk.set (OpBlk.set (OpBlk.set du _ _) _ _) _ _) _ _)⟩|with_reducible exact ⟨(Ai (Ai (Ai (Ai (Ai jn ae) ae) ae) ae) ae),(Ai (Ai (Ai (Ai (Ai jr ag) ag) ag) ag) ag),(Ai (Ai (Ai (Ai (Ai jq af) af) af) af) af),(OpBlk.set (OpBlk.set (OpBlk.set (OpBlk.set (OpBlk.set du _ _) _ _) _ _) _ _) _ _)⟩)) (first
   |(go_at_call 66;(with_reducible refine (Xl g g bs j4 ju ay j3 j5 _ ar k1).mono ?_);rintro _ lk ⟨az,aw,rfl,g8,ct,aa⟩;have l3:=aa.mono (S':=GG g go) (fun _ _ e=> .inl e);have dy:=GG.one aq aa;have o9:lk.cell? ⟨gp,0,none⟩=some (.pointer (some ⟨g,0,none⟩)):=(ah.fr dy ai).cell 0;have o6:lk.cell? ⟨gb,0,none⟩=some (.func (.func 56) #[] #[.pointer (some ⟨gp,0,none⟩)]):=(av.fr dy be).cell 0;have o8:lk.cell? ⟨gc,0,none⟩=some (.func (.func 58) #[] #[.pointer (some ⟨gp,0,none⟩)]):=(ba.fr dy bc).cell 0;have ge:=b2.fr aa ap;have k9:=OpBlk.of ge;clear aa)
   |(go_at_call 62;(with_reducible refine (Jr g g bs j3 j5 ac.b ac.s ac.u jv jt _ ct hu).mono ?_);rintro _ l9 ⟨rfl,cx,aa⟩;have i2:=aa.mono (S':=GG g go) (fun _ _ e=> .inl e);have co:=GG.one dy aa;have oy:l9.cell? ⟨gp,0,none⟩=some (.pointer (some ⟨g,0,none⟩)):=(ah.fr co ai).cell 0;have pe:l9.cell? ⟨gb,0,none⟩=some (.func (.func 56) #[] #[.pointer (some ⟨gp,0,none⟩)]):=(av.fr co be).cell 0;have o2:l9.cell? ⟨gc,0,none⟩=some (.func (.func 58) #[] #[.pointer (some ⟨gp,0,none⟩)]):=(ba.fr co bc).cell 0;have gf:=ge.fr aa ap;have ky:=OpBlk.of gf;clear aa)
   |(go_at_call 67;(with_reducible refine (Xm g g bs jv jt a0 i9 iv _ cx kl).mono ?_);rintro _ kk ⟨ax,bb,rfl,jf,br,aa⟩;have gm:=aa.mono (S':=GG g go) (fun _ _ e=> .inl e);have dp:=GG.one co aa;have jn:kk.cell? ⟨gp,0,none⟩=some (.pointer (some ⟨g,0,none⟩)):=(ah.fr dp ai).cell 0;have jr:kk.cell? ⟨gb,0,none⟩=some (.func (.func 56) #[] #[.pointer (some ⟨gp,0,none⟩)]):=(av.fr dp be).cell 0;have jq:kk.cell? ⟨gc,0,none⟩=some (.func (.func 58) #[] #[.pointer (some ⟨gp,0,none⟩)]):=(ba.fr dp bc).cell 0;have dt:=gf.fr aa ap;have du:=OpBlk.of dt;clear aa))
  all_goals
   go_wp2_with fail;go_meet;exact ⟨az,aw,ax,bb,(InAt.set (InAt.set (InAt.set (InAt.set (InAt.set br aj 15 (.slice az ay.length aw)) aj 16 (.int .i64 ac.b)) aj 17 (.int .i64 ac.s)) aj 18 (.int .u64 (ac.u:Int))) aj 19 (.slice ax a0.length bb)),(((((dt.set 15 (.slice az ay.length aw)).set 16 (.int .i64 ac.b)).set 17 (.int .i64 ac.s)).set 18 (.int .u64 (ac.u:Int))).set 19 (.slice ax a0.length bb)),(GG.set (GG.set (GG.set (GG.set (GG.set dp 15 (.slice az ay.length aw)) 16 (.int .i64 ac.b)) 17 (.int .i64 ac.s)) 18 (.int .u64 (ac.u:Int))) 19 (.slice ax a0.length bb)),(GG.set (GG.set (GG.set (GG.set (GG.set (((fc.trans l3 zr).trans i2 zr).trans gm zr) 15 (.slice az ay.length aw)) 16 (.int .i64 ac.b)) 17 (.int .i64 ac.s)) 18 (.int .u64 (ac.u:Int))) 19 (.slice ax a0.length bb)),(Dy (Dy (Dy ((RowAt.of_own g8).lower (base':=w.heap.size) (A59 c7.size aq.size)) i2 ge ct (by decide) (by decide)) gm gf cx (by decide) (by decide)) (GG.set (GG.set (GG.set (GG.set (GG.set (Fr.refl (GG g go) _) 15 (.slice az ay.length aw)) 16 (.int .i64 ac.b)) 17 (.int .i64 ac.s)) 18 (.int .u64 (ac.u:Int))) 19 (.slice ax a0.length bb)) dt br (by decide) (by decide)),(Dy ((RowAt.of_own jf).lower (base':=w.heap.size) (A59 c7.size co.size)) (GG.set (GG.set (GG.set (GG.set (GG.set (Fr.refl (GG g go) _) 15 (.slice az ay.length aw)) 16 (.int .i64 ac.b)) 17 (.int .i64 ac.s)) 18 (.int .u64 (ac.u:Int))) 19 (.slice ax a0.length bb)) dt br (by decide) (by decide))⟩
 case rest=>
 obtain ⟨az,aw,ax,bb,b1,dz,ir,fe,gj,jc⟩:=hcut;have da:=lh (fun (w':World) (hf:Fr (GG g go) _ w')=>Dy gj hf dz b1 (by decide) (by decide));clear gj;have cw:=lh (fun (w':World) (hf:Fr (GG g go) _ w')=>Dy jc hf dz b1 (by decide) (by decide));clear jc;go_upto_region 19 with (fail)
 generalize wc=y19 at*;have ar:InAt y19.drew g g bs i9 iv:=b1.drewN 1;have aq:Fr (GG g go) w5 y19.drew:=ir.drew;have b2:=dz.drew;have dh:=OpBlk.of b2;have em:Fr (GG g go) y19 y19.drew:=(Fr.refl _ _).drew;have pd:y19.drew.cell? ⟨gp,0,none⟩=some (.pointer (some ⟨g,0,none⟩)):=(ah.fr aq ai).cell 0;have bd:y19.drew.cell? ⟨gb,0,none⟩=some (.func (.func 56) #[] #[.pointer (some ⟨gp,0,none⟩)]):=(av.fr aq be).cell 0;have cd:y19.drew.cell? ⟨gc,0,none⟩=some (.func (.func 58) #[] #[.pointer (some ⟨gp,0,none⟩)]):=(ba.fr aq bc).cell 0;have ke:=Fk go 20 (by omega) bk;have ln:=Fk go 21 (by omega) bm;have l1:=fun A c=>Yv go 22 (by omega) A bf.length c;have l7:=Yr go 23 (by omega) (bl:Int)
 go_cut [] (fun wc=>∃(bg:Option Addr) (bh:Nat),InAt wc g g bs jx jp/\Blk wc go 52 #[.int .i64 v1,.int .i64 v2,.int .i64 v3,.int .i64 v4,.slice B5 l5.length d5,.int .i64 v6,.int .i64 v7,.int .i64 v8,.int .i64 v9,.slice b6 al.length b5,.int .i64 ad.b,.int .i64 ad.s,.int .u64 (ad.u:Int),.int .i64 bn,.slice b4 bp.length ca,.slice az ay.length aw,.int .i64 ac.b,.int .i64 ac.s,.int .u64 (ac.u:Int),.slice ax a0.length bb,.int .i64 bk,.int .i64 bm,.slice bg bf.length bh,.int .u64 (bl:Int),.slice none 0 0,.int .u64 0,.int .u64 0]/\Fr (GG g go) w5 wc/\Fr (GG g go) y19 wc/\RowAt wc w.heap.size 103 4 bg bf.length bh (bf.flatMap Bx.cells))
 case first=>
  go_region_held3 (fun w'=>w'.cell? ⟨gp,0,none⟩=some (.pointer (some ⟨g,0,none⟩))/\w'.cell? ⟨gb,0,none⟩=some (.func (.func 56) #[] #[.pointer (some ⟨gp,0,none⟩)])/\w'.cell? ⟨gc,0,none⟩=some (.func (.func 58) #[] #[.pointer (some ⟨gp,0,none⟩)])/\OpBlk w' go) ((first|with_reducible exact ⟨pd,bd,cd,dh⟩|with_reducible exact ⟨oo,pc,o4,j9⟩|with_reducible exact ⟨os,pa,pf,l8⟩|with_reducible exact ⟨ow,o0,ov,j7⟩|with_reducible exact ⟨gx,i8,gn,de⟩|with_reducible exact ⟨(Ai gx ae),(Ai i8 ag),(Ai gn af),(OpBlk.set de _ _)⟩|with_reducible exact ⟨(Ai (Ai gx ae) ae),(Ai (Ai i8 ag) ag),(Ai (Ai gn af) af),(OpBlk.set (OpBlk.set de _ _) _ _)⟩|with_reducible exact ⟨(Ai (Ai (Ai gx ae) ae) ae),(Ai (Ai (Ai i8 ag) ag) ag),(Ai (Ai (Ai gn af) af) af),(OpBlk.set (OpBlk.set (OpBlk.set de _ _) _ _) _ _)⟩|with_reducible exact ⟨(Ai (Ai (Ai (Ai gx ae) ae) ae) ae),(Ai (Ai (Ai (Ai i8 ag) ag) ag) ag),(Ai (Ai (Ai (Ai gn af) af) af) af),(OpBlk.set (OpBlk.set (OpBlk.set (OpBlk.set de _ _) _ _) _ _) _ _)⟩)) (first
   |(go_at_call 60;(with_reducible refine (Dl g g bs i9 iv bk kj k4 _ ar lq).mono ?_);rintro _ kb ⟨rfl,f3,aa⟩;have ls:=aa.mono (S':=GG g go) (fun _ _ e=> .inl e);have dn:=GG.one aq aa;have oo:kb.cell? ⟨gp,0,none⟩=some (.pointer (some ⟨g,0,none⟩)):=(ah.fr dn ai).cell 0;have pc:kb.cell? ⟨gb,0,none⟩=some (.func (.func 56) #[] #[.pointer (some ⟨gp,0,none⟩)]):=(av.fr dn be).cell 0;have o4:kb.cell? ⟨gc,0,none⟩=some (.func (.func 58) #[] #[.pointer (some ⟨gp,0,none⟩)]):=(ba.fr dn bc).cell 0;have ha:=b2.fr aa ap;have j9:=OpBlk.of ha;clear aa)
   |(go_at_call 60;(with_reducible refine (Dl g g bs kj k4 bm lz lu _ f3 lf).mono ?_);rintro _ kr ⟨rfl,fv,aa⟩;have lv:=aa.mono (S':=GG g go) (fun _ _ e=> .inl e);have b8:=GG.one dn aa;have os:kr.cell? ⟨gp,0,none⟩=some (.pointer (some ⟨g,0,none⟩)):=(ah.fr b8 ai).cell 0;have pa:kr.cell? ⟨gb,0,none⟩=some (.func (.func 56) #[] #[.pointer (some ⟨gp,0,none⟩)]):=(av.fr b8 be).cell 0;have pf:kr.cell? ⟨gc,0,none⟩=some (.func (.func 58) #[] #[.pointer (some ⟨gp,0,none⟩)]):=(ba.fr b8 bc).cell 0;have h0:=ha.fr aa ap;have l8:=OpBlk.of h0;clear aa)
   |(go_at_call 65;(with_reducible refine (P9 g g gp bs lz lu bf lx ki _ fv lp (ah.fr b8 ai)).mono ?_);rintro _ k6 ⟨bg,bh,rfl,ik,c0,aa⟩;have lm:=aa.mono (S':=GG g go) (fun _ _ e=> .inl e);have dx:=GG.one b8 aa;have ow:k6.cell? ⟨gp,0,none⟩=some (.pointer (some ⟨g,0,none⟩)):=(ah.fr dx ai).cell 0;have o0:k6.cell? ⟨gb,0,none⟩=some (.func (.func 56) #[] #[.pointer (some ⟨gp,0,none⟩)]):=(av.fr dx be).cell 0;have ov:k6.cell? ⟨gc,0,none⟩=some (.func (.func 58) #[] #[.pointer (some ⟨gp,0,none⟩)]):=(ba.fr dx bc).cell 0;have f9:=h0.fr aa ap;have j7:=OpBlk.of f9;clear aa)
   |(go_at_call 59;(with_reducible refine (Fh g g bs lx ki bl jx jp _ c0 k7).mono ?_);rintro _ kw ⟨rfl,cy,aa⟩;have gk:=aa.mono (S':=GG g go) (fun _ _ e=> .inl e);have d1:=GG.one dx aa;have gx:kw.cell? ⟨gp,0,none⟩=some (.pointer (some ⟨g,0,none⟩)):=(ah.fr d1 ai).cell 0;have i8:kw.cell? ⟨gb,0,none⟩=some (.func (.func 56) #[] #[.pointer (some ⟨gp,0,none⟩)]):=(av.fr d1 be).cell 0;have gn:kw.cell? ⟨gc,0,none⟩=some (.func (.func 58) #[] #[.pointer (some ⟨gp,0,none⟩)]):=(ba.fr d1 bc).cell 0;have fq:=f9.fr aa ap;have de:=OpBlk.of fq;clear aa))
  all_goals
   go_wp2_with fail;go_meet;exact ⟨bg,bh,(InAt.set (InAt.set (InAt.set (InAt.set cy aj 20 (.int .i64 bk)) aj 21 (.int .i64 bm)) aj 22 (.slice bg bf.length bh)) aj 23 (.int .u64 (bl:Int))),((((fq.set 20 (.int .i64 bk)).set 21 (.int .i64 bm)).set 22 (.slice bg bf.length bh)).set 23 (.int .u64 (bl:Int))),(GG.set (GG.set (GG.set (GG.set d1 20 (.int .i64 bk)) 21 (.int .i64 bm)) 22 (.slice bg bf.length bh)) 23 (.int .u64 (bl:Int))),(GG.set (GG.set (GG.set (GG.set ((((em.trans ls zr).trans lv zr).trans lm zr).trans gk zr) 20 (.int .i64 bk)) 21 (.int .i64 bm)) 22 (.slice bg bf.length bh)) 23 (.int .u64 (bl:Int))),(Dy (Dy ((RowAt.of_own ik).lower (base':=w.heap.size) (A59 c7.size b8.size)) gk f9 c0 (by decide) (by decide)) (GG.set (GG.set (GG.set (GG.set (Fr.refl (GG g go) _) 20 (.int .i64 bk)) 21 (.int .i64 bm)) 22 (.slice bg bf.length bh)) 23 (.int .u64 (bl:Int))) fq cy (by decide) (by decide))⟩
 case rest=>
 obtain ⟨bg,bh,cu,f1,bi,ee,hj⟩:=hcut;have cv:=lh (fun (w':World) (hf:Fr (GG g go) _ w')=>Dy hj hf f1 cu (by decide) (by decide));clear hj;have cp:=(ah.fr bi ai).cell 0;have cc:=(av.fr bi be).cell 0;go_wp2_with fail;refine (Yc g g gp gb bs jx jp o3 j1 j0 _ cu l2 (ah.fr bi ai) (av.fr bi be) fu).mono ?_;rintro _ ot ⟨dj,di,au,ef,rfl,ao,eb,ab,aa⟩;have db:=lh ef;clear ef;have cg:=lh eb;clear eb;have fb:=(RowAt.of_own ao).lower (base':=w.heap.size) (A59 c7.size bi.size);clear cp ao cc;have np:Fr (GG g go) _ _:=aa.mono (fun _ _ e=> .inl e);have iz:=GG.one bi aa;have b7:=f1.fr aa ap;have b3:=ab;clear cu ab aa;have c4:=lh (fun (w':World) (hf:Fr (GG g go) _ w')=>Dy fb hf b7 b3 (by decide) (by decide));clear fb;have b0:=lh (fun (w':World) (hf:Fr (GG g go) _ w') y hy=>Dy ((cg.out y hy).lower (base':=w.heap.size) (A59 c7.size bi.size)) hf b7 b3 (by decide) (by decide));clear cg;have ph:A61 _ _=some (.slice none 0 0):=b7.cell 24;have op:=b7.frozen 24;go_upto_region 21 with (fail)
 clear ph op;obtain ⟨nr,gt,gu,fk⟩:=GG.put iz b7 b3 aj 24 (.slice dj au.length di);clear b7 b3;generalize (ot.setCell ⟨go,24,none⟩ (.slice dj au.length di))=y21 at*;have ar:InAt y21.drew g g bs j1 j0:=fk.drewN 1;have aq:Fr (GG g go) w5 y21.drew:=gt.drew;have b2:=gu.drew;have dh:=OpBlk.of b2;have ep:Fr (GG g go) y21 y21.drew:=(Fr.refl _ _).drew;have pd:y21.drew.cell? ⟨gp,0,none⟩=some (.pointer (some ⟨g,0,none⟩)):=(ah.fr aq ai).cell 0;have bd:y21.drew.cell? ⟨gb,0,none⟩=some (.func (.func 56) #[] #[.pointer (some ⟨gp,0,none⟩)]):=(av.fr aq be).cell 0;have cd:y21.drew.cell? ⟨gc,0,none⟩=some (.func (.func 58) #[] #[.pointer (some ⟨gp,0,none⟩)]):=(ba.fr aq bc).cell 0;have ma:=Yy go (c9:Int) (c2:Int)
 go_region_held3 (fun w'=>w'.cell? ⟨gp,0,none⟩=some (.pointer (some ⟨g,0,none⟩))/\w'.cell? ⟨gb,0,none⟩=some (.func (.func 56) #[] #[.pointer (some ⟨gp,0,none⟩)])/\w'.cell? ⟨gc,0,none⟩=some (.func (.func 58) #[] #[.pointer (some ⟨gp,0,none⟩)])/\OpBlk w' go) ((first|with_reducible exact ⟨pd,bd,cd,dh⟩|with_reducible exact ⟨mt,nd,n0,g6⟩|with_reducible exact ⟨lj,l4,kg,fy⟩|with_reducible exact ⟨(Ai (Ai lj ae) ae),(Ai (Ai l4 ag) ag),(Ai (Ai kg af) af),(OpBlk.set (OpBlk.set fy _ _) _ _)⟩)) (first
  |(go_at_call 59;(with_reducible refine (Fh g g bs j1 j0 c9 ld lb _ ar k8).mono ?_);rintro _ kf ⟨rfl,c5,aa⟩;have ic:=aa.mono (S':=GG g go) (fun _ _ e=> .inl e);have cl:=GG.one aq aa;have mt:kf.cell? ⟨gp,0,none⟩=some (.pointer (some ⟨g,0,none⟩)):=(ah.fr cl ai).cell 0;have nd:kf.cell? ⟨gb,0,none⟩=some (.func (.func 56) #[] #[.pointer (some ⟨gp,0,none⟩)]):=(av.fr cl be).cell 0;have n0:kf.cell? ⟨gc,0,none⟩=some (.func (.func 58) #[] #[.pointer (some ⟨gp,0,none⟩)]):=(ba.fr cl bc).cell 0;have f7:=b2.fr aa ap;have g6:=OpBlk.of f7;clear aa)
  |(go_at_call 59;(with_reducible refine (Fh g g bs ld lb c2 kh ku _ c5 la).mono ?_);rintro _ k3 ⟨rfl,cr,aa⟩;have g1:=aa.mono (S':=GG g go) (fun _ _ e=> .inl e);have ci:=GG.one cl aa;have lj:k3.cell? ⟨gp,0,none⟩=some (.pointer (some ⟨g,0,none⟩)):=(ah.fr ci ai).cell 0;have l4:k3.cell? ⟨gb,0,none⟩=some (.func (.func 56) #[] #[.pointer (some ⟨gp,0,none⟩)]):=(av.fr ci be).cell 0;have kg:k3.cell? ⟨gc,0,none⟩=some (.func (.func 58) #[] #[.pointer (some ⟨gp,0,none⟩)]):=(ba.fr ci bc).cell 0;have gg:=f7.fr aa ap;have fy:=OpBlk.of gg;clear aa))
 have ij:=ci;have ia:=gg;have d9:=cr;obtain ⟨mk,iy,jg,er⟩:=GG.put ij ia d9 aj 25 (.int .u64 (c9:Int));clear ia d9;obtain ⟨nz,ga,dl,ez⟩:=GG.put iy jg er aj 26 (.int .u64 (c2:Int));clear jg er;replace dl:Blk _ go 52 #[.int .i64 v1,.int .i64 v2,.int .i64 v3,.int .i64 v4,.slice B5 l5.length d5,.int .i64 v6,.int .i64 v7,.int .i64 v8,.int .i64 v9,.slice b6 al.length b5,.int .i64 ad.b,.int .i64 ad.s,.int .u64 (ad.u:Int),.int .i64 bn,.slice b4 bp.length ca,.slice az ay.length aw,.int .i64 ac.b,.int .i64 ac.s,.int .u64 (ac.u:Int),.slice ax a0.length bb,.int .i64 bk,.int .i64 bm,.slice bg bf.length bh,.int .u64 (bl:Int),.slice dj au.length di,.int .u64 (c9:Int),.int .u64 (c2:Int)]:=dl;clear ar aq b2 dh pd bd cd mt nd n0 g6 lj l4 kg fy ma;go_upto_region 22 with (fail)
 have cp:=(ah.fr ga ai).cell 0;go_wp2_with fail;refine (W8 g g bs kh ku _ ez).mono ?_;rintro _ gi ⟨rfl,ab,aa⟩;clear cp;have oa:Fr (GG g go) _ _:=aa.mono (fun _ _ e=> .inl e);have fp:=GG.one ga aa;have jk:=dl.fr aa ap;have hw:=ab;clear ez ab aa;have o7:Blk _ go 52 #[.int .i64 v1,.int .i64 v2,.int .i64 v3,.int .i64 v4,.slice B5 l5.length d5,.int .i64 v6,.int .i64 v7,.int .i64 v8,.int .i64 v9,.slice b6 al.length b5,.int .i64 ad.b,.int .i64 ad.s,.int .u64 (ad.u:Int),.int .i64 bn,.slice b4 bp.length ca,.slice az ay.length aw,.int .i64 ac.b,.int .i64 ac.s,.int .u64 (ac.u:Int),.slice ax a0.length bb,.int .i64 bk,.int .i64 bm,.slice bg bf.length bh,.int .u64 (bl:Int),.slice dj au.length di,.int .u64 (c9:Int),.int .u64 (c2:Int)]:=jk;clear jk;obtain ⟨E,hE⟩:=Ab (Pk.endE bs kh ku);rw [hE.out];have nw:Fr (GG g go) _ _:=oa;have nl:Fr (GG g go) _ _:=nz.trans nw zr;have mr:Fr (GG g go) _ _:=mk.trans nl zr;have m0:Fr (GG g go) _ _:=g1.trans mr zr;have ok:Fr (GG g go) _ _:=ic.trans m0 zr;have md:Fr (GG g go) _ _:=ep.trans ok zr;have jy:Fr (GG g go) _ _:=nr.trans md zr;have k0:Fr (GG g go) _ _:=np.trans jy zr;have j6:Fr (GG g go) _ _:=ee.trans k0 zr;have nv:Fr (GG g go) _ _:=fe.trans j6 zr;have nf:Fr (GG g go) _ _:=me.trans nv zr;have mw:Fr (GG g go) _ _:=mq.trans nf zr;have n4:Fr (GG g go) _ _:=mv.trans mw zr;have nt:Fr (GG g go) _ _:=m7.trans n4 zr;have kt:Fr (GG g go) _ _:=oh.trans nt zr;have my:Fr (GG g go) _ _:=iu.trans kt zr;have n7:Fr (GG g go) _ _:=jl.trans my zr;have oe:Fr (GG g go) _ _:=ip.trans n7 zr;have ny:Fr (GG g go) _ _:=d8.trans oe zr;have jw:Fr (GG g go) _ _:=ni.trans ny zr;have ml:Fr (GG g go) _ _:=n8.trans jw zr;have mh:Fr (GG g go) _ _:=mz.trans ml zr;have mm:Fr (GG g go) _ _:=n9.trans mh zr;have m2:Fr (GG g go) _ _:=mj.trans mm zr;have m3:Fr (GG g go) _ _:=mc.trans m2 zr;have mo:Fr (GG g go) _ _:=mf.trans m3 zr;have ng:Fr (GG g go) _ _:=oi.trans mo zr;have oc:Fr (GG g go) _ _:=mn.trans ng zr;have n2:Fr (GG g go) _ _:=nh.trans oc zr;have og:Fr (GG g go) _ _:=m8.trans n2 zr;have m6:Fr (GG g go) _ _:=nc.trans og zr;have k5:=ey.out _ m6;clear ey;have nb:=c8.out _ jw;clear c8;have hp:=lh (bw.out _ jw);clear bw;have mi:=dg.out _ kt;clear dg;have m9:=da.out _ j6;clear da;have n6:=cw.out _ j6;clear cw;have nq:=cv.out _ k0;clear cv;have mu:=c4.out _ jy;clear c4;have i6:=lh (b0.out _ jy);clear b0;have ak:=e0.fr fp nn;have kp:=lh (Im (g:=Ml) (Bu (Bu (Bu (Bu (Bu (Bu (Bu (Bu (Bu (Bu (Bu (Bu (Bu (Bu (Bu (Bu (Bu (Bu (Bu (Bu (Bu (Bu h1.out h2.out) h3.out) h4.out) h5.out) h6.out) h7.out) h8.out) h9.out) li.out) kc.out) lo.out) lc.out) k1.out) kz.out) kl.out) lq.out) lf.out) lp.out) k7.out) l2.out) k8.out) la.out));have na:Fr Non w gi:=c7.trans fp (fun i hi e=>by rcases e with e|e<;>omega)
 clear m6 og n2 oc ng mo m3 m2 mm mh ml jw ny oe n7 my kt nt n4 mw nf nv j6 k0 jy md ok m0 mr nl nw
 have l6:Hid (∀wz:World,E=0->Fr (One w.heap.size) gi wz->Fr Non w wz->Hv bs w (.returned (.tuple #[.agg #[.int .i64 v1,.int .i64 v2,.int .i64 v3,.int .i64 v4,.slice B5 l5.length d5,.int .i64 v6,.int .i64 v7,.int .i64 v8,.int .i64 v9,.slice b6 al.length b5,.int .i64 ad.b,.int .i64 ad.s,.int .u64 (ad.u:Int),.int .i64 bn,.slice b4 bp.length ca,.slice az ay.length aw,.int .i64 ac.b,.int .i64 ac.s,.int .u64 (ac.u:Int),.slice ax a0.length bb,.int .i64 bk,.int .i64 bm,.slice bg bf.length bh,.int .u64 (bl:Int),.slice dj au.length di,.int .u64 (c9:Int),.int .u64 (c2:Int)],.int .i64 0])) wz):=by
  intro wz dk bz dq;have hg:=Zz kp.out hE.out dk;unfold Hv;rw [hg];refine ⟨⟨v1,v2,v3,v4,B5,d5,l5,v6,v7,v8,v9,b6,b5,al,ad,bn,b4,ca,bp,az,aw,ay,ac,ax,bb,a0,bk,bm,bg,bh,bf,bl,dj,di,au,c9,c2⟩,?_,rfl,⟨k5.res bz ak (by decide),nb.res bz ak (by decide),fun y hy=>(hp.out y hy).res bz ak (by decide),mi.res bz ak (by decide),m9.res bz ak (by decide),n6.res bz ak (by decide),nq.res bz ak (by decide),mu.res bz ak (by decide),fun y hy=>(i6.out y hy).res bz ak (by decide)⟩,dq⟩;rw [<- ch.out,<- db.out];rfl
 have ko:Hid (∀wz:World,E≠0->Fr Non w wz->Hv bs w (.returned (.tuple #[.agg zO,.int .i64 E])) wz):=by
  intro wz dk dq;have hg:=Z3 kp.out hE.out dk;unfold Hv;rw [hg];exact ⟨OpL.zero,rfl,rfl,OpL.zero_own _ _,dq⟩
 have hi:(zp.info? 52).map (·.size)=some 27:=by kernel_rfl
 clear hn hr hl h1 h2 h3 h4 h5 h6 h7 h8 h9 li kc lo lc k1 kz kl lq lf lp k7 l2 k8 la fu n5 oz i0 e0 c7 nx ah av ba k2 pb aj m4 ap ai be bc nn ae ag af mg F5 gq kq nj ou j2 od dc F6 ms F7 kx n3 c6 F8 n1 F9 ft ii dd o1 il om fz gy jj o5 i1 ol dm dv oq f6 nc i3 hh eg m8 b9 f0 hm g9 dr gw bv nh g7 mn fw gr bu oi g3 mf fo ie bq mc hx mj f8 g0 fs n9 hk mz bj dw n8 gl ni g4 i7 en d8 cf ip df gh cj jl bt fx ff bo iu cm ds g5 oh he m7 jh mv i4 mq ig me jb d0 fh fc hu lr ly kn b1 dz ir fe ar aq b2 dh em pd bd cd ke ln l1 l7 f1 bi ee np iz nr gt gu fk ep c5 ic cl f7 cr g1 ci gg ij mk iy nz ga dl oa fp hw k5 nb hp mi m9 n6 nq mu i6 kp hE ch db
 by_cases dk:E=0
 ·
  have hz:(E !=0)=false:=by rw [bne_eq_false_iff_eq];exact dk
  have fm:=lh dk;clear dk;go_upto_region 25 with (fail)
  have gz:True:=trivial;have cz:True:=trivial;go_wp2_with (first|(have _t:=gz;refine Jv rfl 52 (.tmp 7) rfl rfl o7 underlying52 rfl hi ?_;clear gz _t)|(have _t:=cz;refine Io rfl 52 (.tmp 2) (.tmp 107) rfl rfl rfl rfl ak hi rfl (by simp [Value.oneCell']) ?_;clear cz _t;have bz:=(Fr.refl (One w.heap.size) gi).setRow (g:=w.heap.size) (fun _=>rfl) #[.int .i64 v1,.int .i64 v2,.int .i64 v3,.int .i64 v4,.slice B5 l5.length d5,.int .i64 v6,.int .i64 v7,.int .i64 v8,.int .i64 v9,.slice b6 al.length b5,.int .i64 ad.b,.int .i64 ad.s,.int .u64 (ad.u:Int),.int .i64 bn,.slice b4 bp.length ca,.slice az ay.length aw,.int .i64 ac.b,.int .i64 ac.s,.int .u64 (ac.u:Int),.slice ax a0.length bb,.int .i64 bk,.int .i64 bm,.slice bg bf.length bh,.int .u64 (bl:Int),.slice dj au.length di,.int .u64 (c9:Int),.int .u64 (c2:Int)];have jd:=ak.setRow (cs:=#[.int .i64 v1,.int .i64 v2,.int .i64 v3,.int .i64 v4,.slice B5 l5.length d5,.int .i64 v6,.int .i64 v7,.int .i64 v8,.int .i64 v9,.slice b6 al.length b5,.int .i64 ad.b,.int .i64 ad.s,.int .u64 (ad.u:Int),.int .i64 bn,.slice b4 bp.length ca,.slice az ay.length aw,.int .i64 ac.b,.int .i64 ac.s,.int .u64 (ac.u:Int),.slice ax a0.length bb,.int .i64 bk,.int .i64 bm,.slice bg bf.length bh,.int .u64 (bl:Int),.slice dj au.length di,.int .u64 (c9:Int),.int .u64 (c2:Int)]);have dq:=Fr.setRow na (fun h=>absurd h (Nat.lt_irrefl _)) #[.int .i64 v1,.int .i64 v2,.int .i64 v3,.int .i64 v4,.slice B5 l5.length d5,.int .i64 v6,.int .i64 v7,.int .i64 v8,.int .i64 v9,.slice b6 al.length b5,.int .i64 ad.b,.int .i64 ad.s,.int .u64 (ad.u:Int),.int .i64 bn,.slice b4 bp.length ca,.slice az ay.length aw,.int .i64 ac.b,.int .i64 ac.s,.int .u64 (ac.u:Int),.slice ax a0.length bb,.int .i64 bk,.int .i64 bm,.slice bg bf.length bh,.int .u64 (bl:Int),.slice dj au.length di,.int .u64 (c9:Int),.int .u64 (c2:Int)];generalize gi.setRow w.heap.size #[.int .i64 v1,.int .i64 v2,.int .i64 v3,.int .i64 v4,.slice B5 l5.length d5,.int .i64 v6,.int .i64 v7,.int .i64 v8,.int .i64 v9,.slice b6 al.length b5,.int .i64 ad.b,.int .i64 ad.s,.int .u64 (ad.u:Int),.int .i64 bn,.slice b4 bp.length ca,.slice az ay.length aw,.int .i64 ac.b,.int .i64 ac.s,.int .u64 (ac.u:Int),.slice ax a0.length bb,.int .i64 bk,.int .i64 bm,.slice bg bf.length bh,.int .u64 (bl:Int),.slice dj au.length di,.int .u64 (c9:Int),.int .u64 (c2:Int)]=wz at bz jd dq ⊢;(repeat (first|go_values|go_skip|go_guarded|go_step));exact Fm (t:=52) rfl rfl jd rfl underlying52 (by kernel_rfl) rfl (l6.out wz fm.out bz dq)))
 ·
  have hz:(E !=0)=true:=by rw [bne_iff_ne];exact dk
  have fm:=lh dk;clear dk;go_upto_region 24 with (fail)
  have cz:True:=trivial;go_wp2_with (first|(have _t:=cz;refine Io rfl 52 (.tmp 2) (.tmp 105) rfl rfl rfl rfl ak hi rfl (by simp [Value.oneCell']) ?_;clear cz _t;have bz:=(Fr.refl (One w.heap.size) gi).setRow (g:=w.heap.size) (fun _=>rfl) zO;have jd:=ak.setRow (cs:=zO);have dq:=Fr.setRow na (fun h=>absurd h (Nat.lt_irrefl _)) zO;generalize gi.setRow w.heap.size zO=wz at bz jd dq ⊢;(repeat (first|go_values|go_skip|go_guarded|go_step));exact Fm (t:=52) rfl rfl jd rfl underlying52 (by kernel_rfl) rfl (ko.out wz fm.out dq)))
end Oq
namespace Oq
attribute [local go_sem ↓] Bq
end Oq
namespace Oq
structure Few (k:Nat) (o:Op):Prop where
 past:o.past.length<=k
 path:o.path.length<=k
 refs:o.refs.length<=k
 guards:o.guards.length<=k
 boxes:o.boxes.length<=k
 hist:o.hist.length<=k
 nodes:∀y∈o.path,y.xs.length<=20
 body:o.body.length<=300
 seals:∀y∈o.hist,y.y.length<=300
theorem Rl {o:Op} (h:o.chk=0):Few 20 o:=by
 rw [chk_ok] at h;obtain ⟨hk,h2,h3,h4,h5,_,_⟩:=h
 have hbx:o.boxes.length<=20:=by
  unfold Op.bareB at h2;simp only [Bool.and_eq_true,Bool.or_eq_true] at h2;have hb:=h2.1.2;unfold Op.longB at h5;simp only [A64] at h5;have hl:=h5.2;have hg:o.guards.length<=6:=by simpa using h5.1.2
  rcases hb with ((hb|hb)|hb)|hb
  ·
   rw [List.isEmpty_iff] at hb;rw [hb];simp
  ·
   rw [beq_iff_eq] at hb;simp [hb] at hl;omega
  ·
   rw [beq_iff_eq] at hb;simp [hb] at hl;omega
  ·
   rw [beq_iff_eq] at hb;simp [hb] at hl;omega
 unfold Op.longB at h5;simp only [A64,List.any_eq_false] at h5;obtain ⟨⟨⟨⟨⟨⟨⟨⟨l1,l2⟩,l3⟩,l4⟩,l5⟩,l6⟩,l7⟩,l8⟩,_⟩:=h5;simp at l1 l2 l3 l4 l5 l6 l7 l8;exact ⟨by omega,by omega,by omega,by omega,hbx,by omega,fun y hy=>by have:=l1 y hy;omega,by omega,fun y hy=>by have:=l2 y hy;omega⟩
theorem Nd.short (x:Nd) (h:x.xs.length<=20):x.bytes.length<=1000:=by
 unfold Nd.bytes;rw [A63];have h1:=Pk.num_len x.p;have h2:=Cr x.xs (fun y _=>Bx.bytes_len y);omega
theorem Sl.short (x:Sl) (h:x.y.length<=300):x.bytes.length<=400:=by
 unfold Sl.bytes;rw [A63];have h1:=Id.bytes_len x.f;have h2:=Pk.text_len x.y;omega
theorem Rm {k:Nat} {o:Op} (h:Few k o) (hk:k<=100):o.put.length<=500000:=by
 have h1:=Cr o.past (fun y _=>Id.bytes_len y);have h2:=Cr o.path (fun y hy=>Nd.short y (h.nodes y hy));have h3:=Cr o.refs (fun y _=>Pk.num_len y);have h4:=Cr o.guards (fun y _=>Pk.int_len y);have h5:=Cr o.boxes (fun y _=>Bx.bytes_len y);have h6:=Cr o.hist (fun y hy=>Sl.short y (h.seals y hy));have h7:=Pk.text_len o.body;have g1:=h.past;have g2:=h.path;have g3:=h.refs;have g4:=h.guards;have g5:=h.boxes;have g6:=h.hist;have g7:=h.body;have i1:=Pk.int_len o.by_;have i2:=Pk.int_len o.sq;have i3:=Pk.int_len o.kind;have i4:=Pk.int_len o.at_;have i5:=Pk.int_len o.dev;have i6:=Pk.int_len o.old;have i7:=Pk.int_len o.mem;have i8:=Pk.int_len o.role;have i9:=Pk.int_len o.n;have i10:=Pk.int_len o.need;have i11:=Pk.int_len o.wait;have i12:=Pk.num_len o.pub;have i13:=Id.bytes_len o.epoch;have i14:=Id.bytes_len o.of;have i15:=Pk.num_len o.r;have i16:=Pk.num_len o.s;unfold Op.put Op.bare;simp only [A63];omega
end Oq
namespace Oq
attribute [local go_sem] Bool.not_false Bool.not_true
def OpL.base (b s k a:Int) (pA:Option Addr) (pC:Nat) (past:List Id) (qA:Option Addr) (qC:Nat) (path:List NdL):OpL:=
 {OpL.zero with by_:=b,sq:=s,kind:=k,at_:=a,pastA:=pA,pastC:=pC,past:=past,pathA:=qA,pathC:=qC,path:=path}
theorem OpL.own.lower {w:World} {base base':Nat} {x:OpL} (h:x.own w base) (hb:base'<=base):x.own w base':=
 ⟨h.past.lower hb,h.path.lower hb,fun y hy=>(h.nodes y hy).lower hb,h.body.lower hb,h.refs.lower hb,h.guards.lower hb,h.boxes.lower hb,h.hist.lower hb,fun y hy=>(h.seals y hy).lower hb⟩
end Oq
section
open Go.ChangeShapes Go.WideShapes Go.ChangeAt Go.RowKit
def kindsL:List Int:=[0,2064,32793,21,16,12,480,640,512,31744,8704,8705,512,33299]
def Hz:Array Value:=(kindsL.map Oq.Iv).toArray
def KindsAt (w:World):Prop:=∀k:Nat,k<14->w.cell? ⟨0,k,none⟩=some (.int .i64 (kindsL.getD k 0))
theorem kinds_named:zp.globalNamed "huddle/op.kinds" =some 0:=by kernel_rfl
theorem kinds_type:(zp.globals[0]?).map (·.type)=some 208:=by kernel_rfl
theorem Aa4:zp.cellsOf 208=14:=by kernel_rfl
theorem Aa5:zp.cellsOf 3=1:=by kernel_rfl
theorem Eh {H:Type} {enc:TypeId × Value->H} {P:Program} {w:World} {base:Nat} {sp:Nat->Bool} {held:Bool} {fuel:Nat} {t:TypeId} {k:IntKind} {c:Value} {y:DataW H × List MemPlace}
  (ht:P.underlying t=some (.int k)) (h:DataW.trod enc P w base sp held fuel t [c]=some y):∃n,c=.int k n/\y=(.lit (.int k n),[]):=by
 cases fuel with
 |zero=>simp [DataW.trod] at h
 |succ fuel=>
  cases c<;>simp [DataW.trod,ht] at h
  rename_i k' n;obtain ⟨⟨rfl,_⟩,rfl⟩:=h;exact ⟨n,rfl,rfl⟩
theorem Aa6 {W:World} (h:laidMet zp [("huddle/op.kinds",Rows.laid_huddle_op_kinds)] W):W.var? zp "huddle/op.kinds" =some Hz:=by
 obtain ⟨ps,⟨g,t,cs,fuel,p,q,hg,ht,hvar,hd,_,_⟩,_⟩:=h;obtain rfl:=Option.some.inj (kinds_named.symm.trans hg);obtain rfl:=Option.some.inj (kinds_type.symm.trans ht);rw [hvar];congr 1;obtain ⟨l⟩:=cs
 cases fuel with
 |zero=>simp [DataW.trod] at hd
 |succ fuel=>
  simp only [DataW.trod,underlying208,Aa4,Aa5] at hd
  split at hd
  ·
   rename_i hl
   obtain ⟨c0,c1,c2,c3,c4,c5,c6,c7,c8,c9,c10,c11,c12,c13,rfl⟩:∃c0 c1 c2 c3 c4 c5 c6 c7 c8 c9 c10 c11 c12 c13,l=[c0,c1,c2,c3,c4,c5,c6,c7,c8,c9,c10,c11,c12,c13]:=by
    match l,hl with
    |[a0,a1,a2,a3,a4,a5,a6,a7,a8,a9,a10,a11,a12,a13],_=>exact ⟨a0,a1,a2,a3,a4,a5,a6,a7,a8,a9,a10,a11,a12,a13,rfl⟩
   have e:List.range 14=[0,1,2,3,4,5,6,7,8,9,10,11,12,13]:=rfl;rw [e] at hd;simp only [Option.map_eq_some_iff,List.mapM_cons,List.mapM_nil,Option.bind_eq_bind,Option.bind_eq_some_iff,Option.pure_def,Option.some.injEq] at hd;obtain ⟨xs,⟨y0,h0,_,⟨y1,h1,_,⟨y2,h2,_,⟨y3,h3,_,⟨y4,h4,_,⟨y5,h5,_,⟨y6,h6,_,⟨y7,h7,_,⟨y8,h8,_,⟨y9,h9,_,⟨y10,h10,_,⟨y11,h11,_,⟨y12,h12,_,⟨y13,h13,_,rfl,rfl⟩,rfl⟩,rfl⟩,rfl⟩,rfl⟩,rfl⟩,rfl⟩,rfl⟩,rfl⟩,rfl⟩,rfl⟩,rfl⟩,rfl⟩,rfl⟩,hx⟩:=hd;obtain ⟨n0,rfl,rfl⟩:=Eh underlying3 h0;obtain ⟨n1,rfl,rfl⟩:=Eh underlying3 h1;obtain ⟨n2,rfl,rfl⟩:=Eh underlying3 h2;obtain ⟨n3,rfl,rfl⟩:=Eh underlying3 h3;obtain ⟨n4,rfl,rfl⟩:=Eh underlying3 h4;obtain ⟨n5,rfl,rfl⟩:=Eh underlying3 h5;obtain ⟨n6,rfl,rfl⟩:=Eh underlying3 h6;obtain ⟨n7,rfl,rfl⟩:=Eh underlying3 h7;obtain ⟨n8,rfl,rfl⟩:=Eh underlying3 h8;obtain ⟨n9,rfl,rfl⟩:=Eh underlying3 h9;obtain ⟨n10,rfl,rfl⟩:=Eh underlying3 h10;obtain ⟨n11,rfl,rfl⟩:=Eh underlying3 h11;obtain ⟨n12,rfl,rfl⟩:=Eh underlying3 h12;obtain ⟨n13,rfl,rfl⟩:=Eh underlying3 h13;simp [Rows.laid_huddle_op_kinds] at hx;obtain ⟨⟨rfl,rfl,rfl,rfl,rfl,rfl,rfl,rfl,rfl,rfl,rfl,rfl,rfl,rfl⟩,_⟩:=hx;rfl
  · cases hd
theorem Aa7 {W:World} (h:laidMetH zp [("huddle/op.kinds",Rows.laid_huddle_op_kinds)] W):KindsAt W:=by
 have h':laidMet zp [("huddle/op.kinds",Rows.laid_huddle_op_kinds)] W:=h;have hv:=Aa6 h';intro k hk;have:=World.var?_cell kinds_named hv k;rw [this];unfold Hz;rw [List.getElem?_toArray,List.getElem?_map]
 match k,hk with
 |0,_=>rfl
 |1,_=>rfl
 |2,_=>rfl
 |3,_=>rfl
 |4,_=>rfl
 |5,_=>rfl
 |6,_=>rfl
 |7,_=>rfl
 |8,_=>rfl
 |9,_=>rfl
 |10,_=>rfl
 |11,_=>rfl
 |12,_=>rfl
 |13,_=>rfl
theorem KindsAt.fr {w w':World} (h:KindsAt w) (hf:Fr Non w w'):KindsAt w':=fun k hk=>hf.cell (h k hk) zq
noncomputable def M9 (os:Os):World:=
  {World.holding zp os ⟨#[],#[],[]⟩ with heap:=(World.holding zp os ⟨#[],#[],[]⟩).heap.modify 0 fun
      | .cells _ t frozen=> .cells Hz t frozen
      |o=>o}
theorem Rn (os:Os) (args:Array Value):((M9 os).forCall (fun _ _=>0) ⟨#[],args,[]⟩).memory.heap[0]? =some (.cells Hz 208 (0,0)):=by kernel_rfl
theorem Aa8 (os:Os) (args:Array Value):laidMetH zp [("huddle/op.kinds",Rows.laid_huddle_op_kinds)] ((M9 os).forCall (fun _ _=>0) ⟨#[],args,[]⟩).memory:=by
 show laidMet _ _ _;refine ⟨_,⟨0,208,Hz,8,[],[],by kernel_rfl,by kernel_rfl,by kernel_rfl,by kernel_rfl,rfl,rfl⟩,by decide,fun b off h=> ?_⟩;have h':MemPlace.cell b off∈(List.range 14).map (fun k=>MemPlace.cell 0 k):=h;obtain ⟨k,hk,e⟩:=List.mem_map.1 h';injection e with e1 e2
 subst e1 e2;refine ⟨⟨_,_,Rn os args⟩,fun u v hc=> ?_⟩;simp only [A61,Rn os args] at hc;have hk':=List.mem_range.1 hk
 have:Hz[k]? =some (.int .i64 (kindsL.getD k 0)):=by
  match k,hk' with
  |0,_=>rfl
  |1,_=>rfl
  |2,_=>rfl
  |3,_=>rfl
  |4,_=>rfl
  |5,_=>rfl
  |6,_=>rfl
  |7,_=>rfl
  |8,_=>rfl
  |9,_=>rfl
  |10,_=>rfl
  |11,_=>rfl
  |12,_=>rfl
  |13,_=>rfl
 simp [this] at hc
namespace Oq
end Oq
end
namespace Oq
attribute [local go_sem ↓] Bq
attribute [local go_sem] Bool.not_false Bool.not_true
theorem E8 (x:OpL):x.cells.all (·.oneCell')=true:=by unfold OpL.cells;simp [Value.oneCell']
end Oq
section
open Go.RowKit Go.Shelf
theorem Fr.putObj {S:Nat->Prop} {a w:World} (h:Fr S a w) {l:Nat} (hl:l<a.heap.size->S l) (o:Obj):Fr S a (w.putObj l o):=
 h.trans (S':=fun k=>k=l) ⟨rfl,rfl,rfl,by simp,fun k _ hk=>A60 hk⟩ (fun i hi e=>by subst e;exact hl hi)
theorem Fr.putOne (w:World) (l:Nat) (o:Obj):Fr (fun k=>k=l) w (w.putObj l o):=
 ⟨rfl,rfl,rfl,by simp,fun k _ hk=>A60 hk⟩
theorem Fr.obj {S:Nat->Prop} {w w':World} {k:Nat} {o:Obj} (h:Fr S w w') (hk:w.heap[k]? =some o) (hs:¬S k):w'.heap[k]? =some o:=
 (h.block k (Array.getElem?_eq_some_iff.1 hk).1 hs).trans hk
theorem Na {n m:Nat} {P:Program} {l:Nat} {args:Array Value} {W:World} {R:Ending->World->Prop} (h:YieldAt Fence.wide n P l args W R):YieldAt Fence.wide m P l args W R:=by
 obtain ⟨fn,tmps,assign,body,hy,hR⟩:=h;exact ⟨fn,tmps,assign,body,hy,hR.1,fun c cs _=>hR.2 c cs (room_wide _)⟩
theorem Ro {l n:Nat} {P:Program} {f:FuncId} {args:Array Value} {w:World} {R:Ending->World->Prop} (h:Calls P f args w R):CallsIn (Fence.wide.inRound l) n P f args w R:=callsIn_wide.2 h
theorem Aa9 {l l' n m:Nat} {P:Program} {f:FuncId} {tmps:Array Value} {assign body:Code} {w:World} {R:Ending->World->Prop} (h:RoundIn Fence.wide n P l f tmps assign body w R):RoundIn (Fence.wide.inRound l') m P l f tmps assign body w R:=
 ⟨h.1,fun c cs _=>h.2 c cs (room_wide _)⟩
def J9 {α:Type} (P:Program) (gf:Nat) (lb:Array Value) (encs:α->Array Value) (xs:List α) (S T:Nat->Prop) (C:Nat) (W0:World):Prop:=
 ∀(l:Nat) (J:Nat->World->Prop),(∀i A B,J i A->Fr S A B->J i B)->J 0 W0->
  (∀i x W,xs[i]? =some x->J i W->C<=W.heap.size->YieldAt Fence.wide 0 P l (encs x) W fun e W'=>e=.returned (.bool true)/\J (i+1) W'/\Fr T W W')->
  Calls P gf (#[.func (.yield l) #[] #[]]++lb) W0 fun e W'=>(∃v,e=.returned v)/\J xs.length W'
def Ab0 (I:World->Prop) (T:Nat->Prop) (W:World):Exit->Act->World->Prop
 | .normal,_,W'=>I W'/\Fr T W W'
 |_,_,_=>False
theorem Ka {α:Type} {P:Program} {n:Nat} {g:Operand} {ps:Array Tmp} {assign body:Code} {Q:Exit->Act->World->Prop} {a:Act} {w:World} {gf:Nat} {lb:Array Value}
  (hg:a.eval g=.func (.func gf) #[] lb) (eg:∀args w,(callFunc gf args).run P w=.ok (.enter gf args) w)
  {encs:α->Array Value} {xs:List α} {S Tb:Nat->Prop} {C:Nat} (hps:∀x,(encs x).size=ps.size)
  (hseq:∀W1,Fr Non w W1->W1.heap.size=w.heap.size+2->J9 P gf lb encs xs S (fun k=>Tb k\/k=w.heap.size+1) C W1)
  (hS:¬S w.heap.size/\¬S (w.heap.size+1)) (hT:¬Tb w.heap.size/\¬Tb (w.heap.size+1))
  (I:Nat->World->Prop) (hI:∀i A B,I i A->Fr (fun k=>S k\/k=w.heap.size\/k=w.heap.size+1) A B->I i B) (h0:I 0 w)
  (hround:∀(i:Nat) (x:α) (W:World),xs[i]? =some x->
   assign.wpIn (Fence.wide.inRound (w.heap.size+1)) 0 P (Exit.then (fun a' W'=>W'=W/\∀W2,I i W2->C<=W2.heap.size->body.wpIn (Fence.wide.inRound (w.heap.size+1)) 0 P (Ab0 (I (i+1)) Tb W2) a' W2) (fun _ _ _=>False))
    {tmps:=(ps.zip (encs x)).foldl (fun t (p,v)=>t.setIfInBounds p v) a.tmps,defers:=[]} W)
  (hdone:∀(W:World),I xs.length W->W.heap[w.heap.size]? =some (.deferred (some []))->Q .normal {a with defers:={target:=.collected w.heap.size,args:=#[]}::a.defers} W):
  (Code.rangeFunc g ps assign body).wp P Q a w:=by
 refine (wpIn_wide (n:=n)).1 (wpIn_rangeFunc ?_);intro fn au;obtain ⟨ab,aa⟩:∃ab:LoopState->Loop,ab=fun st=>{state:=st,pending:=none,fn,tmps:=a.tmps,params:=ps,assign,body,defers:=w.heap.size}:=⟨_,rfl⟩;obtain ⟨W1,ad⟩:∃W1,(w.alloc (.deferred (some []))).alloc (.loop (ab .ready))=W1:=⟨_,rfl⟩
 have al:W1.heap[w.heap.size+1]? =some (.loop (ab .ready)):=by
  rw [<- ad];have:=A65 (w.alloc (.deferred (some []))) (.loop (ab .ready));rwa [A62] at this
 have ar:W1.heap[w.heap.size]? =some (.deferred (some [])):=by
  rw [<- ad];exact (Below.heap_alloc _ _ _ (by simp)).trans (A65 w _)
 have ah:Fr Non w W1:=by rw [<- ad];exact ((Fr.refl _ _).alloc _).alloc _
 have av:W1.heap.size=w.heap.size+2:=by rw [<- ad];simp
 refine ⟨w.heap.size+1,[{target:=.collected w.heap.size,args:=#[]}],W1,{target:=.fn (.func gf) lb,args:=#[.func (.yield (w.heap.size+1)) #[] #[]]},W1,gf,
  #[.func (.yield (w.heap.size+1)) #[] #[]]++lb,W1,?_,?_,fun _ _=>trivial,?_,fun h=>by simp [Fence.wide] at h,?_⟩
 · rw [<- ad,aa];exact run_enterLoop_outer _ _ _ _ _
 ·
  simp only [resolve,hg];simp [go_sem]
 · simp [invoke,go_sem,eg]
 ·
  refine callsIn_wide.2 ((hseq W1 ah av (w.heap.size+1)
   (fun i W=>I i W/\W.heap[w.heap.size+1]? =some (.loop (ab .ready))/\W.heap[w.heap.size]? =some (.deferred (some [])))
   (fun i A B h hf=>⟨hI i A B h.1 (hf.mono fun _ _ hk=> .inl hk),hf.obj h.2.1 hS.2,hf.obj h.2.2 hS.1⟩)
   ⟨hI 0 w W1 h0 (ah.of_non _),al,ar⟩ ?_).mono ?_)
  ·
   rintro i x W hx ⟨hi,hl,hk⟩ hC;have aq:w.heap.size+1<W.heap.size:=(Array.getElem?_eq_some_iff.1 hl).1;have hy:=run_yield (P:=P) (args:=encs x) hl (by rw [aa];exact hps x);rw [aa] at hy;refine ⟨fn,_,assign,body,hy,roundIn_of_wpIn au (wpIn_mono (hround i x W hx) ?_)⟩;rintro e a' W' hp
   cases e with
   |normal=> ?_
   |ret=>exact hp.elim
   |exit id=>exact hp.elim
   |goto t=>exact hp.elim
   |panic ch=>exact hp.elim
   |outgrown=>exact hp.elim
   obtain ⟨hW,ac⟩:=hp;subst W';refine ⟨_,run_beginRound hl (by rw [aa]),?_⟩;have ao:(W.putObj (w.heap.size+1) (.loop {ab .ready with state:=.busy})).heap[w.heap.size+1]? =some (.loop {ab .ready with state:=.busy}):=A66 aq;have ap:(W.putObj (w.heap.size+1) (.loop {ab .ready with state:=.busy})).heap[w.heap.size]? =some (.deferred (some [])):=(A60 (by omega)).trans hk;have ag:Fr (fun k=>k=w.heap.size+1) W (W.putObj (w.heap.size+1) (.loop {ab .ready with state:=.busy})):=Fr.putOne _ _ _;refine wpIn_mono (ac _ (hI i _ _ hi (ag.mono fun _ _ e=> .inr (.inr e))) (by simpa using hC)) ?_;rintro e a3 W3 hp
   cases e with
   |normal=>
    obtain ⟨aj,ae⟩:=hp;have ai:=ae.obj ao hT.2;have ak:=ae.obj ap hT.1;have hr:=run_endRound (P:=P) none ai;rw [aa] at hr;have af:Fr (fun k=>k=w.heap.size+1) W3 (W3.putObj (w.heap.size+1) (.loop (ab .ready))):=Fr.putOne _ _ _;refine ⟨_,_,hr,rfl,⟨?_,?_,?_⟩,?_⟩
    · rw [aa] at af;exact hI _ _ _ aj (af.mono fun _ _ e=> .inr (.inr e))
    · rw [aa];exact A66 (Array.getElem?_eq_some_iff.1 ai).1
    · exact (A60 (by omega)).trans ak
    ·
     rw [aa] at af ag ae;exact ((ag.mono (S':=fun k=>Tb k\/k=w.heap.size+1) fun _ _ e=> .inr e).trans ae fun _ _ e=> .inl e).trans af fun _ _ e=> .inr e
   |ret=>exact hp.elim
   |exit id=>exact hp.elim
   |goto t=>exact hp.elim
   |panic ch=>exact hp.elim
   |outgrown=>exact hp.elim
  ·
   rintro e W2 ⟨⟨v,rfl⟩,hi,hl,hk⟩;refine ⟨none,W2.putObj (w.heap.size+1) (.loop {ab .ready with state:=.exhausted}),?_,hdone _ (hI _ _ _ hi ((Fr.putOne W2 (w.heap.size+1) _).mono fun _ _ e=> .inr (.inr e))) ((A60 (by omega)).trans hk)⟩;have h:=run_endLoop (P:=P) hl (by rw [aa];simp);rw [aa] at h ⊢;exact h
