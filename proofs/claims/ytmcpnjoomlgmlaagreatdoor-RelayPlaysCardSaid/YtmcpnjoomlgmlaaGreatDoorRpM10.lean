/- Contracts of functions, walked (part 10).
Conditions: as each theorem says. -/
import Derived.Maps.RangeWalk
import Derived.Test.YtmcpnjoomlgmlaaGreatDoorRpM5
set_option maxRecDepth 100000
set_option maxHeartbeats 16000000
open Array renaming getD->A60,getElem_mapIdx->A63,getElem_setIfInBounds->A79
open Bool renaming and_eq_true->A59,not_true->A67,eq_iff_iff->A68,or_eq_true->A70,not_false->A77
open List renaming mem_of_getElem?->A61,take_of_length_le->A62,find?_cons->A64,getElem?_eq_getElem->A65,all_eq_true->A66,find?_some->A71,mem_of_find?_eq_some->A72,nodup_cons->A73,filter_congr->A78,mem_append_right->A80,mem_append_left->A81,getElem?_map->A84
open Nat renaming lt_or_ge->A69,lt_of_lt_of_le->A74,zero_testBit->A75,testBit_two_pow->A76,eq_of_testBit_eq->A82,pow_lt_pow_right->A83
open Go.Proofs.Tryz
open Go.Proofs.Tryz renaming prog->zp
open Go.Lib renaming hid->lh
open List renaming set->zl
open Go.Ending renaming returned->ze
namespace Go.Proofs.YtmcpnjoomlgmlaaGreatDoor
open Go.RowKit
attribute [local go_sem ↓] Go.wp_at_zero Go.wp_at_succ
def Ea (work:List Nat) (listed:Array Bool):Nat:=(work.filter (fun i=> !listed.getD i true)).length
theorem Ah1 {l:List Nat} {p:Nat->Bool} {i:Nat} (hn:l.Nodup) (hi:i∈l) (hp:p i=true):(l.filter (fun j=>p j&&j !=i)).length+1=(l.filter p).length:=by
 induction l with
 |nil=>cases hi
 |cons x r ih=>
  have hx:=List.nodup_cons.1 hn
  by_cases hxi:x=i
  ·
   subst hxi
   have e:r.filter (fun j=>p j&&j !=x)=r.filter p:=A78 (fun j hj=>by
    have:j≠x:=fun e=>hx.1 (e▸hj);simp [this])
   simp [hp,e]
  ·
   have hr:i∈r:=by
    rcases List.mem_cons.1 hi with h|h
    · exact absurd h.symm hxi
    · exact h
   have h:=ih hx.2 hr
   by_cases hpx:p x=true
   ·
    simp [hpx,hxi];exact h
   ·
    have hpx':p x=false:=by simpa using hpx
    simp [hpx'];exact h
theorem S7 {work:List Nat} {listed:Array Bool} {i:Nat} (hn:work.Nodup) (hi:i∈work) (hl:listed.getD i true=false):Ea work (listed.setIfInBounds i true)+1=Ea work listed:=by
 unfold Ea
 have hlt:i<listed.size:=by
  rcases A69 i listed.size with h|h
  · exact h
  ·
   exfalso;unfold A60 at hl;rw [dif_neg (by omega)] at hl
   cases hl
 have e:work.filter (fun j=> !(listed.setIfInBounds i true).getD j true)=work.filter (fun j=>(!listed.getD j true)&&j !=i):=A78 (fun j _=>by
  by_cases hj:j=i
  ·
   subst hj;simp [A60,hlt]
  ·
   simp only [A60,Array.size_setIfInBounds]
   by_cases h2:j<listed.size
   · simp [h2,hj,Ne.symm hj]
   · simp [h2])
 rw [e];exact Ah1 (p:=fun j=> !listed.getD j true) hn hi (by simp [hl])
theorem S8 {P:Program} {Q:Exit->Act->World->Prop} {ops:Array Oper} {md:Region.Mode} {S:World->Prop} (work:List Nat) (hn:work.Nodup) (k:Nat) (J:Array Bool->Act->World->Prop)
  (hready:∀listed a w,J listed a w->Ea work listed≠0->Region.ready md ops listed≠[]/\∀i∈Region.ready md ops listed,i∈work)
  (hstep:∀listed a w,J listed a w->∀i∈Region.ready md ops listed,i∈work->wpOp P ops Q i (fun a' w'=>S w'/\J (listed.setIfInBounds i true) a' w') a w)
  (hend:∀listed a w,J listed a w->Ea work listed=0->wpAnyH P md ops Q S k listed a w):
  ∀(m:Nat) (listed:Array Bool) (a:Act) (w:World),J listed a w->Ea work listed=m->wpAnyH P md ops Q S (m+k) listed a w
 |0,listed,a,w,hJ,hm=>by
  rw [Nat.zero_add];exact hend listed a w hJ hm
 |m+1,listed,a,w,hJ,hm=>by
  obtain ⟨h1,h2⟩:=hready listed a w hJ (by omega);rw [show m+1+k=(m+k)+1 by omega];refine ⟨fun h=>absurd h h1,fun i hi=>wpOp_mono (fun a' w' hJ'=>⟨hJ'.1,?_⟩) (hstep listed a w hJ i hi (h2 i hi))⟩;have hl:=(mem_ready.1 hi).1;have hp:=S7 hn (h2 i hi) hl;exact S8 work hn k J hready hstep hend m _ a' w' hJ'.2 (by omega)
def Hd (md:Region.Mode) (ops:Array Oper) (work:List Nat) (L0:Array Bool):Bool:=
 (work.all fun i=>decide (i<L0.size)&& !L0.getD i true&&(match ops[i]? with
  |none=>false
  |some o=>o.after.toList.all fun e=> !Region.binds md e||(decide (e.on<i)&&(work.contains e.on||L0.getD e.on false))))&&
 ((List.range ops.size).all fun i=>work.contains i||L0.getD i true||(match ops[i]? with
  |none=>true
  |some o=>(o.after.toList.any fun e=>Region.binds md e&& !work.contains e.on&& !L0.getD e.on false)||
    work.all fun r=>o.after.toList.any fun e=>Region.binds md e&&(e.on==r||(work.contains e.on&&(match ops[e.on]? with
     |none=>false
     |some o'=>o'.after.toList.any fun e'=>Region.binds md e'&&e'.on==r)))))
structure Ew (md:Region.Mode) (ops:Array Oper) (work:List Nat) (L0 listed:Array Bool):Prop where
 size:listed.size=L0.size
 off:∀j,j∉work->listed.getD j true=L0.getD j true
 shut:∀i∈work,listed.getD i true=true->∀o,ops[i]? =some o->∀e∈o.after,Region.binds md e=true->listed.getD e.on false=true
theorem E9 {l:Array Bool} {i:Nat} (hi:i<l.size):l.getD i true=l.getD i false:=by simp [A60,hi]
theorem Ku {l:Array Bool} {i:Nat} (h:l.getD i false=true):i<l.size:=by
 rcases A69 i l.size with h1|h1
 · exact h1
 ·
  unfold A60 at h;rw [dif_neg (by omega)] at h
  cases h
section
variable {md : Region.Mode} {ops : Array Oper} {work : List Nat} {L0 listed : Array Bool}
theorem Ew.start (hS:Hd md ops work L0=true):Ew md ops work L0 L0:=by
 refine ⟨rfl,fun _ _=>rfl,fun i hi hl=> ?_⟩;unfold Hd at hS;rw [A59,A66] at hS;have h:=hS.1 i hi;simp only [A59] at h;have h2:=h.1.2;rw [hl] at h2
 cases h2
theorem Ew.off' (h:Ew md ops work L0 listed) {j:Nat} (hj:j∉work):listed.getD j false=L0.getD j false:=by
 have h1:=h.off j hj
 by_cases hs:j<L0.size
 · rw [<- E9 (by rw [h.size];exact hs),<- E9 hs];exact h1
 · simp [A60,hs,h.size]
theorem Ew.next (h:Ew md ops work L0 listed) {i:Nat} (hr:i∈Region.ready md ops listed) (hi:i∈work):Ew md ops work L0 (listed.setIfInBounds i true):=by
 obtain ⟨h0,o,ho,hall⟩:=mem_ready.1 hr;refine ⟨by simpa using h.size,fun j hj=> ?_,fun j hj hl o' ho' e he hb=> ?_⟩
 ·
  rw [getD_set_ne true (fun e=>hj (by first|(rw [<- e];exact hi)|(rw [e];exact hi)))];exact h.off j hj
 ·
  by_cases hji:j=i
  ·
   subst hji;rw [ho] at ho'
   cases ho'
   exact getD_set_true (hall e he hb)
  ·
   rw [getD_set_ne true (Ne.symm hji)] at hl;exact getD_set_true (h.shut j hj hl o' ho' e he hb)
theorem Ew.ready (hS:Hd md ops work L0=true) (h:Ew md ops work L0 listed) (hp:Ea work listed≠0):Region.ready md ops listed≠[]/\∀i∈Region.ready md ops listed,i∈work:=by
 unfold Hd at hS;rw [A59,A66,A66] at hS;obtain ⟨hw,ht⟩:=hS
 obtain ⟨i0,aa⟩:∃i,i∈work/\listed.getD i true=false:=by
  unfold Ea at hp;have aj:work.filter (fun i=> !listed.getD i true)≠[]:=fun e=>hp (by rw [e];rfl);obtain ⟨i,hi⟩:=List.exists_mem_of_ne_nil _ aj;have h2:=List.mem_filter.1 hi;exact ⟨i,h2.1,by simpa using h2.2⟩
 constructor
 ·
  obtain ⟨i,hi,ac⟩:∃i,(i∈work/\listed.getD i true=false)/\∀j,j<i->¬(j∈work/\listed.getD j true=false):=by
   clear hw ht hp
   induction i0 using Nat.strongRecOn with
   |ind i ih=>
    by_cases hx:∃j,j<i/\(j∈work/\listed.getD j true=false)
    ·
     obtain ⟨j,hj,ad⟩:=hx;exact ih j hj ad
    · exact ⟨i,aa,fun j hj ad=>hx ⟨j,hj,ad⟩⟩
  have ag:=hw i hi.1;simp only [A59] at ag;obtain ⟨_,hm⟩:=ag
  cases ho:ops[i]? with
  |none=>rw [ho] at hm;cases hm
  |some o=>
   rw [ho] at hm;intro he
   have af:i∈Region.ready md ops listed:=mem_ready.2 ⟨hi.2,o,ho,fun e hee hb=>by
    have h1:=List.all_eq_true.1 hm e (by simpa using hee);rw [hb] at h1;simp only [A67,Bool.false_or,A59,decide_eq_true_eq,A70] at h1;obtain ⟨ae,h3⟩:=h1
    by_cases hew:e.on∈work
    ·
     have h4:=ac e.on ae
     have h5:listed.getD e.on true=true:=by
      cases hv:listed.getD e.on true with
      |true=>rfl
      |false=>exact absurd ⟨hew,hv⟩ h4
     have h6:=hw e.on hew;simp only [A59,decide_eq_true_eq] at h6;rw [<- E9 (by rw [h.size];exact h6.1.1)];exact h5
    ·
     rw [h.off' hew]
     rcases h3 with h3|h3
     · exact absurd (by simpa using h3) hew
     · exact h3⟩
   rw [he] at af
   cases af
 ·
  intro i hr;obtain ⟨h0,o,ho,ab⟩:=mem_ready.1 hr
  by_cases hi:i∈work
  · exact hi
  ·
   exfalso;have ae:i<ops.size:=(Array.getElem?_eq_some_iff.1 ho).1;have h1:=ht i (List.mem_range.2 ae);rw [ho] at h1;have h2:L0.getD i true=false:=by rw [<- h.off i hi];exact h0
   simp only [A70,h2] at h1
   rcases h1 with (h1|h1)|h1
   · exact hi (by simpa using h1)
   · cases h1
   ·
    rcases h1 with h1|h1
    ·
     obtain ⟨e,he,h3⟩:=List.any_eq_true.1 h1;simp only [A59,Bool.not_eq_true'] at h3;have h4:=ab e (by simpa using he) h3.1.1;have h5:e.on∉work:=by simpa using h3.1.2
     rw [h.off' h5,h3.2] at h4
     cases h4
    ·
     obtain ⟨e,he,h3⟩:=List.any_eq_true.1 (List.all_eq_true.1 h1 i0 aa.1);simp only [A59,A70] at h3;have h4:=ab e (by simpa using he) h3.1
     rcases h3.2 with h5|h5
     ·
      have e5:e.on=i0:=by simpa using h5
      rw [e5] at h4;rw [E9 (Ku h4),h4] at aa
      cases aa.2
     ·
      have h6:e.on∈work:=by simpa using h5.1
      have ai:listed.getD e.on true=true:=by rw [E9 (Ku h4)];exact h4
      cases ho':ops[e.on]? with
      |none=>rw [ho'] at h5;cases h5.2
      |some o'=>
       rw [ho'] at h5;obtain ⟨e',ah,h7⟩:=List.any_eq_true.1 h5.2;simp only [A59] at h7;have h8:=h.shut e.on h6 ai o' ho' e' (by simpa using ah) h7.1;have e8:e'.on=i0:=by simpa using h7.2
       rw [e8] at h8;rw [E9 (Ku h8),h8] at aa
       cases aa.2
theorem Ew.done (h:Ew md ops work L0 listed) (hp:Ea work listed=0) (L1:Array Bool) (h1:L1.size=L0.size) (h2:∀j,j<L0.size->L1.getD j true=(work.contains j||L0.getD j true)):listed=L1:=by
 apply Array.ext
 · rw [h.size,h1]
 ·
  intro j hj hj1;have hs:j<L0.size:=by rw [<- h.size];exact hj
  have e1:listed.getD j true=listed[j]:=by simp [A60,hj]
  have e2:L1.getD j true=L1[j]:=by simp [A60,hj1]
  rw [<- e1,<- e2,h2 j hs]
  by_cases hw:j∈work
  ·
   have hc:work.contains j=true:=by simpa using hw
   rw [hc,Bool.true_or]
   cases hv:listed.getD j true with
   |true=>rfl
   |false=>
    exfalso;unfold Ea at hp;have hin:j∈work.filter (fun i=> !listed.getD i true):=List.mem_filter.2 ⟨hw,by simp [hv]⟩;rw [List.eq_nil_of_length_eq_zero hp] at hin
    cases hin
  ·
   have hc:work.contains j=false:=by simpa using hw
   rw [hc,Bool.false_or];exact h.off j hw
end
section
open Go.RowKit Go.Maps
def Says {H:Type} (D:DataW H) (f:Int->Option Bool):Prop:=IsMap D/\∀x,has D (.int .i64 x)=(f x).isSome/\∀b,f x=some b->∀z,D.atKey (.int .i64 x) z=.lit (.bool b)
section
variable {H : Type} {D : DataW H} {f : Int -> Option Bool}
theorem Says.empty:Says (.map []:DataW H) (fun _=>none):=⟨isMap_empty,fun x=>⟨rfl,fun b h=>by cases h⟩⟩
theorem Says.put (h:Says D f) (x:Int) (b:Bool):Says (D.put (.int .i64 x) (.lit (.bool b))) (fun y=>if y=x then some b else f y):=by
 refine ⟨h.1.put _ _,fun y=> ?_⟩
 by_cases e:y=x
 ·
  subst e;simp only [if_true];refine ⟨has_put_same h.1 (by simp [WideAt.IsKeyLit]) _,fun b' hb z=> ?_⟩
  cases hb
  exact atKey_put_same h.1 (by simp [WideAt.IsKeyLit]) _ _
 ·
  simp only [if_neg e];have hne:Lit.int .i64 y≠ .int .i64 x:=fun h=>e (by cases h;rfl);exact ⟨(has_put_other hne _).trans (h.2 y).1,fun b' hb z=>(atKey_put_other hne _ _).trans ((h.2 y).2 b' hb z)⟩
end
def Cj (ops:Array Oper) (work:List Nat) (d:Nat):Option Nat:=work.find? (fun i=>match ops[i]? with|some o=>o.dst==some d|none=>false)
def Cw (ops:Array Oper) (work:List Nat) (val:Nat->Value) (listed:Array Bool) (t:Array Value):Array Value:=
 t.mapIdx (fun d v=>match Cj ops work d with|some i=>if listed.getD i false then val i else v|none=>v)
def Ch (ops:Array Oper) (work:List Nat) (val:Nat->Value) (a0:Act) (listed:Array Bool):Act:={a0 with tmps:=Cw ops work val listed a0.tmps}
section
variable {P : Program} {ops : Array Oper} {work : List Nat} {val val' : Nat -> Value} {a0 : Act} {listed : Array Bool} {i d t : Nat}
theorem Kv (h:Cj ops work d=some i):i∈work/\∃o,ops[i]? =some o/\o.dst=some d:=by
 have h1:=A71 h;have h2:=A72 h;refine ⟨h2,?_⟩
 cases ho:ops[i]? with
 |none=>rw [ho] at h1;cases h1
 |some o=>rw [ho] at h1;exact ⟨o,rfl,by simpa using h1⟩
theorem S9 (h:i<listed.size) (b:Bool):(listed.setIfInBounds i true).getD i b=true:=by
 simp [A60,h]
theorem Nz {o:Oper} (ho:ops[i]? =some o) (hd:o.dst=none\/∃d,o.dst=some d/\Cj ops work d=some i) (hlt:i<listed.size):
  (Ch ops work val a0 listed).put o.dst (val i)=Ch ops work val a0 (listed.setIfInBounds i true):=by
 have key:∀d,(∀d',o.dst=some d'->d'≠d)->(match Cj ops work d with|some j=>(listed.setIfInBounds i true).getD j false|none=>false)=(match Cj ops work d with|some j=>listed.getD j false|none=>false):=by
  intro d hne
  cases hs:Cj ops work d with
  |none=>rfl
  |some j=>
   obtain ⟨_,o',ho',hd'⟩:=Kv hs
   have hji:i≠j:=by
    rintro rfl;rw [ho] at ho'
    cases ho'
    exact hne d hd' rfl
   exact getD_set_ne false hji
 unfold Ch Act.put
 rcases hd with hd|⟨d,hd,hs⟩
 ·
  rw [hd];simp only [Act.mk.injEq,and_true];apply Array.ext
  · simp [Cw]
  ·
   intro n h1 h2;have hk:=key n (fun d' h=>by rw [hd] at h;cases h);simp only [Cw,A63]
   cases hs:Cj ops work n with
   |none=>rfl
   |some j=>rw [hs] at hk;simp only at hk ⊢;rw [hk]
 ·
  rw [hd];simp only [Act.mk.injEq,and_true];apply Array.ext
  · simp [Cw]
  ·
   intro n h1 h2
   by_cases hn:n=d
   ·
    subst hn;have e1:=S9 hlt false;rw [A79 (by simpa [Cw] using h1)];simp only [Cw,A63,hs,e1];simp
   ·
    have hk:=key n (fun d' h=>by rw [hd] at h;cases h;exact Ne.symm hn);rw [A79 (by simpa [Cw] using h1),if_neg (Ne.symm hn)];simp only [Cw,A63]
    cases hs':Cj ops work n with
    |none=>rfl
    |some j=>rw [hs'] at hk;simp only at hk ⊢;rw [hk]
theorem Ah2 (h:∀i∈work,listed.getD i false=false):Ch ops work val a0 listed=a0:=by
 unfold Ch
 have:Cw ops work val listed a0.tmps=a0.tmps:=by
  apply Array.ext
  · simp [Cw]
  ·
   intro n h1 h2;simp only [Cw,A63]
   cases hs:Cj ops work n with
   |none=>rfl
   |some j=>simp only [h j (Kv hs).1];rfl
 rw [this]
theorem Ta (h:Cj ops work t=none):(Ch ops work val a0 listed).eval (.tmp t)=a0.eval (.tmp t):=by
 show (Cw ops work val listed a0.tmps).getD t undef=a0.tmps.getD t undef;unfold Cw A60;simp [h]
theorem Tc (h:Cj ops work t=some i) (hl:listed.getD i false=true) (ht:t<a0.tmps.size):(Ch ops work val a0 listed).eval (.tmp t)=val i:=by
 show (Cw ops work val listed a0.tmps).getD t undef=val i;unfold Cw;rw [Array.getD_eq_getD_getElem?];simp only [Array.getElem?_mapIdx,Array.getElem?_eq_getElem ht,Option.map_some,Option.getD_some,h];rw [if_pos hl]
theorem Ah3 (h:∀i∈work,listed.getD i false=true->val i=val' i):Ch ops work val a0 listed=Ch ops work val' a0 listed:=by
 unfold Ch
 have:Cw ops work val listed a0.tmps=Cw ops work val' listed a0.tmps:=by
  apply Array.ext
  · simp [Cw]
  ·
   intro n h1 h2;simp only [Cw,A63]
   cases hs:Cj ops work n with
   |none=>rfl
   |some j=>
    simp only
    cases hl:listed.getD j false with
    |true=>rw [if_pos rfl,if_pos rfl];exact h j (Kv hs).1 hl
    |false=>rw [if_neg (by simp),if_neg (by simp)]
 rw [this]
def Iz (ops:Array Oper) (work:List Nat):Operand->Bool
 | .tmp t=>(Cj ops work t).isNone
 |_=>true
theorem Ah4 {x:Operand} (h:Iz ops work x=true):(Ch ops work val a0 listed).eval x=a0.eval x:=by
 cases x with
 |tmp t=>exact Ta (by simpa [Iz] using h)
 |_=>rfl
theorem Ah5 {xs:Array Operand} (h:xs.all (Iz ops work)=true):xs.map (Ch ops work val a0 listed).eval=xs.map a0.eval:=by
 rw [Array.all_eq_true] at h;apply Array.ext
 · simp
 ·
  intro n h1 h2;simp only [Array.getElem_map];exact Ah4 (h n (by simpa using h1))
theorem Gf {o:Oper} {Q:Exit->Act->World->Prop} {K:Act->World->Prop} {f:FuncId} {args:Array Operand} {tys:Array TypeId} {vals:Array Value} {a:Act} {w:World} {fn:Func} {c:Code}
  (hop:o.op=.call {callee:=.value (.func f),args:=args,argTypes:=tys}) (hf:P.funcs[f]? =some fn) (hname:(fn.name== "runtime.NumGoroutine")=false) (hb:fn.body=some c)
  (hv:args.map a.eval=vals) (h:Calls P f vals w (fun r w'=>∃v,r=.returned v/\K (a.put o.dst v) w')):o.wp P a w K Q:=by
 have h1:fn.name≠ "runtime.NumGoroutine" :=by simpa using hname
 have hrun:(execOp a.eval o).run P w=.ok (.enter f vals) w:=by
  rw [<- hv];simp [execOp,hop,resolve,Deferred.ofValue,invoke,callFunc,hf,h1,hb,Act.eval]
 unfold Oper.wp;rw [hrun,Oper.upon_enter];refine h.mono ?_;rintro r w' ⟨v,rfl,hk⟩;exact hk
end
section
variable {H : Type} {P : Program} {ops : Array Oper} {md : Region.Mode} {Q : Exit -> Act -> World -> Prop} {S : World -> Prop}
def N0 (md:Region.Mode) (ops:Array Oper) (m sm T:Nat) (calls:List Nat) (ins:List (Nat × Int × Nat)) (n:Nat):Bool:=
 let work:=m::(calls++ins.map (·.1))
 decide (sm<n)&&Cj ops work sm==some m&&(match ops[m]? with
  |some o=>o.dst==some sm&&o.guard.isNone&&(match o.op with| .makeMap t none=>t==T|_=>false)
  |none=>false)&&
 ins.all (fun x=>decide ((Lit.int .i64 x.2.1).wf=true)&&decide (x.2.2<n)&&(match ops[x.1]? with
  |some o=>o.dst.isNone&&o.guard.isNone&&(match o.op with
    | .insert t (.tmp a) (.const (.int .i64 k)) (.tmp b)=>t==T&&a==sm&&k==x.2.1&&b==x.2.2
    |_=>false)&&
    o.after.any (fun e=>Region.binds md e&&e.on==m)&&
    (match Cj ops work x.2.2 with
     |none=>true
     |some c=>calls.contains c&&o.after.any (fun e=>Region.binds md e&&e.on==c))
  |none=>false))&&
 decide ((ins.map (·.2.1)).Nodup)
theorem Ah6 {α:Type} {l:List α} {p q:α->Bool} (h:∀y∈l,p y=q y):l.find? p=l.find? q:=by
 induction l with
 |nil=>rfl
 |cons u r ih=>rw [A64,A64,h u (by simp),ih (fun z hz=>h z (by simp [hz]))]
def Fa (ins:List (Nat × Int × Nat)) (bv:Nat->Bool) (listed:Array Bool) (x:Int):Option Bool:=(ins.find? (fun y=>listed.getD y.1 false&&y.2.1==x)).map (fun y=>bv y.2.2)
theorem Ah7 {ins:List (Nat × Int × Nat)} {bv:Nat->Bool} {listed:Array Bool} (h:∀y∈ins,listed.getD y.1 false=false):Fa ins bv listed=fun _=>none:=by
 funext x;unfold Fa;rw [List.find?_eq_none.2 (fun y hy=>by simp [h y hy])];rfl
theorem Td {ins:List (Nat × Int × Nat)} {bv:Nat->Bool} {listed:Array Bool} {i:Nat} (h:∀y∈ins,y.1≠i):Fa ins bv (listed.setIfInBounds i true)=Fa ins bv listed:=by
 funext x;unfold Fa
 have:ins.find? (fun y=>(listed.setIfInBounds i true).getD y.1 false&&y.2.1==x)=ins.find? (fun y=>listed.getD y.1 false&&y.2.1==x):=by
  induction ins with
  |nil=>rfl
  |cons y r ih=>
   rw [A64,A64,getD_set_ne false (Ne.symm (h y (by simp))),ih (fun z hz=>h z (by simp [hz]))]
 rw [this]
theorem Ah8 {ins:List (Nat × Int × Nat)} {bv:Nat->Bool} {listed:Array Bool} {y:Nat × Int × Nat} (hy:y∈ins) (hn:(ins.map (·.1)).Nodup) (hk:(ins.map (·.2.1)).Nodup) (hlt:y.1<listed.size):
  Fa ins bv (listed.setIfInBounds y.1 true)=fun x=>if x=y.2.1 then some (bv y.2.2) else Fa ins bv listed x:=by
 funext x
 by_cases e:x=y.2.1
 ·
  rw [if_pos e];unfold Fa
  have hf:∃z,ins.find? (fun z=>(listed.setIfInBounds y.1 true).getD z.1 false&&z.2.1==x)=some z:=by
   refine Option.isSome_iff_exists.1 (List.find?_isSome.2 ⟨y,hy,?_⟩);rw [S9 hlt,e];simp
  obtain ⟨z,hz⟩:=hf;have h1:=A72 hz;have h2:=A71 hz;rw [hz]
  have e2:z.2.1=y.2.1:=by
   rw [A59] at h2;have:=h2.2;rw [e] at this;simpa using this
  have e3:z=y:=by
   clear hz h2
   induction ins with
   |nil=>cases hy
   |cons u r ih=>
    rw [List.map_cons,A73] at hk hn
    rcases List.mem_cons.1 hy with h3|h3<;>rcases List.mem_cons.1 h1 with h4|h4
    · rw [h3,h4]
    · exfalso;apply hk.1;rw [<- h3,<- e2];exact List.mem_map.2 ⟨z,h4,rfl⟩
    · exfalso;apply hk.1;rw [<- h4,e2];exact List.mem_map.2 ⟨y,h3,rfl⟩
    · exact ih h3 hn.2 hk.2 h4
  rw [e3];rfl
 ·
  rw [if_neg e];unfold Fa
  have:ins.find? (fun z=>(listed.setIfInBounds y.1 true).getD z.1 false&&z.2.1==x)=ins.find? (fun z=>listed.getD z.1 false&&z.2.1==x):=by
   clear hk hlt
   have key:∀z∈ins,((listed.setIfInBounds y.1 true).getD z.1 false&&z.2.1==x)=(listed.getD z.1 false&&z.2.1==x):=by
    intro z hz
    by_cases e1:y.1=z.1
    ·
     have e2:z=y:=by
      clear e
      induction ins with
      |nil=>cases hy
      |cons u r ih=>
       rw [List.map_cons,A73] at hn
       rcases List.mem_cons.1 hy with h3|h3<;>rcases List.mem_cons.1 hz with h4|h4
       · rw [h3,h4]
       · exfalso;apply hn.1;rw [<- h3,e1];exact List.mem_map.2 ⟨z,h4,rfl⟩
       · exfalso;apply hn.1;rw [<- h4,<- e1];exact List.mem_map.2 ⟨y,h3,rfl⟩
       · exact ih h3 hn.2 h4
     rw [e2];have:(y.2.1==x)=false:=by simpa using Ne.symm e
     rw [this,Bool.and_false,Bool.and_false]
    · rw [getD_set_ne false e1]
   clear hy hn
   induction ins with
   |nil=>rfl
   |cons u r ih=>rw [A64,A64,key u (by simp),ih (fun z hz=>key z (by simp [hz]))]
  rw [this]
theorem Ah9 {work:List Nat} {listed:Array Bool} (h:∀i∈work,listed.getD i true=false):Ea work listed=work.length:=by
 unfold Ea;rw [List.filter_eq_self.2 (fun i hi=>by rw [h i hi];rfl)]
theorem Ai0 (m sm T K E:Nat) (calls:List Nat) (ins:List (Nat × Int × Nat)) (bv cv:Nat->Bool) (a0:Act) (L0 L1:Array Bool) (w0:World) (k:Nat)
  (hn:(m::(calls++ins.map (·.1))).Nodup) (hS:Hd md ops (m::(calls++ins.map (·.1))) L0=true) (hL:N0 md ops m sm T calls ins a0.tmps.size=true)
  (hL1:L0.mapIdx (fun j b=>(m::(calls++ins.map (·.1))).contains j||b)=L1)
  (hT:P.underlying T=some (.map K E)) (hK:P.underlying K=some (.int .i64)) (hE:P.underlying E=some .bool)
  (hcalls:∀c∈calls,∃(o:Oper) (d:Nat) (args:Array Operand),ops[c]? =some o/\o.dst=some d/\o.guard=none/\Cj ops (m::(calls++ins.map (·.1))) d=some c/\args.all (Iz ops (m::(calls++ins.map (·.1))))=true/\
   ∀(a:Act) (w:World) (K':Act->World->Prop),args.map a.eval=args.map a0.eval->Fr Non w0 w->(∀w',Fr Non w w'->K' (a.put (some d) (.bool (cv c))) w')->o.wp P a w K' Q)
  (hvals:∀y∈ins,match Cj ops (m::(calls++ins.map (·.1))) y.2.2 with|none=>a0.eval (.tmp y.2.2)=.bool (bv y.2.2)|some c=>cv c=bv y.2.2)
  (hSw:∀w,Fr Non w0 w->S w) (hmax:ins.length+calls.length+1<maxLen)
  (hend:∀(b:Nat) (w:World) (D:DataW H) (n:Nat),Fr Non w0 w->w0.heap.size<=b->w.ownsMap P K (plainElem P E) b n D->n<=ins.length+calls.length+1->Says D (fun x=>(ins.find? (fun y=>y.2.1==x)).map (fun y=>bv y.2.2))->
   wpAnyH P md ops Q S k L1 (Ch ops (m::(calls++ins.map (·.1))) (fun i=>if i=m then .map (some b) else .bool (cv i)) a0 L1) w):
  wpAnyH P md ops Q S ((m::(calls++ins.map (·.1))).length+k) L0 a0 w0:=by
 generalize hw:m::(calls++ins.map (·.1))=work at*;have a9:m∈work:=by rw [<- hw];simp
 have b9:∀c∈calls,c∈work:=fun c hc=>by rw [<- hw];simp [hc]
 have bk:∀y∈ins,y.1∈work:=fun y hy=>by rw [<- hw];exact List.mem_cons_of_mem _ (A80 _ (List.mem_map.2 ⟨y,hy,rfl⟩))
 have bs:∀i∈work,i=m\/i∈calls\/∃y∈ins,y.1=i:=fun i hi=>by
  rw [<- hw] at hi
  rcases List.mem_cons.1 hi with h|h
  · exact .inl h
  ·
   rcases List.mem_append.1 h with h|h
   · exact .inr (.inl h)
   · exact .inr (.inr (by simpa using h))
 have bj:=hn;rw [<- hw,A73,List.nodup_append] at bj;obtain ⟨a7,cb,b8,b3⟩:=bj;have aj:=Ew.start hS
 have ab:∀i∈work,i<L0.size/\L0.getD i true=false:=by
  intro i hi;unfold Hd at hS;rw [A59,A66] at hS;have h:=hS.1 i hi;simp only [A59] at h;exact ⟨by simpa using h.1.1,by simpa using h.1.2⟩
 have a2:=hL;unfold N0 at a2;simp only [hw] at a2;simp only [A59,A66,decide_eq_true_eq] at a2;obtain ⟨⟨⟨⟨bm,a6⟩,hmo⟩,hio⟩,hkeys⟩:=a2;have ag:Cj ops work sm=some m:=by simpa using a6
 obtain ⟨om,bg,b6,b5,ba⟩:∃o,ops[m]? =some o/\o.dst=some sm/\o.guard=none/\o.op=.makeMap T none:=by
  cases ho:ops[m]? with
  |none=>rw [ho] at hmo;cases hmo
  |some o=>
   rw [ho] at hmo;simp only [A59] at hmo;refine ⟨o,rfl,by simpa using hmo.1.1,by simpa using hmo.1.2,?_⟩;have h:=hmo.2
   split at h
   ·
    rename_i t e;rw [e];have:t=T:=by simpa using h
    rw [this]
   · cases h
 have aq:∀y∈ins,(Lit.int .i64 y.2.1).wf=true/\y.2.2<a0.tmps.size/\∃o,ops[y.1]? =some o/\o.dst=none/\o.guard=none/\o.op=.insert T (.tmp sm) (.const (.int .i64 y.2.1)) (.tmp y.2.2)/\
   (∃e∈o.after,Region.binds md e=true/\e.on=m)/\(∀c,Cj ops work y.2.2=some c->c∈calls/\∃e∈o.after,Region.binds md e=true/\e.on=c):=by
  intro y hy;have h:=hio y hy;refine ⟨h.1.1,h.1.2,?_⟩;have h2:=h.2
  cases ho:ops[y.1]? with
  |none=>rw [ho] at h2;cases h2
  |some o=>
   rw [ho] at h2;simp only [A59] at h2;obtain ⟨⟨⟨⟨g1,g2⟩,g3⟩,g4⟩,g5⟩:=h2;refine ⟨o,rfl,by simpa using g1,by simpa using g2,?_,?_,?_⟩
   ·
    split at g3
    ·
     rename_i t a k b e;simp only [A59,beq_iff_eq] at g3;obtain ⟨⟨⟨rfl,rfl⟩,rfl⟩,rfl⟩:=g3;exact e
    · cases g3
   ·
    obtain ⟨e,he,h3⟩:=Array.any_eq_true'.1 g4;simp only [A59,beq_iff_eq] at h3;exact ⟨e,he,h3.1,h3.2⟩
   ·
    intro c hc;rw [hc] at g5;simp only [A59] at g5;obtain ⟨e,he,h3⟩:=Array.any_eq_true'.1 g5.2;simp only [A59,beq_iff_eq] at h3;exact ⟨by simpa using g5.1,e,he,h3.1,h3.2⟩
 have b2:Keyed P K:=int_keyed hK;have a4:Ea work L0=work.length:=Ah9 (fun i hi=>(ab i hi).2);have cc:work.length=ins.length+calls.length+1:=by rw [<- hw];simp;omega
 let J:Array Bool->Act->World->Prop:=fun aa a w=>Ew md ops work L0 aa/\Fr Non w0 w/\∃b,a=Ch ops work (fun i=>if i=m then .map (some b) else .bool (cv i)) a0 aa/\
  (aa.getD m false=true->w0.heap.size<=b/\∃(D:DataW H) (n:Nat),w.ownsMap P K (plainElem P E) b n D/\n+Ea work aa<=work.length/\Says D (Fa ins bv aa))
 refine S8 work hn k J (fun aa a w hJ hp=>hJ.1.ready hS hp) ?_ ?_ work.length L0 a0 w0 ?_ a4
 ·
  rintro aa a w ⟨hR,hF,b,rfl,hM⟩ i bl hi;obtain ⟨ar,o,ho,af⟩:=mem_ready.1 bl;have ai:i<aa.size:=by rw [hR.size];exact (ab i hi).1
  have bb:=hR.next bl hi;have ca:=S7 hn hi ar;have bx:Ea work aa<=work.length:=List.length_filter_le _ _;unfold wpOp;rw [ho];simp only
  rcases bs i hi with rfl|hc|⟨y,hy,rfl⟩
  ·
   rw [bg] at ho
   cases ho
   have ac:Region.wanted om (yielded ops (Ch ops work (fun j=>if j=i then .map (some b) else .bool (cv j)) a0 aa).tmps)=true:=by unfold Region.wanted;rw [b5]
   rw [if_pos ac];left
   have az:∀y∈ins,aa.getD y.1 false=false:=by
    intro y hy;obtain ⟨_,_,o',al,_,_,_,⟨e,he,hb,bc⟩,_⟩:=aq y hy
    cases hv:aa.getD y.1 false with
    |false=>rfl
    |true=>
     have h1:=hR.shut y.1 (bk y hy) (by rw [E9 (Ku hv)];exact hv) o' al e he hb;rw [bc] at h1;rw [E9 ai,h1] at ar
     cases ar
   have ak:(execOp (Ch ops work (fun j=>if j=i then .map (some b) else .bool (cv j)) a0 aa).eval om).run P w=.ok (.value (.map (some w.heap.size))) (w.alloc (.map #[] 0)):=by
    simp [execOp,ba,run_makeMap]
   unfold Oper.wp;rw [ak,Oper.upon_value];have ah:=hF.alloc (.map #[] 0);refine ⟨hSw _ ah,bb,ah,w.heap.size,?_,fun _=>⟨hF.size,.map [],0,World.ownsMap_made w P K _,by omega,?_⟩⟩
   ·
    have e1:Ch ops work (fun j=>if j=i then .map (some b) else .bool (cv j)) a0 aa=Ch ops work (fun j=>if j=i then .map (some w.heap.size) else .bool (cv j)) a0 aa:=Ah3 (fun j hj hjl=>by
     have:j≠i:=by
      rintro rfl;rw [E9 ai,hjl] at ar
      cases ar
     simp only [if_neg this])
    rw [e1];have h:=Nz (work:=work) (val:=fun j=>if j=i then .map (some w.heap.size) else .bool (cv j)) (a0:=a0) bg (.inr ⟨sm,b6,ag⟩) ai;simpa using h
   ·
    rw [Td (fun y hy e=>a7 (A80 _ (List.mem_map.2 ⟨y,hy,e⟩))),Ah7 az];exact Says.empty
  ·
   obtain ⟨o',d,args,al,hd,hg,bp,ay,a1⟩:=hcalls i hc;have be:o'=o:=Option.some.inj (al.symm.trans ho);subst be;have ac:Region.wanted o' (yielded ops (Ch ops work (fun j=>if j=m then .map (some b) else .bool (cv j)) a0 aa).tmps)=true:=by unfold Region.wanted;rw [hg]
   rw [if_pos ac];left;have bf:i≠m:=fun e=>a7 (e▸A81 _ hc);have bt:∀y∈ins,y.1≠i:=fun y hy e=>b3 i hc y.1 (List.mem_map.2 ⟨y,hy,rfl⟩) e.symm;refine a1 _ w _ (Ah5 ay) hF (fun w' hf=> ?_);have ah:=hF.trans hf (fun _ _ h=>h);refine ⟨hSw _ ah,bb,ah,b,?_,fun ap=> ?_⟩
   ·
    have h:=Nz (work:=work) (val:=fun j=>if j=m then .map (some b) else .bool (cv j)) (a0:=a0) al (.inr ⟨d,hd,bp⟩) ai;rw [hd] at h;simpa [bf] using h
   ·
    rw [getD_set_ne false bf] at ap;obtain ⟨hb,D,n,ae,bi,ad⟩:=hM ap;refine ⟨hb,D,n,?_,by omega,?_⟩
    ·
     obtain ⟨es,ax,bh,a3⟩:=ae;exact ⟨es,ax,(hf.block b (Array.getElem?_eq_some_iff.1 bh).1 (fun h=>h)).trans bh,a3⟩
    ·
     rw [Td bt];exact ad
  ·
   obtain ⟨bn,br,o',al,hd,hg,bu,⟨e,he,b7,bc⟩,hval⟩:=aq y hy;have be:o'=o:=Option.some.inj (al.symm.trans ho);subst be;have ac:Region.wanted o' (yielded ops (Ch ops work (fun j=>if j=m then .map (some b) else .bool (cv j)) a0 aa).tmps)=true:=by unfold Region.wanted;rw [hg]
   rw [if_pos ac];left
   have ap:aa.getD m false=true:=by
    have:=af e he b7;rwa [bc] at this
   obtain ⟨hb,D,n,ae,bi,ad⟩:=hM ap
   have b4:(Ch ops work (fun j=>if j=m then .map (some b) else .bool (cv j)) a0 aa).eval (.tmp sm)=.map (some b):=by
    rw [Tc ag ap bm];simp
   have bz:(Ch ops work (fun j=>if j=m then .map (some b) else .bool (cv j)) a0 aa).eval (.tmp y.2.2)=.bool (bv y.2.2):=by
    have hv:=hvals y hy
    cases hs:Cj ops work y.2.2 with
    |none=>
     rw [hs] at hv;rw [Ta hs];exact hv
    |some c=>
     rw [hs] at hv;obtain ⟨bw,e',b1,a8,a5⟩:=hval c hs
     have b0:aa.getD c false=true:=by
      have:=af e' b1 a8;rwa [a5] at this
     have bo:c≠m:=fun e=>a7 (e▸A81 _ bw);rw [Tc hs b0 br];simp only [if_neg bo];rw [hv]
   obtain ⟨w',ak,au,bq⟩:=ae.update b2 hT (show n<maxLen from by
    have:n<=work.length:=by omega
    omega) (keyOf_int_mk hK bn) (plainElem_bool hE (bv y.2.2))
   have ah:Fr Non w0 w':=hF.grown bq (fun k' hk' hlt'=>by cases hk';omega)
   have aw:(execOp (Ch ops work (fun j=>if j=m then .map (some b) else .bool (cv j)) a0 aa).eval o').run P w=.ok .skip w':=by
    simp only [execOp,bu,b4,bz];have:(Ch ops work (fun j=>if j=m then .map (some b) else .bool (cv j)) a0 aa).eval (.const (.int .i64 y.2.1))=.int .i64 y.2.1:=rfl;rw [this];simp [ak]
   unfold Oper.wp;rw [aw,Oper.upon_skip];refine ⟨hSw _ ah,bb,ah,b,?_,fun _=>⟨hb,_,n+1,au,by omega,?_⟩⟩
   ·
    have h:=Nz (work:=work) (val:=fun j=>if j=m then .map (some b) else .bool (cv j)) (a0:=a0) al (.inl hd) ai;rw [hd] at h ⊢;exact h
   ·
    rw [Ah8 hy b8 hkeys ai];exact ad.put _ _
 ·
  rintro aa a w ⟨hR,hF,b,rfl,hM⟩ hp;have ao:=hR.done hp L1 (by rw [<- hL1];simp) (fun j hj=>by rw [<- hL1];simp [A60,hj]);subst ao
  have av:∀i∈work,aa.getD i false=true:=fun i hi=>by
   have ai:i<aa.size:=by rw [hR.size];exact (ab i hi).1
   rw [<- E9 ai,<- hL1];have bd:=(ab i hi).1;simp [A60,bd,hi]
  obtain ⟨hb,D,n,ae,bi,ad⟩:=hM (av m a9);refine hend b w D n hF hb ae (by omega) ?_
  have:Fa ins bv aa=fun x=>(ins.find? (fun y=>y.2.1==x)).map (fun y=>bv y.2.2):=by
   funext x;unfold Fa;have:∀y∈ins,(aa.getD y.1 false&&y.2.1==x)=(y.2.1==x):=fun y hy=>by rw [av y.1 (bk y hy),Bool.true_and]
   rw [Ah6 this]
  rw [<- this];exact ad
 ·
  refine ⟨aj,Fr.refl _ _,0,?_,fun h=> ?_⟩
  · exact (Ah2 (fun i hi=>by rw [<- E9 (ab i hi).1];exact (ab i hi).2)).symm
  ·
   rw [<- E9 (ab m a9).1,(ab m a9).2] at h
   cases h
end
theorem Te {H:Type} {P:Program} {l:List Oper} {md:Region.Mode} {Q:Exit->Act->World->Prop} {S:World->Prop} (m sm T K E:Nat) (calls:List Nat) (ins:List (Nat × Int × Nat)) (bv cv:Nat->Bool) (a0:Act) (L0 L1:Array Bool) (w0:World) (k:Nat)
  (hn:(m::(calls++ins.map (·.1))).Nodup) (hS:Hd md l.toArray (m::(calls++ins.map (·.1))) L0=true) (hL:N0 md l.toArray m sm T calls ins a0.tmps.size=true)
  (hL1:L0.mapIdx (fun j b=>(m::(calls++ins.map (·.1))).contains j||b)=L1)
  (hT:P.underlying T=some (.map K E)) (hK:P.underlying K=some (.int .i64)) (hE:P.underlying E=some .bool)
  (hcalls:∀c∈calls,∃(d:Nat) (op:Op) (ty:TypeId) (pos:String) (after:Array Edge) (args:Array Operand),l[c]? =some ⟨some d,op,ty,pos,after,none⟩/\Cj l.toArray (m::(calls++ins.map (·.1))) d=some c/\args.all (Iz l.toArray (m::(calls++ins.map (·.1))))=true/\
   ∀(a:Act) (w:World) (K':Act->World->Prop),args.map a.eval=args.map a0.eval->Fr Non w0 w->(∀w',Fr Non w w'->K' (a.put (some d) (.bool (cv c))) w')->Oper.wp P ⟨some d,op,ty,pos,after,none⟩ a w K' Q)
  (hvals:∀y∈ins,(Cj l.toArray (m::(calls++ins.map (·.1))) y.2.2=none/\a0.eval (.tmp y.2.2)=.bool (bv y.2.2))\/∃c,Cj l.toArray (m::(calls++ins.map (·.1))) y.2.2=some c/\cv c=bv y.2.2)
  (hSw:∀w,Fr Non w0 w->S w) (hmax:ins.length+calls.length+1<maxLen)
  (hend:∀(b:Nat) (w:World) (D:DataW H) (n:Nat),Fr Non w0 w->w0.heap.size<=b->w.ownsMap P K (plainElem P E) b n D->n<=ins.length+calls.length+1->Says D (fun x=>(ins.find? (fun y=>y.2.1==x)).map (fun y=>bv y.2.2))->
   wpAnyH P md l.toArray Q S k L1 (Ch l.toArray (m::(calls++ins.map (·.1))) (fun i=>if i=m then .map (some b) else .bool (cv i)) a0 L1) w):
  wpAnyH P md l.toArray Q S ((m::(calls++ins.map (·.1))).length+k) L0 a0 w0:=
 Ai0 m sm T K E calls ins bv cv a0 L0 L1 w0 k hn hS hL hL1 hT hK hE
  (fun c hc=>by
   obtain ⟨d,op,ty,pos,after,args,h1,h2,h3,h4⟩:=hcalls c hc;exact ⟨_,d,args,by rw [List.getElem?_toArray];exact h1,rfl,rfl,h2,h3,h4⟩)
  (fun y hy=>by
   rcases hvals y hy with ⟨h1,h2⟩|⟨c,h1,h2⟩
   · rw [h1];exact h2
   · rw [h1];exact h2)
  hSw hmax hend
theorem Tf {l:List Oper} {work:List Nat} {val:Nat->Value} {tl:List Value} {ds:List Deferred} {L:Array Bool} (tab:List (Option Nat)) (htab:(List.range tl.length).map (Cj l.toArray work)=tab) (hL:∀i∈work,L.getD i false=true):
  Ch l.toArray work val ⟨tl.toArray,ds⟩ L=⟨(List.zipWith (fun o v=>match o with|some i=>val i|none=>v) tab tl).toArray,ds⟩:=by
 unfold Ch
 have:Cw l.toArray work val L tl.toArray=(List.zipWith (fun o v=>match o with|some i=>val i|none=>v) tab tl).toArray:=by
  subst htab;apply Array.ext
  · simp [Cw]
  ·
   intro n h1 h2;simp only [Cw,A63,List.getElem_toArray,List.getElem_zipWith,List.getElem_map,List.getElem_range]
   cases hs:Cj l.toArray work n with
   |none=>rfl
   |some j=>simp only [hL j (Kv hs).1,if_true]
 rw [this]
theorem Tg {H:Type} {P:Program} {o:Oper} {a:Act} {w:World} {Q:Exit->Act->World->Prop} {next:Act->World->Prop} {m:Operand} {t k e:TypeId} {b n:Nat} {D:DataW H} {R:Value->Option (DataW H × List MemPlace)} (hop:o.op=.range t m) (hm:a.eval m=.map (some b)) (hown:w.ownsMap P k R b n D) (K:Keyed P k) (ht:P.underlying t=some (.map k e))
  (h:∀w',w'.ranges P k R b w.heap.size n D (has D) (size D)->w.grownBy w' none->w'.heap.size=w.heap.size+1->next (a.put o.dst (.pointer (some ⟨w.heap.size,0,none⟩))) w'):o.wp P a w next Q:=by
 obtain ⟨w',hrun,r1,r2,r3⟩:=hown.range K ht;unfold Oper.wp;simp [execOp,hop,hm,hrun];exact h w' r1 r2 r3
theorem Ai1 {H:Type} {P:Program} {e:TypeId} (he:P.underlying e=some .bool) {v:Value} {z:DataW H × List MemPlace} (h:plainElem P e v=some z):∃c,v=.bool c:=by
 unfold plainElem at h;rw [he] at h
 cases v<;>simp at h
 exact ⟨_,rfl⟩
def IsB {H:Type} (D:DataW H) (x:Int) (v:Value):Prop:=∃c,v=.bool c/\∀zd,D.atKey (.int .i64 x) zd=.lit (.bool c)
theorem Th {H:Type} {P:Program} (w:World) {ops:Array Oper} {rest:List Oper} {o:Oper} {a:Act} {Q:Exit->Act->World->Prop} (hg:o.guard=none) (it:Operand) (hop:o.op=Op.next it false) (k e:TypeId) (hk:P.underlying k=some (.int .i64)) (he:P.underlying e=some .bool)
  (b r n:Nat) (D:DataW H) (left:Lit->Bool) (cnt:Nat) (hit:a.eval it=.pointer (some ⟨r,0,none⟩)) (h:w.ranges P k (plainElem P e) b r n D left cnt)
  (hDone:cnt=0->(∀kl,left kl=false)->wpList P ops Q rest (a.put o.dst (.tuple #[.bool false])) w)
  (hMore:∀(x:Int) (v:Value) (w':World) (cnt':Nat),IsB D x v->left (.int .i64 x)=true->w'.ranges P k (plainElem P e) b r n D (fun z=>left z&& !z.sameKey (.int .i64 x)) cnt'->cnt'<cnt->
   w.grownBy w' (some r)->w'.heap.size=w.heap.size->(Instr.entry (.pointer (some ⟨r,0,none⟩))).run P w'=.ok (.tuple #[.int .i64 x,v]) w'->wpList P ops Q rest (a.put o.dst (.tuple #[.bool true,.int .i64 x,v])) w'):
  wpList P ops Q (o::rest) a w:=
 wpList_next_ranges w hg it hop k (int_keyed hk) (plainElem P e) (Value.int .i64) Value.bool (fun key kl hkey=>by obtain ⟨x,rfl,_⟩:=Go.Maps.keyOf_int_inv hk hkey;exact ⟨x,rfl⟩) (fun v y hv=>Ai1 he hv)
  b r n D left cnt hit h hDone (fun x c kl y w' cnt' hkey hlk hv hat hrg hlt hgr hsz hen=>by
   obtain ⟨x',ex,rfl,hwx⟩:=Go.Maps.keyOf_int_inv hk hkey
   cases ex
   rw [plainElem_bool he c] at hv
   cases hv
   exact hMore x (.bool c) w' cnt' ⟨c,rfl,hat⟩ hlk hrg hlt hgr hsz hen)
theorem Says.entry {H:Type} {D:DataW H} {f:Int->Option Bool} {x:Int} {v:Value} (h:Says D f) (hv:IsB D x v):∃c,v=.bool c/\f x=some c:=by
 obtain ⟨c,rfl,hat⟩:=hv;refine ⟨c,rfl,?_⟩;have h1:=has_true_of_atKey hat;rw [(h.2 x).1] at h1;obtain ⟨c',hc'⟩:=Option.isSome_iff_exists.1 h1;have h2:=((h.2 x).2 c' hc') (.lit (.bool c));rw [hat] at h2
 cases h2
 exact hc'
theorem Fr.ofGrown {w w':World} {row:Option Nat} (hg:w.grownBy w' row) (hr:∀k,row=some k->k<w.heap.size->Non k):Fr Non w w':=(Fr.refl Non w).grown hg hr
theorem H7 (a:Nat) (ha:a<65536):(BitVec.ofInt 64 (a:Int)).toNat=a:=Go.ofInt_u64 a (by omega)
theorem wrap_i64 (n:Nat) (h:n<9223372036854775808):IntKind.i64.wrap (n:Int)=(n:Int):=by
 simp [IntKind.wrap,IntKind.bits,IntKind.signed];omega
theorem Ai2 (a b:Nat) (ha:a<65536) (hb:b<65536):bits .or .i64 (a:Int) (b:Int)=((a|||b:Nat):Int):=by
 unfold bits;show IntKind.i64.wrap ((BitVec.ofInt 64 (a:Int)|||BitVec.ofInt 64 (b:Int)).toNat:Int)=_;rw [BitVec.toNat_or,H7 a ha,H7 b hb];have:a|||b<2^16:=Nat.or_lt_two_pow (by omega) (by omega);exact wrap_i64 _ (by omega)
theorem Ai3 (a b:Nat) (ha:a<65536) (hb:b<65536):bits .and .i64 (a:Int) (b:Int)=((a&&&b:Nat):Int):=by
 unfold bits;show IntKind.i64.wrap ((BitVec.ofInt 64 (a:Int)&&&BitVec.ofInt 64 (b:Int)).toNat:Int)=_;rw [BitVec.toNat_and,H7 a ha,H7 b hb];have:a&&&b<=a:=Nat.and_le_left;exact wrap_i64 _ (by omega)
theorem Ai4 (a b:Nat) (ha:a<65536) (hb:b<65536):bits .andNot .i64 (a:Int) (b:Int)=((a&&&(18446744073709551615-b):Nat):Int):=by
 unfold bits;show IntKind.i64.wrap ((BitVec.ofInt 64 (a:Int)&&&~~~ BitVec.ofInt 64 (b:Int)).toNat:Int)=_;rw [BitVec.toNat_and,BitVec.toNat_not,H7 a ha,H7 b hb];have e:(2^64-1-b:Nat)=18446744073709551615-b:=rfl;rw [e];have:a&&&(18446744073709551615-b)<=a:=Nat.and_le_left;exact wrap_i64 _ (by omega)
theorem Ai5 (a b:Nat) (ha:a<65536) (hb:b<65536):bits .andNot .i64 (a:Int) (b:Int)=0<->∀j,a.testBit j=true->b.testBit j=true:=by
 rw [Ai4 a b ha hb]
 have key:∀j,(a&&&(18446744073709551615-b)).testBit j=(a.testBit j&& !b.testBit j):=by
  intro j;rw [Nat.testBit_and]
  cases hj:a.testBit j with
  |false=>rfl
  |true=>
   have hlt:j<64:=by
    rcases A69 j 64 with h|h
    · exact h
    ·
     have:a<2^j:=A74 ha (Nat.le_trans (show 65536<=2^64 by decide) (Nat.pow_le_pow_right (by decide) h));rw [Nat.testBit_lt_two_pow this] at hj
     cases hj
   have:=Nat.testBit_two_pow_sub_succ (x:=b) (n:=64) (by omega) j;rw [show (18446744073709551615:Nat)-b=2^64-(b+1) by omega,this];simp [hlt]
 constructor
 ·
  intro h j hj;have h0:a&&&(18446744073709551615-b)=0:=Int.natCast_eq_zero.1 h;have:=key j;rw [h0,A75,hj] at this;simpa using this.symm
 ·
  intro h
  have h0:a&&&(18446744073709551615-b)=0:=A82 (fun j=>by
   rw [key j,A75]
   cases hj:a.testBit j with
   |false=>rfl
   |true=>rw [h j hj];rfl)
  rw [h0];rfl
theorem Ai6 (a j:Nat) (ha:a<65536) (hj:j<16):decide (bits .and .i64 (a:Int) ((2^j:Nat):Int)=0)=!a.testBit j:=by
 have hp:2^j<65536:=A74 (A83 (by decide) hj) (by decide);rw [Ai3 a _ ha hp]
 have e:a&&&2^j=if a.testBit j then 2^j else 0:=by
  apply A82;intro i;rw [Nat.testBit_and,A76]
  by_cases hij:j=i
  ·
   subst hij
   cases a.testBit j<;>simp
  · cases a.testBit j<;>simp [hij]
 rw [e];have h0:0<2^j:=Nat.two_pow_pos j;generalize 2^j=p at*
 cases a.testBit j
 · simp
 · exact decide_eq_false (fun h=>by have:=Int.natCast_eq_zero.1 h;simp only [if_true] at this;omega)
end
namespace Oq
attribute [local go_sem] A77 A67
theorem Eb (n lo hi:Int) (w:World):Calls zp 176 #[.int .i64 n,.int .i64 lo,.int .i64 hi] w (Ae (inR n lo hi) w):=by
 obtain ⟨b,hb⟩:=Ab (inR n lo hi);rw [hb.out];have hb':=hb.out;unfold inR at hb'
 rcases zb (decide (lo<=n)) with h1|h1<;>rcases zb (decide (n<=hi)) with h2|h2
 all_goals
  rw [h1,h2] at hb';have hbb:=lh hb';clear hb hb';go_enter func176,ntmps176;go_wp2
  go_ret
  exact ⟨zeB hbb.out,Fr.refl _ _⟩
theorem Kw (n:Nat) (w:World):Calls zp 178 #[.int .u64 (n:Int)] w (Ae (Dc n) w):=by
 obtain ⟨b,hb⟩:=Ab (Dc n);rw [hb.out];obtain ⟨p,hp⟩:=Ab (2305843009213693951:Int)
 have hb':(decide ((1:Int)<=n)&&decide ((n:Int)<p))=b:=by
  rw [<- hb.out,<- hp.out];unfold Dc FP;rw [A68];simp;omega
 rcases zb (decide ((1:Int)<=n)) with h1|h1<;>rcases zb (decide ((n:Int)<p)) with h2|h2
 all_goals
  rw [h1,h2] at hb';have hbb:=lh hb';clear hb hb';go_enter func178,ntmps178;rw [hp.out];clear hp;go_wp2
  go_ret
  exact ⟨zeB hbb.out,Fr.refl _ _⟩
theorem Ky (n:Nat) (w:World):Calls zp 186 #[.int .u64 (n:Int)] w (Ae (fOk n) w):=by
 obtain ⟨b,hb⟩:=Ab (fOk n);rw [hb.out];obtain ⟨p,hp⟩:=Ab (2305843009213693951:Int)
 have hb':decide ((n:Int)<p)=b:=by
  rw [<- hb.out,<- hp.out];unfold fOk FP;rw [A68];simp;omega
 have hbb:=lh hb';clear hb hb';go_enter func186,ntmps186;rw [hp.out];clear hp;go_wp2
 go_ret
 exact ⟨zeB hbb.out,Fr.refl _ _⟩
theorem Kz (x:Id) (w:World):Calls zp 177 #[.agg x.V] w (Ae x.named w):=by
 have hb0:=Blk.new w 45 x.V;have f0:Fr Non w (w.alloc (.cells x.V 45)):=(Fr.refl Non w).alloc _;have k1:=lh (fun w'=>Eb x.b 1 12 w');have k2:=lh (fun w'=>Eb x.s 1 2147483647 w');have k3:=lh (fun w'=>Ky x.u w');have hfin:Hid (x.named=(inR x.b 1 12&&inR x.s 1 2147483647&&fOk x.u)):=rfl;rw [hfin.out];clear hfin;generalize inR x.b 1 12=b1 at*;generalize inR x.s 1 2147483647=b2 at*;generalize fOk x.u=b3 at*
 cases b1<;>cases b2
 all_goals
  go_enter func177,ntmps177
  go_wp2_with (first
   |(go_at_call 176;(with_reducible refine (k1.out _).mono ?_);rintro _ w1 ⟨rfl,f1⟩;have hb1:=hb0.fr f1 zq;have c1:=hb1.cell 1;have fz1:=f0.trans f1 zr;clear k1)
   |(go_at_call 176;(with_reducible refine (k2.out _).mono ?_);rintro _ w2 ⟨rfl,f2⟩;have hb2:=hb1.fr f2 zq;have c2:=hb2.cell 2;have fz2:=fz1.trans f2 zr;clear k2)
   |(go_at_call 186;(with_reducible refine (k3.out _).mono ?_);rintro _ w3 ⟨rfl,f3⟩;have fz3:=fz2.trans f3 zr;clear k3))
  go_ret
  first|exact ⟨rfl,fz3⟩|exact ⟨rfl,fz2⟩|exact ⟨rfl,fz1⟩
end Oq
section
open Go.RowKit Go.Maps
namespace Oq
attribute [local go_sem] A77 A67
attribute [local go_sem ↓] Fz
theorem Ti (x:Id) (w:World):(Op.equalIn 10000 45 (.agg x.V) (.agg #[.int .i64 0,.int .i64 0,.int .u64 0])).run zp w=.ok (Id.eq x Id.zero) w:=Fz x Id.zero w
attribute [local go_sem ↓] Ti
def OpL.presB (x:OpL) (j:Nat):Bool:=match j with
 |0=>(x.dev !=0)
 |1=>(x.old !=0)
 |2=>(x.mem !=0)
 |3=>(x.role !=0)
 |4=>decide (0<x.path.length)
 |5=>(!Id.eq x.epoch Id.zero)
 |6=>(x.n !=0)
 |7=>decide (0<x.body.length)
 |8=>decide (0<x.refs.length)
 |9=>(!Id.eq x.of Id.zero)
 |10=>decide (0<x.guards.length)
 |11=>(x.need !=0)
 |12=>(x.wait !=0)
 |13=>decide (0<x.boxes.length)
 |14=>((x.pub:Int) !=0)
 |15=>decide (0<x.hist.length)
 |_=>false
def RB (pb:Nat->Bool) (left:Lit->Bool) (n:Nat):Prop:=∀j,n.testBit j=(decide (j<16)&& !left (.int .i64 ((2^j:Nat):Int))&&pb j)
theorem RB.start {pb:Nat->Bool} {left:Lit->Bool} (h:∀j,j<16->left (.int .i64 ((2^j:Nat):Int))=true):RB pb left 0:=by
 intro j;rw [A75]
 by_cases hj:j<16
 · rw [h j hj];simp
 · simp [hj]
theorem RB.lt {pb:Nat->Bool} {left:Lit->Bool} {n:Nat} (h:RB pb left n):n<65536:=by
 have:n<2^16:=Nat.lt_pow_two_of_testBit n (fun j hj=>by
  have h1:¬j<16:=by omega
  rw [h j];simp [h1])
 omega
theorem RB.done {pb:Nat->Bool} {left:Lit->Bool} {n:Nat} (h:RB pb left n) (hl:∀kl,left kl=false) (hp:∀j,16<=j->pb j=false):∀j,n.testBit j=pb j:=by
 intro j;rw [h j,hl]
 by_cases hj:j<16
 · simp [hj]
 · rw [hp j (by omega)];simp
theorem Tj {i j:Nat} (h:i≠j):(Lit.int .i64 ((2^i:Nat):Int)).sameKey (.int .i64 ((2^j:Nat):Int))=false:=by
 apply sameKey_ne;intro e
 cases h3:Nat.decEq i j with
 |isTrue e2=>exact h e2
 |isFalse _=>
  have e2:((2^i:Nat):Int)=((2^j:Nat):Int):=by injection e
  exact h ((Nat.pow_right_inj (by decide)).1 (Int.ofNat.inj e2))
theorem RB.step {pb:Nat->Bool} {left:Lit->Bool} {n j:Nat} (h:RB pb left n) (hj:j<16) (hl:left (.int .i64 ((2^j:Nat):Int))=true):
  RB pb (fun z=>left z&& !z.sameKey (.int .i64 ((2^j:Nat):Int))) (if pb j then n|||2^j else n):=by
 intro i;have h0:=h j;rw [hl] at h0
 by_cases hij:i=j
 ·
  subst hij;have e:(Lit.int .i64 ((2^i:Nat):Int)).sameKey (.int .i64 ((2^i:Nat):Int))=true:=WideAt.sameKey_self (by simp [WideAt.IsKeyLit]);show _=(decide (i<16)&& !(left (.int .i64 ((2^i:Nat):Int))&& !(Lit.int .i64 ((2^i:Nat):Int)).sameKey (.int .i64 ((2^i:Nat):Int)))&&pb i);rw [e,hl]
  cases hp:pb i
  ·
   simp only [Bool.false_eq_true,if_false];rw [h0];simp
  ·
   simp only [if_true];rw [Nat.testBit_or,A76];simp [hj]
 ·
  show _=(decide (i<16)&& !(left (.int .i64 ((2^i:Nat):Int))&& !(Lit.int .i64 ((2^i:Nat):Int)).sameKey (.int .i64 ((2^j:Nat):Int)))&&pb i);rw [Tj hij];have h1:(decide (i<16)&& !(left (.int .i64 ((2^i:Nat):Int))&& !false)&&pb i)=n.testBit i:=by rw [h i];simp
  rw [h1]
  cases hp:pb j
  · rfl
  ·
   simp only [if_true];rw [Nat.testBit_or,A76];simp [Ne.symm hij]
def presIns:List (Nat × Int × Nat):=[(4,(1:Int),9),(8,(2:Int),12),(12,(4:Int),15),(16,(8:Int),18),(21,(16:Int),22),(26,(32:Int),26),(30,(64:Int),29),(35,(128:Int),33),(40,(256:Int),37),(45,(512:Int),41),(50,(1024:Int),45),(54,(2048:Int),48),(58,(4096:Int),51),(63,(8192:Int),55),(67,(16384:Int),58),(72,(32768:Int),62)]
def Tk (x:OpL) (t:Nat):Bool:=match t with
 |9=>x.presB 0
 |12=>x.presB 1
 |15=>x.presB 2
 |18=>x.presB 3
 |22=>x.presB 4
 |26=>x.presB 5
 |29=>x.presB 6
 |33=>x.presB 7
 |37=>x.presB 8
 |41=>x.presB 9
 |45=>x.presB 10
 |48=>x.presB 11
 |51=>x.presB 12
 |55=>x.presB 13
 |58=>x.presB 14
 |62=>x.presB 15
 |_=>false
theorem Ai7 (x:OpL):∀y∈presIns,∃j,j<16/\y.2.1=((2^j:Nat):Int)/\Tk x y.2.2=x.presB j:=by
 unfold presIns;refine List.forall_mem_cons.2 ⟨⟨0,by decide,rfl,rfl⟩,?_⟩;refine List.forall_mem_cons.2 ⟨⟨1,by decide,rfl,rfl⟩,?_⟩;refine List.forall_mem_cons.2 ⟨⟨2,by decide,rfl,rfl⟩,?_⟩;refine List.forall_mem_cons.2 ⟨⟨3,by decide,rfl,rfl⟩,?_⟩;refine List.forall_mem_cons.2 ⟨⟨4,by decide,rfl,rfl⟩,?_⟩;refine List.forall_mem_cons.2 ⟨⟨5,by decide,rfl,rfl⟩,?_⟩;refine List.forall_mem_cons.2 ⟨⟨6,by decide,rfl,rfl⟩,?_⟩;refine List.forall_mem_cons.2 ⟨⟨7,by decide,rfl,rfl⟩,?_⟩;refine List.forall_mem_cons.2 ⟨⟨8,by decide,rfl,rfl⟩,?_⟩;refine List.forall_mem_cons.2 ⟨⟨9,by decide,rfl,rfl⟩,?_⟩;refine List.forall_mem_cons.2 ⟨⟨10,by decide,rfl,rfl⟩,?_⟩;refine List.forall_mem_cons.2 ⟨⟨11,by decide,rfl,rfl⟩,?_⟩;refine List.forall_mem_cons.2 ⟨⟨12,by decide,rfl,rfl⟩,?_⟩;refine List.forall_mem_cons.2 ⟨⟨13,by decide,rfl,rfl⟩,?_⟩;refine List.forall_mem_cons.2 ⟨⟨14,by decide,rfl,rfl⟩,?_⟩;refine List.forall_mem_cons.2 ⟨⟨15,by decide,rfl,rfl⟩,?_⟩;exact fun y hy=>absurd hy (by simp)
theorem Ai8:∀j,j<16->(presIns.find? (fun y=>y.2.1==((2^j:Nat):Int))).isSome=true:=by decide
theorem N1 (x:OpL):∀j,16<=j->x.presB j=false:=by
 intro j hj;unfold OpL.presB
 split<;>first|rfl|omega
def Tl (x:OpL) (w:World) (e:Ending) (w':World):Prop:=∃n:Nat,e=.returned (.int .i64 (n:Int))/\(∀j,n.testBit j=x.presB j)/\Fr Non w w'
theorem Ai9 (x:OpL) (w:World):Calls zp 145 #[.agg x.cells] w (Tl x w):=by
 have aa:=Blk.new w 52 x.cells;have f0:Fr Non w (w.alloc (.cells x.cells 52)).drew:=((Fr.refl Non w).alloc _).drew
 have hS:(fun w'=>cI w' w.heap.size 5 x.dev/\cI w' w.heap.size 6 x.old/\cI w' w.heap.size 7 x.mem/\cI w' w.heap.size 8 x.role/\cS w' w.heap.size 9 x.pathA x.path.length x.pathC/\cI w' w.heap.size 10 x.epoch.b/\cI w' w.heap.size 11 x.epoch.s/\cU w' w.heap.size 12 x.epoch.u/\cI w' w.heap.size 13 x.n/\cS w' w.heap.size 14 x.bodyA x.body.length x.bodyC/\cS w' w.heap.size 15 x.refsA x.refs.length x.refsC/\cI w' w.heap.size 16 x.of.b/\cI w' w.heap.size 17 x.of.s/\cU w' w.heap.size 18 x.of.u/\cS w' w.heap.size 19 x.guardsA x.guards.length x.guardsC/\cI w' w.heap.size 20 x.need/\cI w' w.heap.size 21 x.wait/\cS w' w.heap.size 22 x.boxesA x.boxes.length x.boxesC/\cU w' w.heap.size 23 x.pub/\cS w' w.heap.size 24 x.histA x.hist.length x.histC) (w.alloc (.cells x.cells 52)).drew:=by
  and_intros
  · exact aa.cell 5
  · exact aa.cell 6
  · exact aa.cell 7
  · exact aa.cell 8
  · exact aa.cell 9
  · exact aa.cell 10
  · exact aa.cell 11
  · exact aa.cell 12
  · exact aa.cell 13
  · exact aa.cell 14
  · exact aa.cell 15
  · exact aa.cell 16
  · exact aa.cell 17
  · exact aa.cell 18
  · exact aa.cell 19
  · exact aa.cell 20
  · exact aa.cell 21
  · exact aa.cell 22
  · exact aa.cell 23
  · exact aa.cell 24
 generalize hpb:x.presB=pb;have bn:∀j,pb j=x.presB j:=fun j=>by rw [hpb]
 generalize x.cells=CS at*;clear aa;go_enter func145,ntmps145;go_upto_region 2 with (fail)
 refine wp_region_held_drew (S:=fun w'=>cI w' w.heap.size 5 x.dev/\cI w' w.heap.size 6 x.old/\cI w' w.heap.size 7 x.mem/\cI w' w.heap.size 8 x.role/\cS w' w.heap.size 9 x.pathA x.path.length x.pathC/\cI w' w.heap.size 10 x.epoch.b/\cI w' w.heap.size 11 x.epoch.s/\cU w' w.heap.size 12 x.epoch.u/\cI w' w.heap.size 13 x.n/\cS w' w.heap.size 14 x.bodyA x.body.length x.bodyC/\cS w' w.heap.size 15 x.refsA x.refs.length x.refsC/\cI w' w.heap.size 16 x.of.b/\cI w' w.heap.size 17 x.of.s/\cU w' w.heap.size 18 x.of.u/\cS w' w.heap.size 19 x.guardsA x.guards.length x.guardsC/\cI w' w.heap.size 20 x.need/\cI w' w.heap.size 21 x.wait/\cS w' w.heap.size 22 x.boxesA x.boxes.length x.boxesC/\cU w' w.heap.size 23 x.pub/\cS w' w.heap.size 24 x.histA x.hist.length x.histC) (by kernel_rfl) hS (fun hHeld=> ?_);clear hHeld;simp only [List.append_eq,List.cons_append,List.nil_append];generalize (w.alloc (.cells CS 52)).drew=w0 at*;refine tkN 1 3 hS (h:=tkN 5 3 hS (h:=tkN 9 3 hS (h:=tkN 13 3 hS (h:=tkN 17 4 hS (h:=tkN 22 4 hS (h:=?_))))));refine tkN 27 3 hS (h:=tkN 31 4 hS (h:=tkN 36 4 hS (h:=tkN 41 4 hS (h:=tkN 46 4 hS (h:=tkN 51 3 hS (h:=?_))))));refine tkN 55 3 hS (h:=tkN 59 4 hS (h:=tkN 64 3 hS (h:=tkN 68 4 hS (h:=?_))));refine Te (H:=Nat) 0 6 236 3 4 [] presIns (Tk x) (fun _=>false) _ _ ((Array.replicate 75 true).setIfInBounds 73 false|>.setIfInBounds 74 false) w0 2 (by decide) (by kernel_rfl) (by kernel_rfl) (by kernel_rfl) underlying236 underlying3 underlying4 (fun c hc=>absurd hc (by simp)) ?_ ?_ (by decide) ?_
 ·
  unfold presIns;refine List.forall_mem_cons.2 ⟨Or.inl ⟨by kernel_rfl,rfl⟩,?_⟩;refine List.forall_mem_cons.2 ⟨Or.inl ⟨by kernel_rfl,rfl⟩,?_⟩;refine List.forall_mem_cons.2 ⟨Or.inl ⟨by kernel_rfl,rfl⟩,?_⟩;refine List.forall_mem_cons.2 ⟨Or.inl ⟨by kernel_rfl,rfl⟩,?_⟩;refine List.forall_mem_cons.2 ⟨Or.inl ⟨by kernel_rfl,rfl⟩,?_⟩;refine List.forall_mem_cons.2 ⟨Or.inl ⟨by kernel_rfl,rfl⟩,?_⟩;refine List.forall_mem_cons.2 ⟨Or.inl ⟨by kernel_rfl,rfl⟩,?_⟩;refine List.forall_mem_cons.2 ⟨Or.inl ⟨by kernel_rfl,rfl⟩,?_⟩;refine List.forall_mem_cons.2 ⟨Or.inl ⟨by kernel_rfl,rfl⟩,?_⟩;refine List.forall_mem_cons.2 ⟨Or.inl ⟨by kernel_rfl,rfl⟩,?_⟩;refine List.forall_mem_cons.2 ⟨Or.inl ⟨by kernel_rfl,rfl⟩,?_⟩;refine List.forall_mem_cons.2 ⟨Or.inl ⟨by kernel_rfl,rfl⟩,?_⟩;refine List.forall_mem_cons.2 ⟨Or.inl ⟨by kernel_rfl,rfl⟩,?_⟩;refine List.forall_mem_cons.2 ⟨Or.inl ⟨by kernel_rfl,rfl⟩,?_⟩;refine List.forall_mem_cons.2 ⟨Or.inl ⟨by kernel_rfl,rfl⟩,?_⟩;refine List.forall_mem_cons.2 ⟨Or.inl ⟨by kernel_rfl,rfl⟩,?_⟩;exact fun y hy=>absurd hy (by simp)
 ·
  intro w' hf;obtain ⟨q5,q6,q7,q8,q9,ah,aj,ay,ao,ap,av,ai,ar,au,aw,aq,ak,a0,az,al⟩:=hS
  and_intros<;>first|exact hf.cell q5 zq|exact hf.cell q6 zq|exact hf.cell q7 zq|exact hf.cell q8 zq|exact hf.cell q9 zq|exact hf.cell ah zq|exact hf.cell aj zq|exact hf.cell ay zq|exact hf.cell ao zq|exact hf.cell ap zq|exact hf.cell av zq|exact hf.cell ai zq|exact hf.cell ar zq|exact hf.cell au zq|exact hf.cell aw zq|exact hf.cell aq zq|exact hf.cell ak zq|exact hf.cell a0 zq|exact hf.cell az zq|exact hf.cell al zq
 ·
  intro b w1 D n hF hb a3 hn af;rw [Tf ([none,none,none,none,none,none,some 0,none,none,none,none,none,none,none,none,none,none,none,none,none,none,none,none,none,none,none,none,none,none,none,none,none,none,none,none,none,none,none,none,none,none,none,none,none,none,none,none,none,none,none,none,none,none,none,none,none,none,none,none,none,none,none,none,none,none,none,none,none,none,none,none,none,none,none,none]) (by kernel_rfl) (by decide)];dsimp only [List.zipWith_cons_cons,List.zipWith_nil_left];simp only [if_true]
  have a1:(fun w'=>cI w' w.heap.size 5 x.dev/\cI w' w.heap.size 6 x.old/\cI w' w.heap.size 7 x.mem/\cI w' w.heap.size 8 x.role/\cS w' w.heap.size 9 x.pathA x.path.length x.pathC/\cI w' w.heap.size 10 x.epoch.b/\cI w' w.heap.size 11 x.epoch.s/\cU w' w.heap.size 12 x.epoch.u/\cI w' w.heap.size 13 x.n/\cS w' w.heap.size 14 x.bodyA x.body.length x.bodyC/\cS w' w.heap.size 15 x.refsA x.refs.length x.refsC/\cI w' w.heap.size 16 x.of.b/\cI w' w.heap.size 17 x.of.s/\cU w' w.heap.size 18 x.of.u/\cS w' w.heap.size 19 x.guardsA x.guards.length x.guardsC/\cI w' w.heap.size 20 x.need/\cI w' w.heap.size 21 x.wait/\cS w' w.heap.size 22 x.boxesA x.boxes.length x.boxesC/\cU w' w.heap.size 23 x.pub/\cS w' w.heap.size 24 x.histA x.hist.length x.histC) w1:=by
   obtain ⟨q5,q6,q7,q8,q9,ah,aj,ay,ao,ap,av,ai,ar,au,aw,aq,ak,a0,az,al⟩:=hS
   and_intros<;>first|exact hF.cell q5 zq|exact hF.cell q6 zq|exact hF.cell q7 zq|exact hF.cell q8 zq|exact hF.cell q9 zq|exact hF.cell ah zq|exact hF.cell aj zq|exact hF.cell ay zq|exact hF.cell ao zq|exact hF.cell ap zq|exact hF.cell av zq|exact hF.cell ai zq|exact hF.cell ar zq|exact hF.cell au zq|exact hF.cell aw zq|exact hF.cell aq zq|exact hF.cell ak zq|exact hF.cell a0 zq|exact hF.cell az zq|exact hF.cell al zq
  refine Mv (i:=73) (v:=?_) rfl (by kernel_rfl) (by kernel_rfl) (by kernel_rfl) (fun _ _ _ h=>h) (Or.inl ⟨by kernel_rfl,?_⟩) a1 ?_;rotate_left
  focus (intro w' a1;go_simp;(try with_reducible rfl))
  simp only [zl];refine Qn 74 (by kernel_rfl) rfl (fun K hK=> ?_);refine Tg rfl rfl a3 (int_keyed underlying3) underlying236 ?_;intro w2 ag bg bo;have bl:Fr Non w w2:=(f0.trans hF zr).trans (Fr.ofGrown bg (fun k hk=>by cases hk)) zr;refine hK.out _ _ ?_ (fun _=> ?_)
  ·
   have ab:=Fr.ofGrown bg (fun k hk=>by cases hk);obtain ⟨q5,q6,q7,q8,q9,ah,aj,ay,ao,ap,av,ai,ar,au,aw,aq,ak,a0,az,al⟩:=a1
   and_intros<;>first|exact ab.cell q5 zq|exact ab.cell q6 zq|exact ab.cell q7 zq|exact ab.cell q8 zq|exact ab.cell q9 zq|exact ab.cell ah zq|exact ab.cell aj zq|exact ab.cell ay zq|exact ab.cell ao zq|exact ab.cell ap zq|exact ab.cell av zq|exact ab.cell ai zq|exact ab.cell ar zq|exact ab.cell au zq|exact ab.cell aw zq|exact ab.cell aq zq|exact ab.cell ak zq|exact ab.cell a0 zq|exact ab.cell az zq|exact ab.cell al zq
  clear hK K;rw [Ah];simp only [zl];refine oD ?_;clear a1 hS;have a2:=(f0.trans hF zr).size;go_simp;go_wp2_with fail
  go_loopw [3] (fun v wr=>∃(nn:Nat) (ad:Lit->Bool) (a8:Nat),v=.int .i64 (nn:Int)/\wr.ranges zp 3 (plainElem zp 4) b w1.heap.size n D ad a8/\Hid (RB x.presB ad nn)/\Fr Non w wr) (fun _ wr=>wr.rangeLeft b w1.heap.size)
  case atStart=>exact ⟨0,_,_,rfl,ag,RB.start (fun j hj=>by rw [(af.2 _).1,Option.isSome_map];exact Ai8 j hj),bl⟩
  case round=>
   obtain ⟨nn,ad,a8,rfl,ag,a7,hF⟩:=hrel
   go_wp2_with (first
    |(at_next;refine Th _ rfl _ rfl 3 4 underlying3 underlying4 b w1.heap.size n D ad a8 rfl ag ?_ ?_)
    |go_in)
   ·
    intro bh bi;have hd:=RB.done a7 bi (N1 x);subst bh;clear ag;go_wp2_with fail
    go_ret
    exact ⟨nn,rfl,hd,hF⟩
   ·
    intro k v w3 ax hv a9 ae a5 a6 bm bj;obtain ⟨c,rfl,bb⟩:=af.entry hv;obtain ⟨y,a4,bd⟩:=Option.map_eq_some_iff.1 bb;have ba:=A71 a4;obtain ⟨j,hj,hk,bc⟩:=Ai7 x y (A72 a4);obtain rfl:y.2.1=k:=by simpa using ba
    rw [hk] at a9 ae bj ⊢;have hc:x.presB j=c:=by rw [<- bc,bd]
    have ac:=lh (RB.step a7 hj a9);have bk:=RB.lt a7;rw [hc] at ac;have bf:Fr Non w w3:=hF.trans (S':=fun k=>some w1.heap.size=some k) (Fr.grown (Fr.refl _ _) a6 (fun k hk _=>hk)) (fun i hi e=>by cases e;have:=a2;omega);have be:w3.rangeLeft b w1.heap.size<wr.rangeLeft b w1.heap.size:=by rw [ae.left_eq,ag.left_eq];exact a5
    have hp:2^j<65536:=A74 (A83 (by decide) hj) (by decide);have bp:=Ai2 nn (2^j) bk hp;generalize hpj:((2^j:Nat):Int)=pj at*;clear hv bb a4 bd ba hk bc ag
    cases c
    ·
     go_wp2_with fail;exact ⟨⟨nn,_,ax,rfl,ae,ac,bf⟩,be⟩
    ·
     go_wp2_with fail;exact ⟨⟨nn|||2^j,_,ax,rfl,ae,ac,bf⟩,be⟩
end Oq
end
namespace Oq
attribute [local go_sem] A77 A67
theorem Gx {α:Type} (l:List α) (q:α->Bool) {k:Nat} {x:α} (h:l[k]? =some x):(l.take (k+1)).any q=((l.take k).any q||q x):=by
 obtain ⟨hk,rfl⟩:=List.getElem?_eq_some_iff.1 h;rw [List.take_succ_eq_append_getElem hk,List.any_append];simp
theorem Gy {α:Type} (l:List α) (p:α->Bool):l.all p=!l.any (fun x=> !p x):=by
 induction l with
 |nil=>rfl
 |cons x r ih=>rw [List.all_cons,List.any_cons,ih];cases p x<;>simp
theorem Aj0 (gm:Nat) (b:Bool) (x:Int) (w:World) (hg:Blk w gm 154 #[.func (.func 183) #[] #[]]) (hmay:Hid (∀w':World,Fr Non w w'->Calls zp 183 #[.int .i64 x] w' (Ae b w'))):
  Calls zp 216 #[.int .i64 x,.pointer (some ⟨gm,0,none⟩)] w (Ae (!b) w):=by
 have c0:=hg.cell 0;go_enter func216,ntmps216;go_wp2_with fail;refine (hmay.out _ (Fr.refl _ _)).mono ?_;rintro _ w1 ⟨rfl,f1⟩
 cases b
 all_goals
  go_wp2
  go_ret
  exact ⟨rfl,f1⟩
theorem Aj1 (B n c gm:Nat) (A:Option Addr) (l:List Int) (p:Int->Bool) (w:World) (hn:Hid (l.length=n)) (hr:Rd w B 1 A n (l.map Iv)) (hnm:n<=1000000) (hg:Blk w gm 154 #[.func (.func 183) #[] #[]])
  (hmay:Hid (∀x∈l,∀w':World,Fr Non w w'->Calls zp 183 #[.int .i64 x] w' (Ae (p x) w'))):
  Calls zp 232 #[.slice A n c,.func (.func 216) #[] #[.pointer (some ⟨gm,0,none⟩)]] w fun e w'=>∃i:Int,e=.returned (.int .i64 i)/\decide (i>=0)=l.any (fun x=> !p x)/\Fr Non w w':=by
 go_enter func232,ntmps232;go_wp2
 go_loopw [8] (fun v wr=>∃k:Nat,v=.int .i64 (k:Int)/\k<=n/\Hid ((l.take k).any (fun x=> !p x)=false)/\Fr Non w wr) (fun v _=>n-(intOf v).toNat)
 case atStart=>exact ⟨0,rfl,by omega,rfl,Fr.refl _ _⟩
 case round=>
  obtain ⟨k,rfl,hk,hh,hf⟩:=hrel
  by_cases hlt:k<n
  ·
   obtain ⟨i1,i2,i3⟩:=ix k n
   obtain ⟨b,off,u,rfl,hbB,hu,k0⟩:=((hr.fr hf zr)).at hlt;rw [A84] at hu;obtain ⟨x,hx,rfl⟩:=Option.map_eq_some_iff.1 hu;replace k0:cI wr b (off+k) x:=k0;have hmem:=A61 hx;have hsn:Hid ((l.take (k+1)).any (fun x=> !p x)=((l.take k).any (fun x=> !p x)|| !p x)):=Gx l (fun x=> !p x) hx;have hc:=lh (Aj0 gm (p x) x wr (hg.fr hf zq) (fun w' h=>hmay.out x hmem w' (hf.trans h zr)));have hall:Hid ((!p x)=true->l.any (fun x=> !p x)=true):=fun h=>List.any_eq_true.2 ⟨x,hmem,h⟩;clear hx hmem
   rcases zb (p x) with hp|hp
   ·
    rw [hp] at hc hsn;go_wp2_with (go_at_call 216;(with_reducible refine (hc.out).mono ?_);rintro _ w1 ⟨rfl,f1⟩);go_roundw
    case rel=>exact ⟨k+1,by go_num,by omega,by show _=_;rw [hsn.out,hh.out];rfl,hf.trans f1 zr⟩
    case measure=>simp [intOf];omega
   ·
    rw [hp] at hc hall;go_wp2_with (go_at_call 216;(with_reducible refine (hc.out).mono ?_);rintro _ w1 ⟨rfl,f1⟩)
    go_ret
    exact ⟨k,rfl,by rw [hall.out rfl];exact decide_eq_true (by omega),hf.trans f1 zr⟩
  ·
   obtain rfl:k=n:=by omega
   have hfin:l.any (fun x=> !p x)=false:=by have h:=hh.out;rw [A62 (by rw [hn.out];omega)] at h;exact h
   go_wp2
   go_ret
   exact ⟨-1,rfl,by rw [hfin];rfl,hf⟩
theorem Aj2 (B n c:Nat) (A:Option Addr) (l:List Int) (p:Int->Bool) (w:World) (hn:Hid (l.length=n)) (hr:Rd w B 1 A n (l.map Iv)) (hnm:n<=1000000)
  (hmay:Hid (∀x∈l,∀w':World,Fr Non w w'->Calls zp 183 #[.int .i64 x] w' (Ae (p x) w'))):
  Calls zp 184 #[.slice A n c,.func (.func 183) #[] #[]] w (Ae (l.all p) w):=by
 have hb0:=Blk.new w 154 #[.func (.func 183) #[] #[]];have f0:Fr Non w (w.alloc (.cells #[.func (.func 183) #[] #[]] 154)):=(Fr.refl Non w).alloc _;have hix:=lh (Aj1 B n c w.heap.size A l p _ hn (hr.fr f0 zr) hnm hb0 (fun x hx w' h=>hmay.out x hx w' (f0.trans h zr)));have hall:Hid (l.all p=!l.any (fun x=> !p x)):=Gy l p;rw [hall.out];clear hall;generalize l.any (fun x=> !p x)=b at*
 have hcf:Hid (Calls zp 215 #[.slice A n c,.func (.func 216) #[] #[.pointer (some ⟨w.heap.size,0,none⟩)]] (w.alloc (.cells #[.func (.func 183) #[] #[]] 154)) (Ae b (w.alloc (.cells #[.func (.func 183) #[] #[]] 154)))):=by
  show Calls _ _ _ _ _;clear hb0 f0;generalize w.alloc (.cells #[.func (.func 183) #[] #[]] 154)=w0 at*;go_enter func215,ntmps215;go_wp2_with fail;refine (hix.out).mono ?_;rintro _ w1 ⟨i,rfl,hi,f1⟩;go_wp2
  go_ret
  first|exact ⟨rfl,f1⟩|exact ⟨zeB hi,f1⟩
 clear hix;go_enter func184,ntmps184;go_wp2_with fail;refine (hcf.out).mono ?_;rintro _ w1 ⟨rfl,f1⟩
 cases b
 all_goals
  go_wp2
  go_ret
  exact ⟨rfl,f0.trans f1 zr⟩
theorem Aj3 (gm:Nat) (b:Bool) (x:Nat) (w:World) (hg:Blk w gm 218 #[.func (.func 186) #[] #[]]) (hmay:Hid (∀w':World,Fr Non w w'->Calls zp 186 #[.int .u64 (x:Int)] w' (Ae b w'))):
  Calls zp 218 #[.int .u64 (x:Int),.pointer (some ⟨gm,0,none⟩)] w (Ae (!b) w):=by
 have c0:=hg.cell 0;go_enter func218,ntmps218;go_wp2_with fail;refine (hmay.out _ (Fr.refl _ _)).mono ?_;rintro _ w1 ⟨rfl,f1⟩
 cases b
 all_goals
  go_wp2
  go_ret
  exact ⟨rfl,f1⟩
theorem Aj4 (B n c gm:Nat) (A:Option Addr) (l:List Nat) (p:Nat->Bool) (w:World) (hn:Hid (l.length=n)) (hr:Rd w B 1 A n (l.map Uv)) (hnm:n<=1000000) (hg:Blk w gm 218 #[.func (.func 186) #[] #[]])
  (hmay:Hid (∀x∈l,∀w':World,Fr Non w w'->Calls zp 186 #[.int .u64 (x:Int)] w' (Ae (p x) w'))):
  Calls zp 233 #[.slice A n c,.func (.func 218) #[] #[.pointer (some ⟨gm,0,none⟩)]] w fun e w'=>∃i:Int,e=.returned (.int .i64 i)/\decide (i>=0)=l.any (fun x=> !p x)/\Fr Non w w':=by
 go_enter func233,ntmps233;go_wp2
 go_loopw [8] (fun v wr=>∃k:Nat,v=.int .i64 (k:Int)/\k<=n/\Hid ((l.take k).any (fun x=> !p x)=false)/\Fr Non w wr) (fun v _=>n-(intOf v).toNat)
 case atStart=>exact ⟨0,rfl,by omega,rfl,Fr.refl _ _⟩
 case round=>
  obtain ⟨k,rfl,hk,hh,hf⟩:=hrel
  by_cases hlt:k<n
  ·
   obtain ⟨i1,i2,i3⟩:=ix k n
   obtain ⟨b,off,u,rfl,hbB,hu,k0⟩:=((hr.fr hf zr)).at hlt;rw [A84] at hu;obtain ⟨x,hx,rfl⟩:=Option.map_eq_some_iff.1 hu;replace k0:cU wr b (off+k) x:=k0;have hmem:=A61 hx;have hsn:Hid ((l.take (k+1)).any (fun x=> !p x)=((l.take k).any (fun x=> !p x)|| !p x)):=Gx l (fun x=> !p x) hx;have hc:=lh (Aj3 gm (p x) x wr (hg.fr hf zq) (fun w' h=>hmay.out x hmem w' (hf.trans h zr)));have hall:Hid ((!p x)=true->l.any (fun x=> !p x)=true):=fun h=>List.any_eq_true.2 ⟨x,hmem,h⟩;clear hx hmem
   rcases zb (p x) with hp|hp
   ·
    rw [hp] at hc hsn;go_wp2_with (go_at_call 218;(with_reducible refine (hc.out).mono ?_);rintro _ w1 ⟨rfl,f1⟩);go_roundw
    case rel=>exact ⟨k+1,by go_num,by omega,by show _=_;rw [hsn.out,hh.out];rfl,hf.trans f1 zr⟩
    case measure=>simp [intOf];omega
   ·
    rw [hp] at hc hall;go_wp2_with (go_at_call 218;(with_reducible refine (hc.out).mono ?_);rintro _ w1 ⟨rfl,f1⟩)
    go_ret
    exact ⟨k,rfl,by rw [hall.out rfl];exact decide_eq_true (by omega),hf.trans f1 zr⟩
  ·
   obtain rfl:k=n:=by omega
   have hfin:l.any (fun x=> !p x)=false:=by have h:=hh.out;rw [A62 (by rw [hn.out];omega)] at h;exact h
   go_wp2
   go_ret
   exact ⟨-1,rfl,by rw [hfin];rfl,hf⟩
theorem Aj5 (B n c:Nat) (A:Option Addr) (l:List Nat) (p:Nat->Bool) (w:World) (hn:Hid (l.length=n)) (hr:Rd w B 1 A n (l.map Uv)) (hnm:n<=1000000)
  (hmay:Hid (∀x∈l,∀w':World,Fr Non w w'->Calls zp 186 #[.int .u64 (x:Int)] w' (Ae (p x) w'))):
  Calls zp 185 #[.slice A n c,.func (.func 186) #[] #[]] w (Ae (l.all p) w):=by
 have hb0:=Blk.new w 218 #[.func (.func 186) #[] #[]];have f0:Fr Non w (w.alloc (.cells #[.func (.func 186) #[] #[]] 218)):=(Fr.refl Non w).alloc _;have hix:=lh (Aj4 B n c w.heap.size A l p _ hn (hr.fr f0 zr) hnm hb0 (fun x hx w' h=>hmay.out x hx w' (f0.trans h zr)));have hall:Hid (l.all p=!l.any (fun x=> !p x)):=Gy l p;rw [hall.out];clear hall;generalize l.any (fun x=> !p x)=b at*
 have hcf:Hid (Calls zp 217 #[.slice A n c,.func (.func 218) #[] #[.pointer (some ⟨w.heap.size,0,none⟩)]] (w.alloc (.cells #[.func (.func 186) #[] #[]] 218)) (Ae b (w.alloc (.cells #[.func (.func 186) #[] #[]] 218)))):=by
  show Calls _ _ _ _ _;clear hb0 f0;generalize w.alloc (.cells #[.func (.func 186) #[] #[]] 218)=w0 at*;go_enter func217,ntmps217;go_wp2_with fail;refine (hix.out).mono ?_;rintro _ w1 ⟨i,rfl,hi,f1⟩;go_wp2
  go_ret
  first|exact ⟨rfl,f1⟩|exact ⟨zeB hi,f1⟩
 clear hix;go_enter func185,ntmps185;go_wp2_with fail;refine (hcf.out).mono ?_;rintro _ w1 ⟨rfl,f1⟩
 cases b
 all_goals
  go_wp2
  go_ret
  exact ⟨rfl,f0.trans f1 zr⟩
theorem Aj6 (gm:Nat) (b:Bool) (x:Id) (w:World) (hg:Blk w gm 147 #[.func (.func 177) #[] #[]]) (hmay:Hid (∀w':World,Fr Non w w'->Calls zp 177 #[.agg x.V] w' (Ae b w'))):
  Calls zp 220 #[.agg x.V,.pointer (some ⟨gm,0,none⟩)] w (Ae (!b) w):=by
 have c0:=hg.cell 0;have hb0:=Blk.new w 45 x.V;have f0:Fr Non w (w.alloc (.cells x.V 45)):=(Fr.refl Non w).alloc _;have c0':=f0.cell c0 zq;go_enter func220,ntmps220;go_wp2_with fail;refine (hmay.out _ f0).mono ?_;rintro _ w1 ⟨rfl,f1⟩
 cases b
 all_goals
  go_wp2
  go_ret
  exact ⟨rfl,f0.trans f1 zr⟩
theorem Aj7 (B n c gm:Nat) (A:Option Addr) (l:List Id) (p:Id->Bool) (w:World) (hn:Hid (l.length=n)) (hr:Rd w B 3 A n (l.flatMap Id.cells)) (hnm:n<=1000000) (hg:Blk w gm 147 #[.func (.func 177) #[] #[]])
  (hmay:Hid (∀x∈l,∀w':World,Fr Non w w'->Calls zp 177 #[.agg x.V] w' (Ae (p x) w'))):
  Calls zp 144 #[.slice A n c,.func (.func 220) #[] #[.pointer (some ⟨gm,0,none⟩)]] w fun e w'=>∃i:Int,e=.returned (.int .i64 i)/\decide (i>=0)=l.any (fun x=> !p x)/\Fr Non w w':=by
 go_enter func144,ntmps144;go_wp2
 go_loopw [8] (fun v wr=>∃k:Nat,v=.int .i64 (k:Int)/\k<=n/\Hid ((l.take k).any (fun x=> !p x)=false)/\Fr Non w wr) (fun v _=>n-(intOf v).toNat)
 case atStart=>exact ⟨0,rfl,by omega,rfl,Fr.refl _ _⟩
 case round=>
  obtain ⟨k,rfl,hk,hh,hf⟩:=hrel
  by_cases hlt:k<n
  ·
   obtain ⟨i1,i2,i3⟩:=ix k n
   obtain ⟨x,hx⟩:∃x,l[k]? =some x:=⟨_,A65 (by rw [hn.out];exact hlt)⟩;obtain ⟨b,off,rfl,hbB,k0,k1,k2⟩:=Id.at (hr.fr hf zr) hx;have hmem:=A61 hx;have hsn:Hid ((l.take (k+1)).any (fun x=> !p x)=((l.take k).any (fun x=> !p x)|| !p x)):=Gx l (fun x=> !p x) hx;have hc:=lh (Aj6 gm (p x) x wr (hg.fr hf zq) (fun w' h=>hmay.out x hmem w' (hf.trans h zr)));have hall:Hid ((!p x)=true->l.any (fun x=> !p x)=true):=fun h=>List.any_eq_true.2 ⟨x,hmem,h⟩;clear hx hmem
   rcases zb (p x) with hp|hp
   ·
    rw [hp] at hc hsn;go_wp2_with (go_at_call 220;(with_reducible refine (hc.out).mono ?_);rintro _ w1 ⟨rfl,f1⟩);go_roundw
    case rel=>exact ⟨k+1,by go_num,by omega,by show _=_;rw [hsn.out,hh.out];rfl,hf.trans f1 zr⟩
    case measure=>simp [intOf];omega
   ·
    rw [hp] at hc hall;go_wp2_with (go_at_call 220;(with_reducible refine (hc.out).mono ?_);rintro _ w1 ⟨rfl,f1⟩)
    go_ret
    exact ⟨k,rfl,by rw [hall.out rfl];exact decide_eq_true (by omega),hf.trans f1 zr⟩
  ·
   obtain rfl:k=n:=by omega
   have hfin:l.any (fun x=> !p x)=false:=by have h:=hh.out;rw [A62 (by rw [hn.out];omega)] at h;exact h
   go_wp2
   go_ret
   exact ⟨-1,rfl,by rw [hfin];rfl,hf⟩
theorem Aj8 (B n c:Nat) (A:Option Addr) (l:List Id) (p:Id->Bool) (w:World) (hn:Hid (l.length=n)) (hr:Rd w B 3 A n (l.flatMap Id.cells)) (hnm:n<=1000000)
  (hmay:Hid (∀x∈l,∀w':World,Fr Non w w'->Calls zp 177 #[.agg x.V] w' (Ae (p x) w'))):
  Calls zp 187 #[.slice A n c,.func (.func 177) #[] #[]] w (Ae (l.all p) w):=by
 have hb0:=Blk.new w 147 #[.func (.func 177) #[] #[]];have f0:Fr Non w (w.alloc (.cells #[.func (.func 177) #[] #[]] 147)):=(Fr.refl Non w).alloc _;have hix:=lh (Aj7 B n c w.heap.size A l p _ hn (hr.fr f0 zr) hnm hb0 (fun x hx w' h=>hmay.out x hx w' (f0.trans h zr)));have hall:Hid (l.all p=!l.any (fun x=> !p x)):=Gy l p;rw [hall.out];clear hall;generalize l.any (fun x=> !p x)=b at*
 have hcf:Hid (Calls zp 219 #[.slice A n c,.func (.func 220) #[] #[.pointer (some ⟨w.heap.size,0,none⟩)]] (w.alloc (.cells #[.func (.func 177) #[] #[]] 147)) (Ae b (w.alloc (.cells #[.func (.func 177) #[] #[]] 147)))):=by
  show Calls _ _ _ _ _;clear hb0 f0;generalize w.alloc (.cells #[.func (.func 177) #[] #[]] 147)=w0 at*;go_enter func219,ntmps219;go_wp2_with fail;refine (hix.out).mono ?_;rintro _ w1 ⟨i,rfl,hi,f1⟩;go_wp2
  go_ret
  first|exact ⟨rfl,f1⟩|exact ⟨zeB hi,f1⟩
 clear hix;go_enter func187,ntmps187;go_wp2_with fail;refine (hcf.out).mono ?_;rintro _ w1 ⟨rfl,f1⟩
 cases b
 all_goals
  go_wp2
  go_ret
  exact ⟨rfl,f0.trans f1 zr⟩
theorem Aj9 (gm:Nat) (b:Bool) (x:Bx) (w:World) (hg:Blk w gm 239 #[.func (.func 181) #[] #[]]) (hmay:Hid (∀w':World,Fr Non w w'->Calls zp 181 #[.agg #[.int .u64 (x.t:Int),.int .u64 (x.e:Int),.int .u64 (x.y:Int),.int .u64 (x.g:Int)]] w' (Ae b w'))):
  Calls zp 214 #[.agg #[.int .u64 (x.t:Int),.int .u64 (x.e:Int),.int .u64 (x.y:Int),.int .u64 (x.g:Int)],.pointer (some ⟨gm,0,none⟩)] w (Ae (!b) w):=by
 have c0:=hg.cell 0;have hb0:=Blk.new w 103 #[.int .u64 (x.t:Int),.int .u64 (x.e:Int),.int .u64 (x.y:Int),.int .u64 (x.g:Int)];have f0:Fr Non w (w.alloc (.cells #[.int .u64 (x.t:Int),.int .u64 (x.e:Int),.int .u64 (x.y:Int),.int .u64 (x.g:Int)] 103)):=(Fr.refl Non w).alloc _;have c0':=f0.cell c0 zq;go_enter func214,ntmps214;go_wp2_with fail;refine (hmay.out _ f0).mono ?_;rintro _ w1 ⟨rfl,f1⟩
 cases b
 all_goals
  go_wp2
  go_ret
  exact ⟨rfl,f0.trans f1 zr⟩
theorem Ak0 (B n c gm:Nat) (A:Option Addr) (l:List Bx) (p:Bx->Bool) (w:World) (hn:Hid (l.length=n)) (hr:Rd w B 4 A n (l.flatMap Bx.cells)) (hnm:n<=1000000) (hg:Blk w gm 239 #[.func (.func 181) #[] #[]])
  (hmay:Hid (∀x∈l,∀w':World,Fr Non w w'->Calls zp 181 #[.agg #[.int .u64 (x.t:Int),.int .u64 (x.e:Int),.int .u64 (x.y:Int),.int .u64 (x.g:Int)]] w' (Ae (p x) w'))):
  Calls zp 231 #[.slice A n c,.func (.func 214) #[] #[.pointer (some ⟨gm,0,none⟩)]] w fun e w'=>∃i:Int,e=.returned (.int .i64 i)/\decide (i>=0)=l.any (fun x=> !p x)/\Fr Non w w':=by
 go_enter func231,ntmps231;go_wp2
 go_loopw [8] (fun v wr=>∃k:Nat,v=.int .i64 (k:Int)/\k<=n/\Hid ((l.take k).any (fun x=> !p x)=false)/\Fr Non w wr) (fun v _=>n-(intOf v).toNat)
 case atStart=>exact ⟨0,rfl,by omega,rfl,Fr.refl _ _⟩
 case round=>
  obtain ⟨k,rfl,hk,hh,hf⟩:=hrel
  by_cases hlt:k<n
  ·
   obtain ⟨i1,i2,i3⟩:=ix k n
   obtain ⟨x,hx⟩:∃x,l[k]? =some x:=⟨_,A65 (by rw [hn.out];exact hlt)⟩;obtain ⟨b,off,rfl,hbB,k0,k1,k2,k3⟩:=Bx.at (hr.fr hf zr) hx;have hmem:=A61 hx;have hsn:Hid ((l.take (k+1)).any (fun x=> !p x)=((l.take k).any (fun x=> !p x)|| !p x)):=Gx l (fun x=> !p x) hx;have hc:=lh (Aj9 gm (p x) x wr (hg.fr hf zq) (fun w' h=>hmay.out x hmem w' (hf.trans h zr)));have hall:Hid ((!p x)=true->l.any (fun x=> !p x)=true):=fun h=>List.any_eq_true.2 ⟨x,hmem,h⟩;clear hx hmem
   rcases zb (p x) with hp|hp
   ·
    rw [hp] at hc hsn;go_wp2_with (go_at_call 214;(with_reducible refine (hc.out).mono ?_);rintro _ w1 ⟨rfl,f1⟩);go_roundw
    case rel=>exact ⟨k+1,by go_num,by omega,by show _=_;rw [hsn.out,hh.out];rfl,hf.trans f1 zr⟩
    case measure=>simp [intOf];omega
   ·
    rw [hp] at hc hall;go_wp2_with (go_at_call 214;(with_reducible refine (hc.out).mono ?_);rintro _ w1 ⟨rfl,f1⟩)
    go_ret
    exact ⟨k,rfl,by rw [hall.out rfl];exact decide_eq_true (by omega),hf.trans f1 zr⟩
  ·
   obtain rfl:k=n:=by omega
   have hfin:l.any (fun x=> !p x)=false:=by have h:=hh.out;rw [A62 (by rw [hn.out];omega)] at h;exact h
   go_wp2
   go_ret
   exact ⟨-1,rfl,by rw [hfin];rfl,hf⟩
theorem Tm (B n c:Nat) (A:Option Addr) (l:List Bx) (p:Bx->Bool) (w:World) (hn:Hid (l.length=n)) (hr:Rd w B 4 A n (l.flatMap Bx.cells)) (hnm:n<=1000000)
  (hmay:Hid (∀x∈l,∀w':World,Fr Non w w'->Calls zp 181 #[.agg #[.int .u64 (x.t:Int),.int .u64 (x.e:Int),.int .u64 (x.y:Int),.int .u64 (x.g:Int)]] w' (Ae (p x) w'))):
  Calls zp 180 #[.slice A n c,.func (.func 181) #[] #[]] w (Ae (l.all p) w):=by
 have hb0:=Blk.new w 239 #[.func (.func 181) #[] #[]];have f0:Fr Non w (w.alloc (.cells #[.func (.func 181) #[] #[]] 239)):=(Fr.refl Non w).alloc _;have hix:=lh (Ak0 B n c w.heap.size A l p _ hn (hr.fr f0 zr) hnm hb0 (fun x hx w' h=>hmay.out x hx w' (f0.trans h zr)));have hall:Hid (l.all p=!l.any (fun x=> !p x)):=Gy l p;rw [hall.out];clear hall;generalize l.any (fun x=> !p x)=b at*
 have hcf:Hid (Calls zp 213 #[.slice A n c,.func (.func 214) #[] #[.pointer (some ⟨w.heap.size,0,none⟩)]] (w.alloc (.cells #[.func (.func 181) #[] #[]] 239)) (Ae b (w.alloc (.cells #[.func (.func 181) #[] #[]] 239)))):=by
  show Calls _ _ _ _ _;clear hb0 f0;generalize w.alloc (.cells #[.func (.func 181) #[] #[]] 239)=w0 at*;go_enter func213,ntmps213;go_wp2_with fail;refine (hix.out).mono ?_;rintro _ w1 ⟨i,rfl,hi,f1⟩;go_wp2
  go_ret
  first|exact ⟨rfl,f1⟩|exact ⟨zeB hi,f1⟩
 clear hix;go_enter func180,ntmps180;go_wp2_with fail;refine (hcf.out).mono ?_;rintro _ w1 ⟨rfl,f1⟩
 cases b
 all_goals
  go_wp2
  go_ret
  exact ⟨rfl,f0.trans f1 zr⟩
theorem Ak1 (gm:Nat) (b:Bool) (x:NdL) (w:World) (hg:Blk w gm 240 #[.func (.func 179) #[] #[]]) (hmay:Hid (∀w':World,Fr Non w w'->Calls zp 179 #[.agg #[.int .u64 (x.p:Int),.slice x.A x.xs.length x.c]] w' (Ae b w'))):
  Calls zp 222 #[.agg #[.int .u64 (x.p:Int),.slice x.A x.xs.length x.c],.pointer (some ⟨gm,0,none⟩)] w (Ae (!b) w):=by
 have c0:=hg.cell 0;have hb0:=Blk.new w 112 #[.int .u64 (x.p:Int),.slice x.A x.xs.length x.c];have f0:Fr Non w (w.alloc (.cells #[.int .u64 (x.p:Int),.slice x.A x.xs.length x.c] 112)):=(Fr.refl Non w).alloc _;have c0':=f0.cell c0 zq;go_enter func222,ntmps222;go_wp2_with fail;refine (hmay.out _ f0).mono ?_;rintro _ w1 ⟨rfl,f1⟩
 cases b
 all_goals
  go_wp2
  go_ret
  exact ⟨rfl,f0.trans f1 zr⟩
theorem Ak2 (B n c gm:Nat) (A:Option Addr) (l:List NdL) (p:NdL->Bool) (w:World) (hn:Hid (l.length=n)) (hr:Rd w B 2 A n (l.flatMap NdL.cells)) (hnm:n<=1000000) (hg:Blk w gm 240 #[.func (.func 179) #[] #[]])
  (hmay:Hid (∀x∈l,∀w':World,Fr Non w w'->Calls zp 179 #[.agg #[.int .u64 (x.p:Int),.slice x.A x.xs.length x.c]] w' (Ae (p x) w'))):
  Calls zp 234 #[.slice A n c,.func (.func 222) #[] #[.pointer (some ⟨gm,0,none⟩)]] w fun e w'=>∃i:Int,e=.returned (.int .i64 i)/\decide (i>=0)=l.any (fun x=> !p x)/\Fr Non w w':=by
 go_enter func234,ntmps234;go_wp2
 go_loopw [8] (fun v wr=>∃k:Nat,v=.int .i64 (k:Int)/\k<=n/\Hid ((l.take k).any (fun x=> !p x)=false)/\Fr Non w wr) (fun v _=>n-(intOf v).toNat)
 case atStart=>exact ⟨0,rfl,by omega,rfl,Fr.refl _ _⟩
 case round=>
  obtain ⟨k,rfl,hk,hh,hf⟩:=hrel
  by_cases hlt:k<n
  ·
   obtain ⟨i1,i2,i3⟩:=ix k n
   obtain ⟨x,hx⟩:∃x,l[k]? =some x:=⟨_,A65 (by rw [hn.out];exact hlt)⟩;obtain ⟨b,off,rfl,hbB,k0,k1⟩:=NdL.el (hr.fr hf zr) hx;have hmem:=A61 hx;have hsn:Hid ((l.take (k+1)).any (fun x=> !p x)=((l.take k).any (fun x=> !p x)|| !p x)):=Gx l (fun x=> !p x) hx;have hc:=lh (Ak1 gm (p x) x wr (hg.fr hf zq) (fun w' h=>hmay.out x hmem w' (hf.trans h zr)));have hall:Hid ((!p x)=true->l.any (fun x=> !p x)=true):=fun h=>List.any_eq_true.2 ⟨x,hmem,h⟩;clear hx hmem
   rcases zb (p x) with hp|hp
   ·
    rw [hp] at hc hsn;go_wp2_with (go_at_call 222;(with_reducible refine (hc.out).mono ?_);rintro _ w1 ⟨rfl,f1⟩);go_roundw
    case rel=>exact ⟨k+1,by go_num,by omega,by show _=_;rw [hsn.out,hh.out];rfl,hf.trans f1 zr⟩
    case measure=>simp [intOf];omega
   ·
    rw [hp] at hc hall;go_wp2_with (go_at_call 222;(with_reducible refine (hc.out).mono ?_);rintro _ w1 ⟨rfl,f1⟩)
    go_ret
    exact ⟨k,rfl,by rw [hall.out rfl];exact decide_eq_true (by omega),hf.trans f1 zr⟩
  ·
   obtain rfl:k=n:=by omega
   have hfin:l.any (fun x=> !p x)=false:=by have h:=hh.out;rw [A62 (by rw [hn.out];omega)] at h;exact h
   go_wp2
   go_ret
   exact ⟨-1,rfl,by rw [hfin];rfl,hf⟩
theorem Ak3 (B n c:Nat) (A:Option Addr) (l:List NdL) (p:NdL->Bool) (w:World) (hn:Hid (l.length=n)) (hr:Rd w B 2 A n (l.flatMap NdL.cells)) (hnm:n<=1000000)
  (hmay:Hid (∀x∈l,∀w':World,Fr Non w w'->Calls zp 179 #[.agg #[.int .u64 (x.p:Int),.slice x.A x.xs.length x.c]] w' (Ae (p x) w'))):
  Calls zp 188 #[.slice A n c,.func (.func 179) #[] #[]] w (Ae (l.all p) w):=by
 have hb0:=Blk.new w 240 #[.func (.func 179) #[] #[]];have f0:Fr Non w (w.alloc (.cells #[.func (.func 179) #[] #[]] 240)):=(Fr.refl Non w).alloc _;have hix:=lh (Ak2 B n c w.heap.size A l p _ hn (hr.fr f0 zr) hnm hb0 (fun x hx w' h=>hmay.out x hx w' (f0.trans h zr)));have hall:Hid (l.all p=!l.any (fun x=> !p x)):=Gy l p;rw [hall.out];clear hall;generalize l.any (fun x=> !p x)=b at*
 have hcf:Hid (Calls zp 221 #[.slice A n c,.func (.func 222) #[] #[.pointer (some ⟨w.heap.size,0,none⟩)]] (w.alloc (.cells #[.func (.func 179) #[] #[]] 240)) (Ae b (w.alloc (.cells #[.func (.func 179) #[] #[]] 240)))):=by
  show Calls _ _ _ _ _;clear hb0 f0;generalize w.alloc (.cells #[.func (.func 179) #[] #[]] 240)=w0 at*;go_enter func221,ntmps221;go_wp2_with fail;refine (hix.out).mono ?_;rintro _ w1 ⟨i,rfl,hi,f1⟩;go_wp2
  go_ret
  first|exact ⟨rfl,f1⟩|exact ⟨zeB hi,f1⟩
 clear hix;go_enter func188,ntmps188;go_wp2_with fail;refine (hcf.out).mono ?_;rintro _ w1 ⟨rfl,f1⟩
 cases b
 all_goals
  go_wp2
  go_ret
  exact ⟨rfl,f0.trans f1 zr⟩
theorem Ak4 (gm:Nat) (b:Bool) (x:NdL) (w:World) (hg:Blk w gm 240 #[.func (.func 190) #[] #[]]) (hmay:Hid (∀w':World,Fr Non w w'->Calls zp 190 #[.agg #[.int .u64 (x.p:Int),.slice x.A x.xs.length x.c]] w' (Ae b w'))):
  Calls zp 222 #[.agg #[.int .u64 (x.p:Int),.slice x.A x.xs.length x.c],.pointer (some ⟨gm,0,none⟩)] w (Ae (!b) w):=by
 have c0:=hg.cell 0;have hb0:=Blk.new w 112 #[.int .u64 (x.p:Int),.slice x.A x.xs.length x.c];have f0:Fr Non w (w.alloc (.cells #[.int .u64 (x.p:Int),.slice x.A x.xs.length x.c] 112)):=(Fr.refl Non w).alloc _;have c0':=f0.cell c0 zq;go_enter func222,ntmps222;go_wp2_with fail;refine (hmay.out _ f0).mono ?_;rintro _ w1 ⟨rfl,f1⟩
 cases b
 all_goals
  go_wp2
  go_ret
  exact ⟨rfl,f0.trans f1 zr⟩
theorem Ak5 (B n c gm:Nat) (A:Option Addr) (l:List NdL) (p:NdL->Bool) (w:World) (hn:Hid (l.length=n)) (hr:Rd w B 2 A n (l.flatMap NdL.cells)) (hnm:n<=1000000) (hg:Blk w gm 240 #[.func (.func 190) #[] #[]])
  (hmay:Hid (∀x∈l,∀w':World,Fr Non w w'->Calls zp 190 #[.agg #[.int .u64 (x.p:Int),.slice x.A x.xs.length x.c]] w' (Ae (p x) w'))):
  Calls zp 234 #[.slice A n c,.func (.func 222) #[] #[.pointer (some ⟨gm,0,none⟩)]] w fun e w'=>∃i:Int,e=.returned (.int .i64 i)/\decide (i>=0)=l.any (fun x=> !p x)/\Fr Non w w':=by
 go_enter func234,ntmps234;go_wp2
 go_loopw [8] (fun v wr=>∃k:Nat,v=.int .i64 (k:Int)/\k<=n/\Hid ((l.take k).any (fun x=> !p x)=false)/\Fr Non w wr) (fun v _=>n-(intOf v).toNat)
 case atStart=>exact ⟨0,rfl,by omega,rfl,Fr.refl _ _⟩
 case round=>
  obtain ⟨k,rfl,hk,hh,hf⟩:=hrel
  by_cases hlt:k<n
  ·
   obtain ⟨i1,i2,i3⟩:=ix k n
   obtain ⟨x,hx⟩:∃x,l[k]? =some x:=⟨_,A65 (by rw [hn.out];exact hlt)⟩;obtain ⟨b,off,rfl,hbB,k0,k1⟩:=NdL.el (hr.fr hf zr) hx;have hmem:=A61 hx;have hsn:Hid ((l.take (k+1)).any (fun x=> !p x)=((l.take k).any (fun x=> !p x)|| !p x)):=Gx l (fun x=> !p x) hx;have hc:=lh (Ak4 gm (p x) x wr (hg.fr hf zq) (fun w' h=>hmay.out x hmem w' (hf.trans h zr)));have hall:Hid ((!p x)=true->l.any (fun x=> !p x)=true):=fun h=>List.any_eq_true.2 ⟨x,hmem,h⟩;clear hx hmem
   rcases zb (p x) with hp|hp
   ·
    rw [hp] at hc hsn;go_wp2_with (go_at_call 222;(with_reducible refine (hc.out).mono ?_);rintro _ w1 ⟨rfl,f1⟩);go_roundw
    case rel=>exact ⟨k+1,by go_num,by omega,by show _=_;rw [hsn.out,hh.out];rfl,hf.trans f1 zr⟩
    case measure=>simp [intOf];omega
   ·
    rw [hp] at hc hall;go_wp2_with (go_at_call 222;(with_reducible refine (hc.out).mono ?_);rintro _ w1 ⟨rfl,f1⟩)
    go_ret
    exact ⟨k,rfl,by rw [hall.out rfl];exact decide_eq_true (by omega),hf.trans f1 zr⟩
  ·
   obtain rfl:k=n:=by omega
   have hfin:l.any (fun x=> !p x)=false:=by have h:=hh.out;rw [A62 (by rw [hn.out];omega)] at h;exact h
   go_wp2
   go_ret
   exact ⟨-1,rfl,by rw [hfin];rfl,hf⟩
theorem Ak6 (B n c:Nat) (A:Option Addr) (l:List NdL) (p:NdL->Bool) (w:World) (hn:Hid (l.length=n)) (hr:Rd w B 2 A n (l.flatMap NdL.cells)) (hnm:n<=1000000)
  (hmay:Hid (∀x∈l,∀w':World,Fr Non w w'->Calls zp 190 #[.agg #[.int .u64 (x.p:Int),.slice x.A x.xs.length x.c]] w' (Ae (p x) w'))):
  Calls zp 188 #[.slice A n c,.func (.func 190) #[] #[]] w (Ae (l.all p) w):=by
 have hb0:=Blk.new w 240 #[.func (.func 190) #[] #[]];have f0:Fr Non w (w.alloc (.cells #[.func (.func 190) #[] #[]] 240)):=(Fr.refl Non w).alloc _;have hix:=lh (Ak5 B n c w.heap.size A l p _ hn (hr.fr f0 zr) hnm hb0 (fun x hx w' h=>hmay.out x hx w' (f0.trans h zr)));have hall:Hid (l.all p=!l.any (fun x=> !p x)):=Gy l p;rw [hall.out];clear hall;generalize l.any (fun x=> !p x)=b at*
 have hcf:Hid (Calls zp 221 #[.slice A n c,.func (.func 222) #[] #[.pointer (some ⟨w.heap.size,0,none⟩)]] (w.alloc (.cells #[.func (.func 190) #[] #[]] 240)) (Ae b (w.alloc (.cells #[.func (.func 190) #[] #[]] 240)))):=by
  show Calls _ _ _ _ _;clear hb0 f0;generalize w.alloc (.cells #[.func (.func 190) #[] #[]] 240)=w0 at*;go_enter func221,ntmps221;go_wp2_with fail;refine (hix.out).mono ?_;rintro _ w1 ⟨i,rfl,hi,f1⟩;go_wp2
  go_ret
  first|exact ⟨rfl,f1⟩|exact ⟨zeB hi,f1⟩
 clear hix;go_enter func188,ntmps188;go_wp2_with fail;refine (hcf.out).mono ?_;rintro _ w1 ⟨rfl,f1⟩
 cases b
 all_goals
  go_wp2
  go_ret
  exact ⟨rfl,f0.trans f1 zr⟩
theorem Ak7 (gm:Nat) (b:Bool) (x:SlL) (w:World) (hg:Blk w gm 241 #[.func (.func 182) #[] #[]]) (hmay:Hid (∀w':World,Fr Non w w'->Calls zp 182 #[.agg #[.int .i64 x.f.b,.int .i64 x.f.s,.int .u64 (x.f.u:Int),.slice x.A x.y.length x.c]] w' (Ae b w'))):
  Calls zp 224 #[.agg #[.int .i64 x.f.b,.int .i64 x.f.s,.int .u64 (x.f.u:Int),.slice x.A x.y.length x.c],.pointer (some ⟨gm,0,none⟩)] w (Ae (!b) w):=by
 have c0:=hg.cell 0;have hb0:=Blk.new w 119 #[.int .i64 x.f.b,.int .i64 x.f.s,.int .u64 (x.f.u:Int),.slice x.A x.y.length x.c];have f0:Fr Non w (w.alloc (.cells #[.int .i64 x.f.b,.int .i64 x.f.s,.int .u64 (x.f.u:Int),.slice x.A x.y.length x.c] 119)):=(Fr.refl Non w).alloc _;have c0':=f0.cell c0 zq;go_enter func224,ntmps224;go_wp2_with fail;refine (hmay.out _ f0).mono ?_;rintro _ w1 ⟨rfl,f1⟩
 cases b
 all_goals
  go_wp2
  go_ret
  exact ⟨rfl,f0.trans f1 zr⟩
theorem Ak8 (B n c gm:Nat) (A:Option Addr) (l:List SlL) (p:SlL->Bool) (w:World) (hn:Hid (l.length=n)) (hr:Rd w B 4 A n (l.flatMap SlL.cells)) (hnm:n<=1000000) (hg:Blk w gm 241 #[.func (.func 182) #[] #[]])
  (hmay:Hid (∀x∈l,∀w':World,Fr Non w w'->Calls zp 182 #[.agg #[.int .i64 x.f.b,.int .i64 x.f.s,.int .u64 (x.f.u:Int),.slice x.A x.y.length x.c]] w' (Ae (p x) w'))):
  Calls zp 235 #[.slice A n c,.func (.func 224) #[] #[.pointer (some ⟨gm,0,none⟩)]] w fun e w'=>∃i:Int,e=.returned (.int .i64 i)/\decide (i>=0)=l.any (fun x=> !p x)/\Fr Non w w':=by
 go_enter func235,ntmps235;go_wp2
 go_loopw [8] (fun v wr=>∃k:Nat,v=.int .i64 (k:Int)/\k<=n/\Hid ((l.take k).any (fun x=> !p x)=false)/\Fr Non w wr) (fun v _=>n-(intOf v).toNat)
 case atStart=>exact ⟨0,rfl,by omega,rfl,Fr.refl _ _⟩
 case round=>
  obtain ⟨k,rfl,hk,hh,hf⟩:=hrel
  by_cases hlt:k<n
  ·
   obtain ⟨i1,i2,i3⟩:=ix k n
   obtain ⟨x,hx⟩:∃x,l[k]? =some x:=⟨_,A65 (by rw [hn.out];exact hlt)⟩;obtain ⟨b,off,rfl,hbB,k0,k1,k2,k3⟩:=SlL.el (hr.fr hf zr) hx;have hmem:=A61 hx;have hsn:Hid ((l.take (k+1)).any (fun x=> !p x)=((l.take k).any (fun x=> !p x)|| !p x)):=Gx l (fun x=> !p x) hx;have hc:=lh (Ak7 gm (p x) x wr (hg.fr hf zq) (fun w' h=>hmay.out x hmem w' (hf.trans h zr)));have hall:Hid ((!p x)=true->l.any (fun x=> !p x)=true):=fun h=>List.any_eq_true.2 ⟨x,hmem,h⟩;clear hx hmem
   rcases zb (p x) with hp|hp
   ·
    rw [hp] at hc hsn;go_wp2_with (go_at_call 224;(with_reducible refine (hc.out).mono ?_);rintro _ w1 ⟨rfl,f1⟩);go_roundw
    case rel=>exact ⟨k+1,by go_num,by omega,by show _=_;rw [hsn.out,hh.out];rfl,hf.trans f1 zr⟩
    case measure=>simp [intOf];omega
   ·
    rw [hp] at hc hall;go_wp2_with (go_at_call 224;(with_reducible refine (hc.out).mono ?_);rintro _ w1 ⟨rfl,f1⟩)
    go_ret
    exact ⟨k,rfl,by rw [hall.out rfl];exact decide_eq_true (by omega),hf.trans f1 zr⟩
  ·
   obtain rfl:k=n:=by omega
   have hfin:l.any (fun x=> !p x)=false:=by have h:=hh.out;rw [A62 (by rw [hn.out];omega)] at h;exact h
   go_wp2
   go_ret
   exact ⟨-1,rfl,by rw [hfin];rfl,hf⟩
theorem Ak9 (B n c:Nat) (A:Option Addr) (l:List SlL) (p:SlL->Bool) (w:World) (hn:Hid (l.length=n)) (hr:Rd w B 4 A n (l.flatMap SlL.cells)) (hnm:n<=1000000)
  (hmay:Hid (∀x∈l,∀w':World,Fr Non w w'->Calls zp 182 #[.agg #[.int .i64 x.f.b,.int .i64 x.f.s,.int .u64 (x.f.u:Int),.slice x.A x.y.length x.c]] w' (Ae (p x) w'))):
  Calls zp 189 #[.slice A n c,.func (.func 182) #[] #[]] w (Ae (l.all p) w):=by
 have hb0:=Blk.new w 241 #[.func (.func 182) #[] #[]];have f0:Fr Non w (w.alloc (.cells #[.func (.func 182) #[] #[]] 241)):=(Fr.refl Non w).alloc _;have hix:=lh (Ak8 B n c w.heap.size A l p _ hn (hr.fr f0 zr) hnm hb0 (fun x hx w' h=>hmay.out x hx w' (f0.trans h zr)));have hall:Hid (l.all p=!l.any (fun x=> !p x)):=Gy l p;rw [hall.out];clear hall;generalize l.any (fun x=> !p x)=b at*
 have hcf:Hid (Calls zp 223 #[.slice A n c,.func (.func 224) #[] #[.pointer (some ⟨w.heap.size,0,none⟩)]] (w.alloc (.cells #[.func (.func 182) #[] #[]] 241)) (Ae b (w.alloc (.cells #[.func (.func 182) #[] #[]] 241)))):=by
  show Calls _ _ _ _ _;clear hb0 f0;generalize w.alloc (.cells #[.func (.func 182) #[] #[]] 241)=w0 at*;go_enter func223,ntmps223;go_wp2_with fail;refine (hix.out).mono ?_;rintro _ w1 ⟨i,rfl,hi,f1⟩;go_wp2
  go_ret
  first|exact ⟨rfl,f1⟩|exact ⟨zeB hi,f1⟩
 clear hix;go_enter func189,ntmps189;go_wp2_with fail;refine (hcf.out).mono ?_;rintro _ w1 ⟨rfl,f1⟩
 cases b
 all_goals
  go_wp2
  go_ret
  exact ⟨rfl,f0.trans f1 zr⟩
theorem Al0 (gm:Nat) (b:Bool) (x:SlL) (w:World) (hg:Blk w gm 241 #[.func (.func 191) #[] #[]]) (hmay:Hid (∀w':World,Fr Non w w'->Calls zp 191 #[.agg #[.int .i64 x.f.b,.int .i64 x.f.s,.int .u64 (x.f.u:Int),.slice x.A x.y.length x.c]] w' (Ae b w'))):
  Calls zp 224 #[.agg #[.int .i64 x.f.b,.int .i64 x.f.s,.int .u64 (x.f.u:Int),.slice x.A x.y.length x.c],.pointer (some ⟨gm,0,none⟩)] w (Ae (!b) w):=by
 have c0:=hg.cell 0;have hb0:=Blk.new w 119 #[.int .i64 x.f.b,.int .i64 x.f.s,.int .u64 (x.f.u:Int),.slice x.A x.y.length x.c];have f0:Fr Non w (w.alloc (.cells #[.int .i64 x.f.b,.int .i64 x.f.s,.int .u64 (x.f.u:Int),.slice x.A x.y.length x.c] 119)):=(Fr.refl Non w).alloc _;have c0':=f0.cell c0 zq;go_enter func224,ntmps224;go_wp2_with fail;refine (hmay.out _ f0).mono ?_;rintro _ w1 ⟨rfl,f1⟩
 cases b
 all_goals
  go_wp2
  go_ret
  exact ⟨rfl,f0.trans f1 zr⟩
theorem Al1 (B n c gm:Nat) (A:Option Addr) (l:List SlL) (p:SlL->Bool) (w:World) (hn:Hid (l.length=n)) (hr:Rd w B 4 A n (l.flatMap SlL.cells)) (hnm:n<=1000000) (hg:Blk w gm 241 #[.func (.func 191) #[] #[]])
  (hmay:Hid (∀x∈l,∀w':World,Fr Non w w'->Calls zp 191 #[.agg #[.int .i64 x.f.b,.int .i64 x.f.s,.int .u64 (x.f.u:Int),.slice x.A x.y.length x.c]] w' (Ae (p x) w'))):
  Calls zp 235 #[.slice A n c,.func (.func 224) #[] #[.pointer (some ⟨gm,0,none⟩)]] w fun e w'=>∃i:Int,e=.returned (.int .i64 i)/\decide (i>=0)=l.any (fun x=> !p x)/\Fr Non w w':=by
 go_enter func235,ntmps235;go_wp2
 go_loopw [8] (fun v wr=>∃k:Nat,v=.int .i64 (k:Int)/\k<=n/\Hid ((l.take k).any (fun x=> !p x)=false)/\Fr Non w wr) (fun v _=>n-(intOf v).toNat)
 case atStart=>exact ⟨0,rfl,by omega,rfl,Fr.refl _ _⟩
 case round=>
  obtain ⟨k,rfl,hk,hh,hf⟩:=hrel
  by_cases hlt:k<n
  ·
   obtain ⟨i1,i2,i3⟩:=ix k n
   obtain ⟨x,hx⟩:∃x,l[k]? =some x:=⟨_,A65 (by rw [hn.out];exact hlt)⟩;obtain ⟨b,off,rfl,hbB,k0,k1,k2,k3⟩:=SlL.el (hr.fr hf zr) hx;have hmem:=A61 hx;have hsn:Hid ((l.take (k+1)).any (fun x=> !p x)=((l.take k).any (fun x=> !p x)|| !p x)):=Gx l (fun x=> !p x) hx;have hc:=lh (Al0 gm (p x) x wr (hg.fr hf zq) (fun w' h=>hmay.out x hmem w' (hf.trans h zr)));have hall:Hid ((!p x)=true->l.any (fun x=> !p x)=true):=fun h=>List.any_eq_true.2 ⟨x,hmem,h⟩;clear hx hmem
   rcases zb (p x) with hp|hp
   ·
    rw [hp] at hc hsn;go_wp2_with (go_at_call 224;(with_reducible refine (hc.out).mono ?_);rintro _ w1 ⟨rfl,f1⟩);go_roundw
    case rel=>exact ⟨k+1,by go_num,by omega,by show _=_;rw [hsn.out,hh.out];rfl,hf.trans f1 zr⟩
    case measure=>simp [intOf];omega
   ·
    rw [hp] at hc hall;go_wp2_with (go_at_call 224;(with_reducible refine (hc.out).mono ?_);rintro _ w1 ⟨rfl,f1⟩)
    go_ret
    exact ⟨k,rfl,by rw [hall.out rfl];exact decide_eq_true (by omega),hf.trans f1 zr⟩
  ·
   obtain rfl:k=n:=by omega
   have hfin:l.any (fun x=> !p x)=false:=by have h:=hh.out;rw [A62 (by rw [hn.out];omega)] at h;exact h
   go_wp2
   go_ret
   exact ⟨-1,rfl,by rw [hfin];rfl,hf⟩
theorem Al2 (B n c:Nat) (A:Option Addr) (l:List SlL) (p:SlL->Bool) (w:World) (hn:Hid (l.length=n)) (hr:Rd w B 4 A n (l.flatMap SlL.cells)) (hnm:n<=1000000)
  (hmay:Hid (∀x∈l,∀w':World,Fr Non w w'->Calls zp 191 #[.agg #[.int .i64 x.f.b,.int .i64 x.f.s,.int .u64 (x.f.u:Int),.slice x.A x.y.length x.c]] w' (Ae (p x) w'))):
  Calls zp 189 #[.slice A n c,.func (.func 191) #[] #[]] w (Ae (l.all p) w):=by
 have hb0:=Blk.new w 241 #[.func (.func 191) #[] #[]];have f0:Fr Non w (w.alloc (.cells #[.func (.func 191) #[] #[]] 241)):=(Fr.refl Non w).alloc _;have hix:=lh (Al1 B n c w.heap.size A l p _ hn (hr.fr f0 zr) hnm hb0 (fun x hx w' h=>hmay.out x hx w' (f0.trans h zr)));have hall:Hid (l.all p=!l.any (fun x=> !p x)):=Gy l p;rw [hall.out];clear hall;generalize l.any (fun x=> !p x)=b at*
 have hcf:Hid (Calls zp 223 #[.slice A n c,.func (.func 224) #[] #[.pointer (some ⟨w.heap.size,0,none⟩)]] (w.alloc (.cells #[.func (.func 191) #[] #[]] 241)) (Ae b (w.alloc (.cells #[.func (.func 191) #[] #[]] 241)))):=by
  show Calls _ _ _ _ _;clear hb0 f0;generalize w.alloc (.cells #[.func (.func 191) #[] #[]] 241)=w0 at*;go_enter func223,ntmps223;go_wp2_with fail;refine (hix.out).mono ?_;rintro _ w1 ⟨i,rfl,hi,f1⟩;go_wp2
  go_ret
  first|exact ⟨rfl,f1⟩|exact ⟨zeB hi,f1⟩
 clear hix;go_enter func189,ntmps189;go_wp2_with fail;refine (hcf.out).mono ?_;rintro _ w1 ⟨rfl,f1⟩
 cases b
 all_goals
  go_wp2
  go_ret
  exact ⟨rfl,f0.trans f1 zr⟩
theorem Al3 (n:Int) (w:World):Calls zp 183 #[.int .i64 n] w (Ae (inR n 1 12) w):=by
 have k1:=lh (fun w'=>Eb n 1 12 w');generalize inR n 1 12=b at*;go_enter func183,ntmps183;go_wp2_with fail;refine (k1.out _).mono ?_;rintro _ w1 ⟨rfl,f1⟩;go_wp2
 go_ret
 exact ⟨rfl,f1⟩
theorem Tn (x:Bx) (w:World):Calls zp 181 #[.agg #[.int .u64 (x.t:Int),.int .u64 (x.e:Int),.int .u64 (x.y:Int),.int .u64 (x.g:Int)]] w (Ae x.may w):=by
 have hb0:=Blk.new w 103 #[.int .u64 (x.t:Int),.int .u64 (x.e:Int),.int .u64 (x.y:Int),.int .u64 (x.g:Int)];have f0:Fr Non w (w.alloc (.cells #[.int .u64 (x.t:Int),.int .u64 (x.e:Int),.int .u64 (x.y:Int),.int .u64 (x.g:Int)] 103)):=(Fr.refl Non w).alloc _;have k1:=lh (fun w'=>Kw x.t w');have k2:=lh (fun w'=>Kw x.e w');have k3:=lh (fun w'=>Ky x.y w');have k4:=lh (fun w'=>Ky x.g w');have hfin:Hid (x.may=(Dc x.t&&Dc x.e&&fOk x.y&&fOk x.g)):=rfl;rw [hfin.out];clear hfin;generalize Dc x.t=b1 at*;generalize Dc x.e=b2 at*;generalize fOk x.y=b3 at*;generalize fOk x.g=b4 at*;have tok1:True:=trivial;have tok3:True:=trivial
 cases b1<;>cases b2<;>cases b3
 all_goals
  go_enter func181,ntmps181
  go_wp2_with (first
   |(have _t:=tok1;go_at_call 178;(with_reducible refine (k1.out _).mono ?_);rintro _ w1 ⟨rfl,f1⟩;have hb1:=hb0.fr f1 zq;have c1:=hb1.cell 1;have fz1:=f0.trans f1 zr;clear tok1 _t)
   |(go_at_call 178;(with_reducible refine (k2.out _).mono ?_);rintro _ w2 ⟨rfl,f2⟩;have hb2:=hb1.fr f2 zq;have c2:=hb2.cell 2;have fz2:=fz1.trans f2 zr)
   |(have _t:=tok3;go_at_call 186;(with_reducible refine (k3.out _).mono ?_);rintro _ w3 ⟨rfl,f3⟩;have hb3:=hb2.fr f3 zq;have c3:=hb3.cell 3;have fz3:=fz2.trans f3 zr;clear tok3 _t)
   |(go_at_call 186;(with_reducible refine (k4.out _).mono ?_);rintro _ w4 ⟨rfl,f4⟩;have fz4:=fz3.trans f4 zr))
  go_ret
  first|exact ⟨rfl,fz4⟩|exact ⟨rfl,fz3⟩|exact ⟨rfl,fz2⟩|exact ⟨rfl,fz1⟩
theorem Al4 (x:SlL) (w:World):Calls zp 182 #[.agg #[.int .i64 x.f.b,.int .i64 x.f.s,.int .u64 (x.f.u:Int),.slice x.A x.y.length x.c]] w (Ae x.f.named w):=by
 have hb0:=Blk.new w 119 #[.int .i64 x.f.b,.int .i64 x.f.s,.int .u64 (x.f.u:Int),.slice x.A x.y.length x.c];have f0:Fr Non w (w.alloc (.cells #[.int .i64 x.f.b,.int .i64 x.f.s,.int .u64 (x.f.u:Int),.slice x.A x.y.length x.c] 119)):=(Fr.refl Non w).alloc _;have k1:=lh (fun w'=>Kz x.f w');generalize x.f.named=b at*;go_enter func182,ntmps182;go_wp2_with fail;refine (k1.out _).mono ?_;rintro _ w1 ⟨rfl,f1⟩;go_wp2
 go_ret
 exact ⟨rfl,f0.trans f1 zr⟩
theorem Al5 (x:SlL) (w:World):Calls zp 191 #[.agg #[.int .i64 x.f.b,.int .i64 x.f.s,.int .u64 (x.f.u:Int),.slice x.A x.y.length x.c]] w (Ae (decide (x.y.length<=208)) w):=by
 have f0:Fr Non w (w.alloc (.cells #[.int .i64 x.f.b,.int .i64 x.f.s,.int .u64 (x.f.u:Int),.slice x.A x.y.length x.c] 119)):=(Fr.refl Non w).alloc _;have hfin:Hid (decide ((x.y.length:Int)<=208)=decide (x.y.length<=208)):=by show _=_;rw [A68];simp;omega
 rw [<- hfin.out];clear hfin;generalize x.y.length=n at*;go_enter func191,ntmps191;go_wp2
 go_ret
 exact ⟨rfl,f0⟩
theorem Al6 (x:NdL) (w:World):Calls zp 190 #[.agg #[.int .u64 (x.p:Int),.slice x.A x.xs.length x.c]] w (Ae (decide (x.xs.length<=12)) w):=by
 have f0:Fr Non w (w.alloc (.cells #[.int .u64 (x.p:Int),.slice x.A x.xs.length x.c] 112)):=(Fr.refl Non w).alloc _;have hfin:Hid (decide ((x.xs.length:Int)<=12)=decide (x.xs.length<=12)):=by show _=_;rw [A68];simp;omega
 rw [<- hfin.out];clear hfin;generalize x.xs.length=n at*;go_enter func190,ntmps190;go_wp2
 go_ret
 exact ⟨rfl,f0⟩
theorem Al7 (B:Nat) (x:NdL) (w:World) (hat:x.at w B) (hl:x.xs.length<=1000000):Calls zp 179 #[.agg #[.int .u64 (x.p:Int),.slice x.A x.xs.length x.c]] w (Ae (Dc x.p&&x.xs.all Bx.may) w):=by
 have hb0:=Blk.new w 112 #[.int .u64 (x.p:Int),.slice x.A x.xs.length x.c];have f0:Fr Non w (w.alloc (.cells #[.int .u64 (x.p:Int),.slice x.A x.xs.length x.c] 112)):=(Fr.refl Non w).alloc _;have k1:=lh (fun w'=>Kw x.p w');have k2:=lh (fun (w':World) (h:Fr Non w w')=>Tm B x.xs.length x.c x.A x.xs Bx.may w' rfl (hat.1.fr h zr) hl (fun y _ w'' _=>Tn y w''));generalize Dc x.p=b1 at*;generalize x.xs.all Bx.may=b2 at*;generalize x.xs.length=n at*;clear hat hl
 cases b1
 all_goals
  go_enter func179,ntmps179
  go_wp2_with (first
   |(go_at_call 178;(with_reducible refine (k1.out _).mono ?_);rintro _ w1 ⟨rfl,f1⟩;have hb1:=hb0.fr f1 zq;have c1:=hb1.cell 1;have fz1:=f0.trans f1 zr;clear k1)
   |(go_at_call 180;(with_reducible refine (k2.out _ fz1).mono ?_);rintro _ w2 ⟨rfl,f2⟩;have fz2:=fz1.trans f2 zr;clear k2))
  go_ret
  first|exact ⟨rfl,fz2⟩|exact ⟨rfl,fz1⟩
