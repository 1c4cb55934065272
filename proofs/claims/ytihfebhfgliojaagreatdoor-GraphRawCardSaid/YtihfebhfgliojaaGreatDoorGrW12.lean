/-
  Contracts of the functions that the claim's statement reaches, walked one by one (part 12).
  Conditions: as each theorem says.
-/
import Derived.Test.YtihfebhfgliojaaGreatDoorGrW11
set_option maxRecDepth 100000
set_option maxHeartbeats 16000000
open Bool renaming not_eq_true->An5,not_false->Ao2,not_true->Ao3,or_false->Ao6,and_eq_true->Ap1
open List renaming getElem?_eq_getElem->An3,length_append->An4,mem_of_getElem?->An6,getElem?_map->An7,mem_singleton->Ao0,take_of_length_le->Ao1,nodup_nil->Ao4,contains_iff_mem->Ao5,flatMap_append->Ao7,eq_replicate_iff->Ao8,getElem_map->Ao9,not_mem_nil->Ap0,getElem?_eq_none->Ap2,find?_append->Ap3
open Nat renaming le_trans->An8
open Go.World renaming size_alloc->An9
open Go.Proofs.Tryz
open Go.Proofs.Tryz renaming prog->zp
open Go.Lib renaming hid->lh
open List renaming set->zl
open Go.Ending renaming returned->ze
namespace Go.Proofs.YtihfebhfgliojaaGreatDoor
open Go.RowKit
attribute [local go_sem ↓] Go.wp_at_zero Go.wp_at_succ
namespace Oq
attribute [local go_sem] Ao2 Ao3
attribute [local go_sem ↓] Et
def Bl (l:List Pn) (above ids:List Id):Nat->List Id
 |0=>above
 |k+1=>match ids[k]? with
  |some y=>if (plc l y).isSome&& !Bi (Bl l above ids k) y then Bl l above ids k++[y] else Bl l above ids k
  |none=>Bl l above ids k
def Fe (l:List Pn) (ids:List Id):List Id:=An (Bl l (Cp l ids) ids ids.length)
theorem Q4 {l:List Pn} {above ids:List Id} {k:Nat} {y:Id} (h:ids[k]? =some y):
  Bl l above ids (k+1)=if (plc l y).isSome&& !Bi (Bl l above ids k) y then Bl l above ids k++[y] else Bl l above ids k:=by
 show (match ids[k]? with|some y=>if (plc l y).isSome&& !Bi (Bl l above ids k) y then Bl l above ids k++[y] else Bl l above ids k|none=>Bl l above ids k)=_;rw [h]
theorem Q5 (l:List Pn) (above ids:List Id):∀k,(Bl l above ids k).length<=above.length+k
 |0=>Nat.le_refl _
 |k+1=>by
  have ih:=Q5 l above ids k;unfold Bl
  split
  ·
   split
   · rw [An4,List.length_singleton];omega
   · omega
  · omega
theorem Ac0 (base:Nat) (r:RG) (B n c:Nat) (A:Option Addr) (ids:List Id) (w:World) (h:r.own w base) (hn:Hid (ids.length=n)) (hr:Rd w B 3 A n (ids.flatMap Id.cells)) (hnm:n<=100000):
  Calls zp 80 #[.agg r.cells,.slice A n c] w (Co (Fe r.l ids) w):=by
 have bg:=Blk.new w 32 r.cells;have f0:Fr Non w (w.alloc (.cells r.cells 32)):=(Fr.refl Non w).alloc _;have kp:=lh (fun (id:Id) (w':World) (hf:Fr Non w w')=>G7 base r id w' (h.non hf));have hl:=Bb (P:=zp) w.heap.size 32 underlying32 rfl (cs:=r.cells) Cz;have a6:=lh (fun (w':World) (hf:Fr Non w w')=>Qy base r B n c A ids w' (h.non hf) hn (hr.fr hf zr) (by omega));have br:(Cp r.l ids).length<=1000:=An8 (Qz _ _) (An8 h.few (by omega));have a8:=lh (fun k y (hy:ids[k]? =some y)=>Q4 (l:=r.l) (above:=Cp r.l ids) hy);have a5:=lh (Q5 r.l (Cp r.l ids) ids);have av:Hid (∀id,0<=As r.l id<->(plc r.l id).isSome=true):=fun id=>plcI_pos;have bh:Hid (Fe r.l ids=An (Bl r.l (Cp r.l ids) ids n)):=by show _=_;rw [<- hn.out];rfl
 have be:Hid (Cp r.l ids=Bl r.l (Cp r.l ids) ids 0):=rfl;rw [bh.out];change Hid (∀(w':World),Fr Non w w'->Calls zp 135 #[.agg r.cells,.slice A n c] w' (Co (Cp r.l ids) w')) at a6;clear h bh;generalize Cp r.l ids=ab at*;generalize r.cells=CS at*;generalize r.l=l at*;go_enter func80,ntmps80;go_upto_region 1 with (fail)
 have bp:=f0.size;generalize w.alloc (.cells CS 32)=w0 at*;go_wp2_with (go_at_call 135;(with_reducible refine (a6.out _ f0).mono ?_);rintro _ w1 ⟨A1,c1,rfl,o1,f1⟩;have bq:=f0.trans f1 zr;have b1:=bg.fr f1 zq;clear a6);have bu:=f1.size
 go_loopw [5,6] (fun s v wr=>∃(k:Nat) (Ax:Option Addr) (cx:Nat) (xs:List Id),v=.int .i64 (k:Int)/\s=.slice Ax xs.length cx/\k<=n/\Hid (xs=Bl l ab ids k)/\Own wr w0.heap.size 38 3 Ax xs.length cx (xs.flatMap Id.cells)/\Fr Non w0 wr) (fun _ v _=>n-(intOf v).toNat)
 case atStart=>exact ⟨0,A1,c1,ab,rfl,rfl,by omega,be,o1,f1⟩
 case round=>
  obtain ⟨k,Ax,cx,xs,rfl,rfl,hk,aw,aj,hf⟩:=hrel;have a1:Fr Non w wr:=f0.trans hf zr;have a7:=aj.row;have bt:xs.length<=ab.length+k:=by rw [aw.out];exact a5.out k
  by_cases hlt:k<n
  ·
   obtain ⟨y,hy⟩:∃y,ids[k]? =some y:=⟨_,An3 (by rw [hn.out];exact hlt)⟩;obtain ⟨b,ak,rfl,bd,k0,k1,k2⟩:=Id.at (hr.fr a1 zr) hy;have ap:=lh (a8.out k y hy);rw [<- aw.out] at ap;obtain ⟨i1,i2,i3⟩:=ix k n
   have B0:=(bg.fr hf zq).drew;have a3:Fr Non w wr.drew:=a1.drew;have ag:cI wr.drew b (ak+k*3) y.b:=k0;have ah:cI wr.drew b (ak+k*3+1) y.s:=k1;have af:cU wr.drew b (ak+k*3+2) y.u:=k2;have O0:Own wr.drew w0.heap.size 38 3 Ax xs.length cx (xs.flatMap Id.cells):=aj.drew;have H0:Fr Non w0 wr.drew:=hf.drew;have ax:=lh (kp.out y wr.drew a3);have az:Hid (∀w',Own w' w0.heap.size 38 3 Ax xs.length cx (xs.flatMap Id.cells)->Calls zp 31 #[.slice Ax xs.length cx,.agg y.V] w' (Ae (Bi xs y) w')):=fun w' hw=>Hk _ xs.length cx Ax xs y w' rfl hw.rd (by omega);have a4:=av.out y
   have a0:Hid (∀b,(plc l y).isSome=b->decide (As l y>=0)=b):=fun b e=>by
    subst e
    cases hq:(plc l y).isSome with
    |true=>exact decide_eq_true (a4.2 hq)
    |false=>exact decide_eq_false (fun e=>by rw [a4.1 e] at hq;cases hq)
   clear kp a8 a5 k0 k1 k2 hy av a4 be;generalize Bi xs y=h2 at*;obtain ⟨ps,a9⟩:∃b,(plc l y).isSome=b:=⟨_,rfl⟩;have hP:=a0.out ps a9;rw [a9] at ap;clear a0 a9;generalize As l y=P at*
   cases ps
   case false=>
    go_upto_region 5 with (fail)
    clear aj hf bd;refine wp_region_held_drew (S:=fun w'=>Blk w' w.heap.size 32 CS/\cI w' b (ak+k*3) y.b/\cI w' b (ak+k*3+1) y.s/\cU w' b (ak+k*3+2) y.u) (by kernel_rfl) ⟨B0,ag,ah,af⟩ (fun hHeld=> ?_);clear hHeld;have uu:=aI B0 (aI ag (aI ah af));refine tkH 0 uu (h:=tkH 1 uu (h:=tkH 2 uu (h:=tkH 3 uu (h:=tkH 4 uu (h:=?_)))));clear uu;simp only [zl];refine oG 5 (fun K hK=> ?_);go_simp;go_wp2_with (go_at_call 56;(with_reducible refine (ax.out).mono ?_);rintro _ v1 ⟨rfl,ae⟩;have B1:=B0.fr ae zq;obtain ⟨ac,ad,aa⟩:=zk3 ae ag ah af;have a2:=a3.trans ae zr;have O1:=O0.fr ae zr;have H1:=H0.trans ae zr);refine hK.out _ _ ⟨B1,ac,ad,aa⟩ (fun hZ=> ?_);clear hZ hK K;try simp only [Ac,zl]
    have uu:=aI B1 (aI ac (aI ad aa));refine tkH 6 uu (h:=tkH 7 uu (h:=skH 8 uu (h:=skH 9 uu (h:=skH 10 uu (h:=skH 11 uu (h:=skH 12 uu (h:=skH 13 uu (h:=skH 14 uu (h:=tkH 15 uu (h:=?_))))))))));clear uu;simp only [zl];refine oD ?_;go_simp;have al:Hid (xs=Bl l ab ids (k+1)):=by show _=_;rw [ap.out];rfl
    have hz:=H1;have oz:=O1;clear ap aw ax az;go_wp2_with fail;go_roundw
    case rel=>exact ⟨k+1,Ax,cx,xs,by go_num,rfl,by omega,al,oz,hz⟩
    case measure=>simp [intOf];omega
   case true=>
    cases h2
    case true=>
     go_upto_region 5 with (fail)
     clear aj hf bd;refine wp_region_held_drew (S:=fun w'=>Blk w' w.heap.size 32 CS/\cI w' b (ak+k*3) y.b/\cI w' b (ak+k*3+1) y.s/\cU w' b (ak+k*3+2) y.u) (by kernel_rfl) ⟨B0,ag,ah,af⟩ (fun hHeld=> ?_);clear hHeld;have uu:=aI B0 (aI ag (aI ah af));refine tkH 0 uu (h:=tkH 1 uu (h:=tkH 2 uu (h:=tkH 3 uu (h:=tkH 4 uu (h:=?_)))));clear uu;simp only [zl];refine oG 5 (fun K hK=> ?_);go_simp;go_wp2_with (go_at_call 56;(with_reducible refine (ax.out).mono ?_);rintro _ v1 ⟨rfl,ae⟩;have B1:=B0.fr ae zq;obtain ⟨ac,ad,aa⟩:=zk3 ae ag ah af;have a2:=a3.trans ae zr;have O1:=O0.fr ae zr;have H1:=H0.trans ae zr);refine hK.out _ _ ⟨B1,ac,ad,aa⟩ (fun hZ=> ?_);clear hZ hK K;try simp only [Ac,zl]
     have uu:=aI B1 (aI ac (aI ad aa));refine tkH 6 uu (h:=tkH 7 uu (h:=tkH 8 uu (h:=tkH 9 uu (h:=tkH 10 uu (h:=tkH 11 uu (h:=tkH 12 uu (h:=?_)))))));clear uu;simp only [zl];refine oG 13 (fun K hK=> ?_);go_simp;go_wp2_with (go_at_call 31;(with_reducible refine (az.out _ O1).mono ?_);rintro _ v2 ⟨rfl,ai⟩;have B2:=B1.fr ai zq;obtain ⟨ar,ao,au⟩:=zk3 ai ac ad aa;have bo:=a2.trans ai zr;have O2:=O1.fr ai zr;have H2:=H1.trans ai zr);refine hK.out _ _ ⟨B2,ar,ao,au⟩ (fun hZ=> ?_);clear hZ hK K;try simp only [Ac,zl]
     refine tkH 14 ⟨B2,ar,ao,au⟩ (h:=tkH 15 ⟨B2,ar,ao,au⟩ (h:=?_));simp only [zl];refine oD ?_;go_simp;have al:Hid (xs=Bl l ab ids (k+1)):=by show _=_;rw [ap.out];rfl
     have hz:=H2;have oz:=O2;clear ap aw ax az;go_wp2_with fail;go_roundw
     case rel=>exact ⟨k+1,Ax,cx,xs,by go_num,rfl,by omega,al,oz,hz⟩
     case measure=>simp [intOf];omega
    case false=>
     go_upto_region 5 with (fail)
     clear aj hf bd;refine wp_region_held_drew (S:=fun w'=>Blk w' w.heap.size 32 CS/\cI w' b (ak+k*3) y.b/\cI w' b (ak+k*3+1) y.s/\cU w' b (ak+k*3+2) y.u) (by kernel_rfl) ⟨B0,ag,ah,af⟩ (fun hHeld=> ?_);clear hHeld;have uu:=aI B0 (aI ag (aI ah af));refine tkH 0 uu (h:=tkH 1 uu (h:=tkH 2 uu (h:=tkH 3 uu (h:=tkH 4 uu (h:=?_)))));clear uu;simp only [zl];refine oG 5 (fun K hK=> ?_);go_simp;go_wp2_with (go_at_call 56;(with_reducible refine (ax.out).mono ?_);rintro _ v1 ⟨rfl,ae⟩;have B1:=B0.fr ae zq;obtain ⟨ac,ad,aa⟩:=zk3 ae ag ah af;have a2:=a3.trans ae zr;have O1:=O0.fr ae zr;have H1:=H0.trans ae zr);refine hK.out _ _ ⟨B1,ac,ad,aa⟩ (fun hZ=> ?_);clear hZ hK K;try simp only [Ac,zl]
     have uu:=aI B1 (aI ac (aI ad aa));refine tkH 6 uu (h:=tkH 7 uu (h:=tkH 8 uu (h:=tkH 9 uu (h:=tkH 10 uu (h:=tkH 11 uu (h:=tkH 12 uu (h:=?_)))))));clear uu;simp only [zl];refine oG 13 (fun K hK=> ?_);go_simp;go_wp2_with (go_at_call 31;(with_reducible refine (az.out _ O1).mono ?_);rintro _ v2 ⟨rfl,ai⟩;have B2:=B1.fr ai zq;obtain ⟨ar,ao,au⟩:=zk3 ai ac ad aa;have bo:=a2.trans ai zr;have O2:=O1.fr ai zr;have H2:=H1.trans ai zr);refine hK.out _ _ ⟨B2,ar,ao,au⟩ (fun hZ=> ?_);clear hZ hK K;try simp only [Ac,zl]
     refine tkH 14 ⟨B2,ar,ao,au⟩ (h:=tkH 15 ⟨B2,ar,ao,au⟩ (h:=?_));simp only [zl];refine oD ?_;go_simp;have al:Hid (xs++[y]=Bl l ab ids (k+1)):=by show _=_;rw [ap.out];rfl
     have hz:=H2;have oz:=O2;have e0:=ar;have e1:=ao;have e2:=au;clear ap aw ax az;have ba:=oz.alloc (.cells y.V 38);have bj:=hz.alloc (.cells y.V 38);have bk:=Blk.new v2 38 y.V;have bs:=hz.size;go_wp2_with (at_builtin;go_loud (refine Aw (base:=w0.heap.size) (.tmp 32) (.tmp 37) 28 rfl rfl rfl rfl C1 ba (Rd.blk (n:=1) (size:=3) bk rfl) (by simp [Value.oneCell']) (by omega) (by omega) (by rw [An9];omega) ?_);intro A2 bi w4 bb bn bm)
     have bc:Own w4 w0.heap.size 38 3 A2 (xs++[y]).length bi ((xs++[y]).flatMap Id.cells):=by
      rw [An4,Ao7];exact bb
     have bl:Fr Non w0 w4:=bj.trans bn (fun j hj e=>by have h5:=(a7 j e).1;omega);go_roundw
     case rel=>exact ⟨k+1,A2,bi,xs++[y],by go_num,by rw [An4];rfl,by omega,al,bc,bl⟩
     case measure=>simp [intOf];omega
  ·
   obtain rfl:k=n:=by omega
   have ks:=lh (Fm wr.heap.size xs.length cx Ax xs wr rfl aj.rd (by omega))
   have ay:Hid (∀e w',SortPost xs xs.length wr e w'->Co (An (Bl l ab ids k)) w e w'):=by
    rintro e w' ⟨A5,c5,h1,h2,h3⟩;have bf:(An xs).length=xs.length:=E0 xs;rw [<- aw.out];exact ⟨A5,c5,by rw [bf];exact h1,by rw [bf];exact h2.lower a1.size,a1.trans h3 zr⟩
   generalize Co (An (Bl l ab ids k)) w=POST at*;clear aw aj hr bg a8 a5 av kp;go_wp2_with (go_at_call 48;(with_reducible refine (ks.out).mono ?_);rintro _ w7 ⟨A5,c5,rfl,h5,h6⟩;have aq:=lh (ay.out _ _ ⟨A5,c5,rfl,h5,h6⟩);clear ks ay h5 h6)
   first|exact aq.out|(go_ret;exact aq.out)
end Oq
namespace Oq
theorem Ac1 (z:Array Value) (v:Value) (m:Nat) (h0:0<z.size) (h:∀i,i<z.size->z[i]! =v):(madeCells z m).toList=List.replicate m v:=by
 unfold madeCells;rw [Array.toList_map,Ao8];refine ⟨by simp,fun u hu=> ?_⟩;obtain ⟨i,_,rfl⟩:=List.mem_map.1 hu;exact h _ (Nat.mod_lt _ h0)
theorem Ac2 {P:Program} {o:Oper} {a:Act} {K:Act->World->Prop} {Q:Exit->Act->World->Prop} {w:World} (l:Operand) (t:TypeId) (hop:o.op=Op.makeSlice t l l) {e:TypeId} {size bytes:Nat} {z:Value} (hT:SlT P t e z size bytes)
  {N:Int} {n:Nat} (hl:a.eval l=.int .i64 N) (hN:N=(n:Int)) (b2:bytes*n<=281474976710656) (b3:n<=9223372036854775807)
  (hK:∀w',Own w' w.heap.size e size (some ⟨w.heap.size,0,none⟩) n n (madeCells z.cells (n*size)).toList->Fr Non w w'->K (a.put o.dst (.slice (some ⟨w.heap.size,0,none⟩) n n)) w'):Oper.wp P o a w K Q:=by
 obtain ⟨ht,hinfo,_,_⟩:=hT;obtain ⟨i,hi,hz,hsize,hby⟩:=info_parts hinfo;subst hN;obtain ⟨w',hrun,r1,r2⟩:=run_make_full (P:=P) (w:=w) w.heap.size t e i z size ht hi hz hsize .i64 .i64 n (by rw [hby];exact b2) (by unfold maxLen;exact b3) (Nat.le_refl _);have hf:Fr Non w w':=⟨r2.os,r2.tape,r2.output,r2.size,fun j hj _=>r2.block j hj (fun e=>by cases e)⟩;have hk':=hK w' r1 hf;unfold Oper.wp execOp;simp only [hop,hl,hrun,Sem.run_bind,Result.andThen_ok,Sem.run_pure];exact hk'
theorem Ac3 {P:Program} {ops:Array Oper} {rest:List Oper} {o:Oper} {a:Act} {Q:Exit->Act->World->Prop} {w:World} (hg:o.guard=none) (l:Operand) (t:TypeId) (hop:o.op=Op.makeSlice t l l) {e:TypeId} {size bytes:Nat} {z:Value} (hT:SlT P t e z size bytes)
  {N:Int} {n:Nat} (hl:a.eval l=.int .i64 N) (hN:N=(n:Int)) (b2:bytes*n<=281474976710656) (b3:n<=9223372036854775807)
  (hK:∀w',Own w' w.heap.size e size (some ⟨w.heap.size,0,none⟩) n n (madeCells z.cells (n*size)).toList->Fr Non w w'->wpList P ops Q rest (a.put o.dst (.slice (some ⟨w.heap.size,0,none⟩) n n)) w'):wpList P ops Q (o::rest) a w:=
 wpList_plain hg fun _ hK'=>Ac2 l t hop hT hl hN b2 b3 (fun w' h1 h2=>hK' _ _ (hK w' h1 h2))
end Oq
namespace Oq
attribute [local go_sem] Ao2 Ao3
attribute [local go_sem ↓] Et
theorem Ea {P:Program} {o:Oper} {a:Act} {K:Act->World->Prop} {Q:Exit->Act->World->Prop} {w:World} (s x:Operand) (t:TypeId)
  (ho:o.op=.call {callee:=.builtin .append,args:=#[s,x],argTypes:=#[t,t]})
  {base size n c:Nat} {e:TypeId} {A:Option Addr} {xs:List Value} {z:Value} {bytes m cx B:Nat} {Ax:Option Addr} {news:List Value}
  (hs:a.eval s=.slice A n c) (hx:a.eval x=.slice Ax m cx)
  (hT:SlT P t e z size bytes) (h:Own w base e size A n c xs) (hr:Rd w B size Ax m news)
  (h1:∀u∈news,u.oneCell'=true) (hbytes:(n+m)*bytes<=140737488355328) (hmax:n+m<=9223372036854775807) (hbase:base<=w.heap.size)
  (hk:∀A' c' w',Own w' base e size A' (n+m) c' (xs++news)->Fr (fun k=>Ab A=some k) w w'->(Ab A'=Ab A\/Ab A'=some w.heap.size)->
   K (a.put o.dst (.slice A' (n+m) c')) w'):Oper.wp P o a w K Q:=by
 obtain ⟨A',c',w',hrun,h2,h3,h4⟩:=Gm (P:=P) (ty:=o.type) (cx:=cx) hT h hr h1 hbytes hmax hbase;unfold Oper.wp execOp;simp only [ho,resolve,invoke,builtin,Sem.run_bind,Sem.run_pure,Result.andThen_ok,List.map_toArray,List.map_cons,List.map_nil,hs,hx,hrun];exact hk A' c' w' h2 h3 h4
def Eb (l:List Pn) (cs:List Id):Prop:=cs.Nodup/\∀id∈cs,(plc l id).isSome=true
theorem Rows.idsNodup {cards:List Cd} {l:List Pn} (h:Rows cards l):(l.map Pn.id).Nodup:=by
 refine List.pairwise_iff_getElem.2 (fun i j hi hj hij e=> ?_);rw [List.length_map] at hi hj;rw [Ao9,Ao9] at e;have h1:=(h.ok i _ (An3 hi)).plc;have h2:=(h.ok j _ (An3 hj)).plc;rw [e,h2] at h1;injection h1 with h1
 omega
theorem Rows.placed {cards:List Cd} {l:List Pn} (h:Rows cards l) {id:Id} (hid:id∈l.map Pn.id):(plc l id).isSome=true:=by
 obtain ⟨n,hn,rfl⟩:=List.mem_map.1 hid;obtain ⟨i,hi⟩:=List.getElem?_of_mem hn;rw [(h.ok i n hi).plc];rfl
theorem Q6 {cards:List Cd} {l:List Pn} (h:Rows cards l):Eb l (An (l.map Pn.id)):=
 ⟨(C3 _).nodup_iff.2 h.idsNodup,fun _ hid=>h.placed ((C3 _).subset hid)⟩
theorem Q7 (l:List Pn) (p:Nat->Bool):∀k,∀id∈Cj l p k,∃i m,i<k/\p i=true/\l[i]? =some m/\m.id=id:=by
 intro k id hid;unfold Cj at hid;obtain ⟨i,hi,h⟩:=List.mem_filterMap.1 hid;rw [List.mem_range] at hi
 cases hp:p i with
 |false=>rw [hp] at h;cases h
 |true=>
  rw [hp,if_pos rfl] at h
  cases hm:l[i]? with
  |none=>rw [hm] at h;cases h
  |some m=>rw [hm] at h;injection h with h;exact ⟨i,m,hi,hp,hm,h⟩
theorem Ac4 {cards:List Cd} {l:List Pn} (h:Rows cards l) (p:Nat->Bool):∀k,(Cj l p k).Nodup:=by
 intro k
 induction k with
 |zero=>exact Ao4
 |succ k ih=>
  cases hm:l[k]? with
  |none=>
   have:Cj l p (k+1)=Cj l p k:=by
    unfold Cj;rw [List.range_succ,List.filterMap_append];simp [hm]
   rw [this];exact ih
  |some m=>
   rw [Qu l p k hm]
   cases hp:p k with
   |false=>simpa using ih
   |true=>
    rw [if_pos rfl,List.nodup_append];refine ⟨ih,List.nodup_cons.2 ⟨Ap0,Ao4⟩,?_⟩;intro a ha b hb e;rw [Ao0] at hb;obtain ⟨i,m',hi,_,hm',e'⟩:=Q7 l p k a ha;have h1:=(h.ok i m' hm').plc;have h2:=(h.ok k m hm).plc;rw [e',e,hb,h2] at h1;injection h1 with h1
    omega
theorem Ac5 {cards:List Cd} {l:List Pn} (h:Rows cards l) (ids:List Id):Eb l (Cp l ids):=by
 refine ⟨(C3 _).nodup_iff.2 (Ac4 h _ _),fun id hid=> ?_⟩;obtain ⟨i,m,_,_,hm,rfl⟩:=Q7 l _ _ id ((C3 _).subset hid);exact h.placed (List.mem_map_of_mem (An6 hm))
theorem Ac6 {l:List Pn} {above ids:List Id} (h:Eb l above):∀k,Eb l (Bl l above ids k):=by
 intro k
 induction k with
 |zero=>exact h
 |succ k ih=>
  cases hy:ids[k]? with
  |none=>
   have:Bl l above ids (k+1)=Bl l above ids k:=by
    show (match ids[k]? with|some y=>if (plc l y).isSome&& !Bi (Bl l above ids k) y then Bl l above ids k++[y] else Bl l above ids k|none=>Bl l above ids k)=_;rw [hy]
   rw [this];exact ih
  |some y=>
   rw [Q4 hy]
   split
   ·
    rename_i hc;rw [Ap1,Bool.not_eq_true'] at hc;refine ⟨List.nodup_append.2 ⟨ih.1,List.nodup_cons.2 ⟨Ap0,Ao4⟩,?_⟩,?_⟩
    ·
     intro a ha b hb e;rw [Ao0] at hb;rw [e,hb] at ha;rw [(Hj _ _).2 ha] at hc;exact absurd hc.2 (by simp)
    ·
     intro id hid
     rcases List.mem_append.1 hid with h1|h1
     · exact ih.2 id h1
     ·
      rw [Ao0] at h1;rw [h1];exact hc.1
   · exact ih
theorem Ac7 {cards:List Cd} {l:List Pn} (h:Rows cards l) (ids:List Id):Eb l (Fe l ids):=by
 have k:=Ac6 (Ac5 h ids) (ids:=ids) ids.length;exact ⟨(C3 _).nodup_iff.2 k.1,fun id hid=>k.2 id ((C3 _).subset hid)⟩
def I0 (l:List Pn) (w:World) (e:Ending) (w':World):Prop:=∃cs:List Id,Co cs w e w'/\Eb l cs/\RowW cs
theorem Ac8 (l:List Id):(An l).length=l.length:=(C3 l).length_eq
theorem Ac9 (base:Nat) (r:RG) (B n c:Nat) (A:Option Addr) (l0:List Int) (w:World) (h:r.own w base) (hn:Hid (l0.length=n)) (hr:Rd w B 1 A n (l0.map Iv)) (hok:∀x∈l0,I64 x):
  Calls zp 26 #[.agg r.cells,.slice A n c] w (I0 r.l w):=by
 have a0:=h.few;have bg:=Blk.new w 32 r.cells;have f0:Fr Non w (w.alloc (.cells r.cells 32)):=(Fr.refl Non w).alloc _;have g1:Hid (r.cells[1]? =some (.slice r.lA r.l.length r.lC)):=rfl;have g2:Hid (r.cells[2]? =some (.slice r.iA r.l.length r.iC)):=rfl;have hl:=Bb (P:=zp) w.heap.size 32 underlying32 rfl (cs:=r.cells) Cz;have ka:=lh (fun (w':World) (hf:Fr Non w w')=>Lf base r w' (h.non hf));have a4:Hid (Eb r.l (An r.ids)/\RowW (An r.ids)):=⟨Q6 h.rows,Hl _⟩;have ar:Hid ((An r.ids).length=r.l.length):=by show _=_;rw [Ac8,Qr]
 have kw:=lh (fun (A':Option Addr) (c':Nat) (ids:List Id) (w':World) (hf:Fr Non w w') (ho:Rd w' w'.heap.size 3 A' ids.length (ids.flatMap Id.cells)) (hle:ids.length<=1000)=>Ac0 base r w'.heap.size ids.length c' A' ids w' (h.non hf) rfl ho (by omega));have ao:Hid (∀ids,Eb r.l (Fe r.l ids)/\RowW (Fe r.l ids)):=fun ids=>⟨Ac7 h.rows ids,Hl _⟩;have hid:=lh (fun (p:Nat) (hp:p<r.l.length)=>h.idAt hp)
 have ab:Hid (∀(cs:List Id) w1 e w',Fr Non w w1->Co cs w1 e w'->Eb r.l cs/\RowW cs->I0 r.l w e w'):=by
  rintro cs w1 e w' hf ⟨A5,c5,h1,h2,h3⟩ ⟨h4,h5⟩;exact ⟨cs,⟨A5,c5,h1,h2.lower hf.size,hf.trans h3 zr⟩,h4,h5⟩
 clear h;unfold SortPost at ka;generalize An r.ids=SI at*;generalize r.lA=LA at*;generalize r.lC=LC at*;generalize r.iA=IA at*;generalize r.iC=IC at*;generalize r.cells=CS at*;generalize I0 r.l w=POST at*;generalize r.l=l at*;obtain ⟨N,hN⟩:=Aa l.length;rw [hN.out] at g1 g2 hid a0 ar
 by_cases hz:n=0\/N=0
 ·
  have c1:=(bg.cell 1).trans g1.out
  have tt:((n:Int)==0)=true\/((n:Int)==0)=false/\((N:Int)==0)=true:=by
   rcases hz with e|e
   · exact .inl (by simp [e])
   ·
    by_cases e2:n=0
    · exact .inl (by simp [e2])
    · exact .inr ⟨by simp;omega,by simp [e]⟩
  rcases tt with t1|⟨t1,t2⟩
  all_goals
   clear kw ao hid hr hz;go_enter func26,ntmps26;go_upto_region 1 with (fail)
   generalize w.alloc (.cells CS 32)=w0 at*;go_wp2_with (go_at_call 22;(with_reducible refine (ka.out _ f0).mono ?_);rintro _ w1 ⟨A1,c1,rfl,o1,f1⟩;have hd:=lh (ab.out SI w0 (.returned (.slice A1 l.length c1)) w1 f0 ⟨A1,c1,by rw [ar.out,hN.out],by rw [ar.out,<- hN.out];exact o1,f1⟩ a4.out);clear ka o1 f1 ab a4)
   first|exact hd.out|(go_ret;exact hd.out)
 ·
  have t1:((n:Int)==0)=false:=by simp;omega
  have t2:((N:Int)==0)=false:=by simp;omega
  have c1:=(bg.cell 1).trans g1.out;clear ka a4 ar;go_enter func26,ntmps26;go_upto_region 1 with (fail)
  have bk:=f0.size;generalize w.alloc (.cells CS 32)=w0 at*;go_wp2_with fail;clear c1
  go_loopw [5,6] (fun s v wr=>∃(k:Nat) (Ax:Option Addr) (cx:Nat) (xs:List Id),v=.int .i64 (k:Int)/\s=.slice Ax xs.length cx/\k<=4/\k<=n/\Hid (xs.length=k)/\Own wr w0.heap.size 38 3 Ax xs.length cx (xs.flatMap Id.cells)/\Fr Non w0 wr) (fun _ v _=>4-(intOf v).toNat)
  case atStart=>exact ⟨0,none,0,[],rfl,rfl,by omega,by omega,rfl,Own.nil _ _ _ _,Fr.refl _ _⟩
  case round=>
   obtain ⟨k,Ax,cx,xs,rfl,rfl,bf,bm,ax,af,hf⟩:=hrel;have aj:Fr Non w wr:=f0.trans hf zr;have ak:=af.row;have bn:xs.length<=4:=by rw [ax.out];exact bf
   by_cases hlt:k<n/\k<4
   ·
    have i0:decide ((k:Int)<(n:Int))=true:=decide_eq_true (by omega);have bl:decide ((k:Int)<4)=true:=decide_eq_true (by omega);obtain ⟨q,hq⟩:∃q,l0[k]? =some q:=⟨_,An3 (by rw [hn.out];exact hlt.1)⟩;obtain ⟨b,ay,u,rfl,bp,hu,c0⟩:=hr.at hlt.1;rw [An7,hq] at hu;injection hu with hu
    subst hu;replace c0:cI w b (ay+k) q:=c0;have a3:=hok q (An6 hq);obtain ⟨bq,bb⟩:=Jl (n:=q) (m:=(N:Int)) (by omega);obtain ⟨p,hp⟩:∃p:Nat,C0 q (N:Int)=(p:Int):=⟨(C0 q (N:Int)).toNat,by omega⟩;have a7:=lh (fun w'=>Jm q (N:Int) w' a3.1 a3.2 (by omega) (by omega));rw [hp] at a7 bb;obtain ⟨m,b2,aa,hm,rfl,d0,d1,d2⟩:=hid.out p (by omega);obtain ⟨i1,i2,i3⟩:=ix k n
    obtain ⟨p1,p2,p3⟩:=ix p N
    have L0:cI wr.drew b (ay+k) q:=aj.cell c0 zq;have G0:cS wr.drew w.heap.size 2 (some ⟨b2,aa,none⟩) N IC:=((bg.fr hf zq).cell 2).trans g2.out;have ad:cI wr.drew b2 (aa+p*3) m.id.b:=aj.cell d0 zq;have ae:cI wr.drew b2 (aa+p*3+1) m.id.s:=aj.cell d1 zq;have ac:cU wr.drew b2 (aa+p*3+2) m.id.u:=aj.cell d2 zq;have O0:Own wr.drew w0.heap.size 38 3 Ax xs.length cx (xs.flatMap Id.cells):=af.drew;have H0:Fr Non w0 wr.drew:=hf.drew;have gz:=lh ((bg.cell 2).trans g2.out);clear hid hm ao hq a3 bg;generalize m.id=z at*;go_upto_region 7 with (fail)
    clear hf af;refine wp_region_held_drew (S:=fun w'=>cI w' b (ay+k) q/\cS w' w.heap.size 2 (some ⟨b2,aa,none⟩) N IC/\cI w' b2 (aa+p*3) z.b/\cI w' b2 (aa+p*3+1) z.s/\cU w' b2 (aa+p*3+2) z.u) (by kernel_rfl) ⟨L0,G0,ad,ae,ac⟩ (fun hHeld=> ?_);clear hHeld;have uu:=aI L0 (aI G0 (aI ad (aI ae ac)));refine tkH 0 uu (h:=tkH 1 uu (h:=tkH 2 uu (h:=tkH 3 uu (h:=tkH 4 uu (h:=tkH 5 uu (h:=tkH 6 uu (h:=tkH 7 uu (h:=tkH 8 uu (h:=tkH 9 uu (h:=?_))))))))));clear uu;simp only [zl];refine oG 10 (fun K hK=> ?_);go_simp;go_wp2_with (go_at_call 39;(with_reducible refine (a7.out _).mono ?_);rintro _ v1 ⟨rfl,ew⟩;have ai:Fr Non wr.drew v1:=ew▸Fr.refl _ _;clear ew;obtain ⟨L1,G1,aq,au,al⟩:=zk5 ai L0 G0 ad ae ac;have O1:=O0.fr ai zr;have H1:=H0.trans ai zr);refine hK.out _ _ ⟨L1,G1,aq,au,al⟩ (fun hZ=> ?_);clear hZ hK K;try simp only [Ac,zl]
    refine tkH 11 ⟨L1,G1,aq,au,al⟩ (h:=tkH 12 ⟨L1,G1,aq,au,al⟩ (h:=?_));simp only [zl];refine oG 13 (fun K hK=> ?_);go_simp;have ah:Fr Non v1 (v1.alloc (.cells z.V 38)):=(Fr.refl _ _).alloc _;have ba:=Blk.new v1 38 z.V;obtain ⟨L2,G2,bh,a9,bj⟩:=zk5 ah L1 G1 aq au al;have O2:=O1.fr ah zr;have H2:=H1.trans ah zr;refine hK.out _ _ ⟨L2,G2,bh,a9,bj⟩ (fun hZ=> ?_);clear hZ hK K;try simp only [Ac,zl]
    generalize v1.alloc (.cells z.V 38)=v2 at*;have aw:=H2.size;refine oG 14 (fun K hK=> ?_);refine Ea (base:=w0.heap.size) (.tmp 28) (.tmp 41) 28 rfl rfl rfl C1 O2 (Rd.blk (n:=1) (size:=3) ba rfl) (by simp [Value.oneCell']) (by omega) (by omega) aw ?_;intro A2 a6 w4 az be bc;have bi:∀j,Ab Ax=some j->w0.heap.size<=j:=fun j e=>(ak j e).1;have fz:Fr Non w0 w4:=H2.trans be (fun j hj e=>by have h5:=bi j e;omega);have ap:Fr Non w w4:=f0.trans fz zr;have L3:=ap.cell c0 zq;have G3:=fz.cell gz.out zq;obtain ⟨av,a1,a5⟩:=zk3 ap d0 d1 d2;refine hK.out _ _ ⟨L3,G3,av,a1,a5⟩ (fun hZ=> ?_);clear hZ hK K;try simp only [Ac,zl]
    refine tkH 15 ⟨L3,G3,av,a1,a5⟩ (h:=?_);simp only [zl];refine oD ?_;go_simp
    have a2:Own w4 w0.heap.size 38 3 A2 (xs++[z]).length a6 ((xs++[z]).flatMap Id.cells):=by
     rw [An4,Ao7];exact az
    have bd:Hid ((xs++[z]).length=k+1):=by show _=_;rw [An4,ax.out];rfl
    clear L3 G3 av a1 a5 c0 d0 d1 d2 gz;go_wp2_with fail;go_roundw
    case rel=>exact ⟨k+1,A2,a6,xs++[z],by go_num,by rw [An4];rfl,by omega,by omega,bd,a2,fz⟩
    case measure=>simp [intOf];omega
   ·
    have kk:=lh (kw.out Ax cx xs wr aj af.rd (by omega));have a8:=lh (ao.out xs);have hd:Hid (∀e w',Co (Fe l xs) wr e w'->POST e w'):=fun e w' h=>ab.out _ wr e w' aj h a8.out
    have t3:(decide ((k:Int)<(n:Int))=true/\decide ((k:Int)<4)=false)\/decide ((k:Int)<(n:Int))=false:=by
     by_cases e:k<n
     · exact .inl ⟨decide_eq_true (by omega),decide_eq_false (by omega)⟩
     · exact .inr (decide_eq_false (by omega))
    clear kw ao ab a8 hid ax af ak;generalize Fe l xs=WL at*;unfold Co at kk hd;have bo:=bg.fr hf zq
    rcases t3 with ⟨t3,t4⟩|t3
    all_goals
     go_wp2_with (go_at_call 80;(with_reducible refine (kk.out).mono ?_);rintro _ w7 ⟨A5,c5,rfl,h5,h6⟩;have ag:=lh (hd.out _ _ ⟨A5,c5,rfl,h5,h6⟩);clear kk hd h5 h6)
     all_goals first|exact ag.out|(go_ret;exact ag.out)
theorem plcI_neg {l:List Pn} {id:Id}:As l id<0<->(plc l id).isNone=true:=by
 unfold As
 cases plc l id with
 |none=>simp
 |some p=>simp
end Oq
namespace Oq
attribute [local go_sem] Ao2 Ao3
theorem Lh {l:List Nat} {k q:Nat} {x:Nat} (h:l[k]? =some x):(l.take (k+1)).contains q=((l.take k).contains q||decide (q=x)):=by
 rw [Dz h,Bool.eq_iff_iff,Bool.or_eq_true,Ao5,Ao5,List.mem_append,Ao0,decide_eq_true_eq]
theorem Ad0 (B n c:Nat) (A:Option Addr) (l:List Nat) (x:Nat) (w:World) (hn:Hid (l.length=n)) (hr:Rd w B 1 A n (l.map Qv)) (hnm:n<=1000000):
  Calls zp 40 #[.slice A n c,.int .i64 (x:Int)] w fun e w'=>e=.returned (.bool (l.contains x))/\w=w':=by
 go_enter func40,ntmps40;go_wp2
 go_loopw [5] (fun v wr=>∃k:Nat,v=.int .i64 (k:Int)/\k<=n/\Hid ((l.take k).contains x=false)/\w=wr) (fun v _=>n-(intOf v).toNat)
 case atStart=>exact ⟨0,rfl,by omega,rfl,rfl⟩
 case round=>
  obtain ⟨k,rfl,hk,hh,rfl⟩:=hrel
  by_cases hlt:k<n
  ·
   obtain ⟨y,hy⟩:∃y,l[k]? =some y:=⟨_,An3 (by rw [hn.out];exact hlt)⟩;obtain ⟨b,off,u,rfl,hbB,hu,c0⟩:=hr.at hlt;rw [An7,hy] at hu;injection hu with hu
   subst hu;have c0':cI w b (off+k) (y:Int):=c0;clear c0;have hsn:=lh (Lh (q:=x) hy);obtain ⟨i1,i2,i3⟩:=ix k n
   by_cases he:y=x
   ·
    have hb:((y:Int)==(x:Int))=true:=Cq (by omega)
    have hfin:Hid (l.contains x=true):=by
     show _=_;rw [Ao5];exact he▸An6 hy
    clear hy;go_wp2
    go_ret
    exact ⟨by rw [hfin.out];rfl,rfl⟩
   ·
    have hb:((y:Int)==(x:Int))=false:=Cf (by omega)
    have hfin:Hid ((l.take (k+1)).contains x=false):=by
     show _=_;rw [hsn.out,hh.out,decide_eq_false (fun e=>he e.symm)];rfl
    clear hy;go_wp2;go_roundw
    case rel=>exact ⟨k+1,by go_num,by omega,hfin,by first|rfl|trivial⟩
    case measure=>first|(simp [intOf];done)|(simp [intOf];omega)
  ·
   obtain rfl:k=n:=by omega
   have hfin:Hid (l.contains x=false):=by have h:=hh.out;rw [Ao1 (by rw [hn.out];omega)] at h;exact h
   go_wp2
   go_ret
   exact ⟨by rw [hfin.out];rfl,rfl⟩
def Ct (n:Nat) (s:Nat->Bool):List Value:=(Bn n s).map Value.bool
theorem I1 {n i:Nat} (s:Nat->Bool) (h:i<n):(Ct n s)[i]? =some (.bool (s i)):=by
 unfold Ct;rw [An7,O6 h];rfl
theorem Ad1 {n i:Nat} (s:Nat->Bool):(Ct n s).set i (.bool true)=Ct n (fun q=>s q||decide (q=i)):=by
 apply List.ext_getElem?;intro j
 by_cases hj:j<n
 ·
  rw [I1 _ hj,List.getElem?_set]
  split
  ·
   rename_i e;subst e;rw [if_pos (by simp [Ct,Fw];exact hj)];simp
  ·
   rename_i e;rw [I1 _ hj,decide_eq_false (fun h=>e h.symm),Ao6]
 · rw [Ap2 (by simp [Ct,Fw];omega),Ap2 (by simp [Ct,Fw];omega)]
theorem Ad2 (n:Nat):Ct n (fun _=>false)=(madeCells (Value.bool false).cells (n*1)).toList:=by
 rw [Ac1 (Value.bool false).cells (.bool false) (n*1) (by decide) (fun i hi=>by have:i=0:=by {have:(Value.bool false).cells.size=1:=rfl;omega};subst this;rfl),Nat.mul_one];unfold Ct Bn;rw [List.map_map,Ao8];exact ⟨by simp,fun b hb=>by obtain ⟨x,_,rfl⟩:=List.mem_map.1 hb;rfl⟩
theorem I2:SlT zp 108 4 (.bool false) 1 1:=⟨underlying108,by kernel_rfl,rfl,by decide⟩
def I3 (n:Nat) (s:Nat->Bool) (w:World) (e:Ending) (w':World):Prop:=
 ∃A c,e=.returned (.slice A n c)/\Own w' w.heap.size 4 1 A n c (Ct n s)/\Fr Non w w'
structure Cu (w wr:World) (CS:Array Value) (n:Nat) (s:Nat->Bool):Prop where
 bg:Blk wr w.heap.size 32 CS
 own:Own wr (w.heap.size+1) 4 1 (some ⟨w.heap.size+1,0,none⟩) n n (Ct n s)
 fr:Fr Non w wr
theorem Cu.set {w wr:World} {CS:Array Value} {n:Nat} {s:Nat->Bool} (h:Cu w wr CS n s) {i:Nat} (hi:i<n):
  w.heap.size+1<wr.heap.size/\wr.cell? ⟨w.heap.size+1,i,none⟩=some (.bool (s i))/\wr.frozen? ⟨w.heap.size+1,i,none⟩=false/\Cu w (wr.setCell ⟨w.heap.size+1,i,none⟩ (.bool true)) CS n (fun q=>s q||decide (q=i)):=by
 obtain ⟨g,e,_,h2,h3,h4,h5⟩:=h.own.setAt (j:=i) (by omega) (.bool true);injection e with e
 injection e with e
 subst e;exact ⟨h2,h3 _ (I1 s hi),h4,h.bg.far (p:=⟨_,_,_⟩) (fun e=>by have e':w.heap.size=w.heap.size+1:=e;omega) _,by rw [Ad1] at h5;exact h5,h.fr.setNew (by omega) _ _⟩
theorem Cu.is {w wr:World} {CS:Array Value} {n:Nat} {s t:Nat->Bool} (h:Cu w wr CS n s) (e:∀q,s q=t q):Cu w wr CS n t:=by
 have:s=t:=funext e;subst this;exact h
theorem Cu.post {w wr:World} {CS:Array Value} {n:Nat} {s:Nat->Bool} (h:Cu w wr CS n s):I3 n s w (.returned (.slice (some ⟨w.heap.size+1,0,none⟩) n n)) wr:=⟨_,_,rfl,h.own.lower (by omega),h.fr⟩
theorem Q8 (base:Nat) (r:RG) (B n c:Nat) (A:Option Addr) (up:List Nat) (w:World) (h:r.own w base) (hn:Hid (up.length=n)) (hr:Rd w B 1 A n (up.map Qv)) (hnm:n<=1000000):
  Calls zp 61 #[.agg r.cells,.slice A n c] w (I3 r.l.length (C5 (Df r.l) up r.l.length (fun _=>false)) w):=by
 have bb:=h.few;have bg:=Blk.new w 32 r.cells;have f0:Fr Non w (w.alloc (.cells r.cells 32)):=(Fr.refl Non w).alloc _;have a4:(w.alloc (.cells r.cells 32)).heap.size=w.heap.size+1:=An9 _ _;have g1:Hid (r.cells[1]? =some (.slice r.lA r.l.length r.lC)):=rfl;have g3:Hid (r.cells[3]? =some (.slice r.uA r.l.length r.uC)):=rfl;have ap:=lh (fun (x:Nat) (w':World) (hf:Fr Non w w')=>Ad0 B n c A up x w' hn (hr.fr hf zr) hnm)
 have ak:Hid (∀i,i<r.l.length->∃(us:List Nat) (A2:Option Addr) (c2 b al:Nat),r.uA=some ⟨b,al,none⟩/\cS w b (al+i) A2 us.length c2/\Df r.l i=us/\us.length<=1000/\Rd w w.heap.size 1 A2 us.length (us.map Qv)/\∀q∈us,q<r.l.length):=by
  intro i hi;obtain ⟨x,b,al,h1,h2,h3,_,h4⟩:=h.uAt (An3 hi);have a8:=h.rows.ok i _ (An3 hi);refine ⟨x.xs,x.A,x.c,b,al,h3,h4,by rw [h1];exact Kq (An3 hi),?_,h2.sl.rd,?_⟩
  ·
   rw [h1,Gx];exact (h.ok _ (List.getElem_mem hi)).1.past.1
  ·
   rw [h1];exact Kp a8.placed
 clear h hr;generalize Df r.l=US at*;generalize r.l.length=N at*;generalize r.uA=UA at*;generalize r.uC=UC at*;generalize r.lA=LA at*;generalize r.lC=LC at*;generalize r.cells=CS at*;have c1:cS (w.alloc (.cells CS 32)) w.heap.size 1 LA N LC:=(bg.cell 1).trans g1.out;go_enter func61,ntmps61;go_wp2_with (first|(refine Ac3 rfl (.tmp 10) 108 rfl I2 (n:=N) rfl rfl (by omega) (by omega) ?_;intro w1 ao aq;have az:=bg.fr aq zq;have be:=aq.size;have c1:cS w1 w.heap.size 1 LA N LC:=(az.cell 1).trans g1.out));have a1:Cu w w1 CS N (fun _=>false):=⟨az,by rw [Ad2,<- a4];exact ao,f0.trans aq zr⟩;clear ao aq az bg f0
 go_loopw [6] (fun v wr=>∃(k:Nat) (s:Nat->Bool),v=.int .i64 ((k:Int)-1)/\k<=N/\Hid (C5 US up k s=C5 US up N (fun _=>false))/\Cu w wr CS N s) (fun v _=>(intOf v+1).toNat)
 case atStart=>exact ⟨N,fun _=>false,by go_num,by omega,rfl,a1⟩
 case round=>
  obtain ⟨k,s,rfl,hk,ay,st⟩:=hrel;clear a1 c1
  rcases Nat.eq_zero_or_pos k with h0|h0
  ·
   subst h0;have aj:=st.post;have hs:s=C5 US up N (fun _=>false):=ay.out;rw [hs] at aj;have e0:((((0:Nat):Int))-1)= -1:=by omega
   rw [e0];go_wp2
   go_ret
   exact aj
  ·
   obtain ⟨i,rfl⟩:∃i,k=i+1:=⟨k-1,by omega⟩;have ei:(((i+1:Nat):Int)-1)=(i:Int):=by omega
   rw [ei];obtain ⟨i1,i2,i3⟩:=ix i N
   obtain ⟨us,A2,c2,b,al,rfl,cu,a3,a9,aw,a2⟩:=ak.out i (by omega);have ab:Hid (C5 US up i (De US up i s)=C5 US up N (fun _=>false)):=ay.out;obtain ⟨hz,ci,fz,ar⟩:=st.set (i:=i) (by omega);obtain ⟨M,hM⟩:=Aa us.length;rw [hM.out] at aw cu a9;have ah:∀q,Cw up i s q=(s q||(decide (q=i)&&up.contains i)):=fun q=>rfl;clear ay ak
   by_cases hc:up.contains i=true
   ·
    have ad:Cu w (wr.setCell ⟨w.heap.size+1,i,none⟩ (.bool true)) CS N (Cw up i s):=ar.is (fun q=>by rw [ah,hc,Bool.and_true]);have au:Cw up i s i=true:=by rw [ah,hc,decide_eq_true rfl];simp
    have c3:(wr.setCell ⟨w.heap.size+1,i,none⟩ (.bool true)).cell? ⟨w.heap.size+1,i,none⟩=some (.bool true):=by
     have:=(ad.set (i:=i) (by omega)).2.1;rwa [au] at this
    have kh:=lh (ap.out i wr st.fr);rw [hc] at kh;have af:=lh ad;clear ar ah ad;go_wp2_with (first|(go_at_call 40;(with_reducible refine (kh.out).mono ?_);rintro _ w5 ⟨rfl,rfl⟩));have av:us.length=us.length:=rfl;go_wp2
    go_loopw [7] (fun v wi=>∃j:Nat,v=.int .i64 (j:Int)/\j<=M/\Cu w wi CS N (fun q=>Cw up i s q||(us.take j).contains q)) (fun v _=>M-(intOf v).toNat)
    case atStart=>exact ⟨0,rfl,by omega,af.out.is (fun q=>by rw [List.take_zero];simp)⟩
    case round=>
     obtain ⟨j,rfl,hj,aa⟩:=hrel;have d3:=(aa.bg.cell 3).trans g3.out;have a7:=aa.fr.cell cu zq
     by_cases hjm:j<M
     ·
      obtain ⟨y,hy⟩:∃y,us[j]? =some y:=⟨_,An3 (by rw [hM.out];exact hjm)⟩;have a0:y<N:=a2 y (An6 hy);obtain ⟨b2,ae,u,ax,ba,hu,cy⟩:=aw.at hjm;rw [An7,hy] at hu;injection hu with hu
      subst hu;subst ax;have a6:cI wr b2 (ae+j) (y:Int):=aa.fr.cell cy zq;obtain ⟨bd,a5,bc,ad⟩:=aa.set (i:=y) a0;have ac:Hid (Cu w (wr.setCell ⟨w.heap.size+1,y,none⟩ (.bool true)) CS N (fun q=>Cw up i s q||(us.take (j+1)).contains q)):=ad.is (fun q=>by rw [Lh hy,Bool.or_assoc]);clear hy ad cy;obtain ⟨j1,j2,j3⟩:=ix j M
      obtain ⟨y1,y2,y3⟩:=ix y N
      go_wp2;go_roundw
      case rel=>exact ⟨j+1,by go_num,by omega,ac.out⟩
      case measure=>first|(simp [intOf];done)|(simp [intOf];omega)
     ·
      obtain rfl:j=M:=by omega
      have ac:Hid (Cu w wr CS N (De US up i s)):=aa.is (fun q=>by rw [Ao1 (by rw [hM.out];omega),<- a3];unfold De;rw [au,Bool.true_and]);clear aa;go_wp2;go_roundw
      case rel=>exact ⟨i,De US up i s,by first|go_num|(congr 1;done)|(congr 1;omega),by omega,ab,ac.out⟩
      case measure=>first|(simp [intOf];done)|(simp [intOf];omega)
   ·
    have hc:=An5 _▸hc;have ag:∀q,Cw up i s q=s q:=fun q=>by rw [ah,hc,Bool.and_false,Ao6]
    have kh:=lh (ap.out i wr st.fr);rw [hc] at kh
    by_cases ai:s i=true
    ·
     have au:Cw up i s i=true:=by rw [ag];exact ai
     have ci:wr.cell? ⟨w.heap.size+1,i,none⟩=some (.bool true):=by rw [<- ai];exact ci
     have af:=lh (st.is (fun q=>(ag q).symm));clear ar ah ag;go_wp2_with (first|(go_at_call 40;(with_reducible refine (kh.out).mono ?_);rintro _ w5 ⟨rfl,rfl⟩));have av:us.length=us.length:=rfl;go_wp2
     go_loopw [7] (fun v wi=>∃j:Nat,v=.int .i64 (j:Int)/\j<=M/\Cu w wi CS N (fun q=>Cw up i s q||(us.take j).contains q)) (fun v _=>M-(intOf v).toNat)
     case atStart=>exact ⟨0,rfl,by omega,af.out.is (fun q=>by rw [List.take_zero];simp)⟩
     case round=>
      obtain ⟨j,rfl,hj,aa⟩:=hrel;have d3:=(aa.bg.cell 3).trans g3.out;have a7:=aa.fr.cell cu zq
      by_cases hjm:j<M
      ·
       obtain ⟨y,hy⟩:∃y,us[j]? =some y:=⟨_,An3 (by rw [hM.out];exact hjm)⟩;have a0:y<N:=a2 y (An6 hy);obtain ⟨b2,ae,u,ax,ba,hu,cy⟩:=aw.at hjm;rw [An7,hy] at hu;injection hu with hu
       subst hu;subst ax;have a6:cI wr b2 (ae+j) (y:Int):=aa.fr.cell cy zq;obtain ⟨bd,a5,bc,ad⟩:=aa.set (i:=y) a0;have ac:Hid (Cu w (wr.setCell ⟨w.heap.size+1,y,none⟩ (.bool true)) CS N (fun q=>Cw up i s q||(us.take (j+1)).contains q)):=ad.is (fun q=>by rw [Lh hy,Bool.or_assoc]);clear hy ad cy;obtain ⟨j1,j2,j3⟩:=ix j M
       obtain ⟨y1,y2,y3⟩:=ix y N
       go_wp2;go_roundw
       case rel=>exact ⟨j+1,by go_num,by omega,ac.out⟩
       case measure=>first|(simp [intOf];done)|(simp [intOf];omega)
      ·
       obtain rfl:j=M:=by omega
       have ac:Hid (Cu w wr CS N (De US up i s)):=aa.is (fun q=>by rw [Ao1 (by rw [hM.out];omega),<- a3];unfold De;rw [au,Bool.true_and]);clear aa;go_wp2;go_roundw
       case rel=>exact ⟨i,De US up i s,by first|go_num|(congr 1;done)|(congr 1;omega),by omega,ab,ac.out⟩
       case measure=>first|(simp [intOf];done)|(simp [intOf];omega)
    ·
     have ai:=An5 _▸ai;have ci:wr.cell? ⟨w.heap.size+1,i,none⟩=some (.bool false):=by rw [<- ai];exact ci
     have ac:Hid (Cu w wr CS N (De US up i s)):=st.is (fun q=>by unfold De;rw [ag,ag,ai,Bool.false_and,Ao6]);clear ar ah ag st;go_wp2_with (first|(go_at_call 40;(with_reducible refine (kh.out).mono ?_);rintro _ w5 ⟨rfl,rfl⟩));go_roundw
     case rel=>exact ⟨i,De US up i s,by first|go_num|(congr 1;done)|(congr 1;omega),by omega,ab,ac.out⟩
     case measure=>first|(simp [intOf];done)|(simp [intOf];omega)
theorem Q9 {l:List Pn} {p:Nat->Bool} {d s:Int} {k:Nat} {m:Pn} (h:l[k]? =some m):Bt l p d s (k+1)=(Bt l p d s k||(m.o.by_==d&&p k&&m.o.sq==s-1)):=by
 show (match l[k]? with|some n=>Bt l p d s k||(n.o.by_==d&&p k&&n.o.sq==s-1)|none=>Bt l p d s k)=_;rw [h]
theorem Ad3 (base:Nat) (r:RG) (x:OpL) (B c:Nat) (A:Option Addr) (p:Nat->Bool) (w:World) (h:r.own w base) (h1:1<=x.sq) (h2:x.sq<=9223372036854775807) (hr:Rd w B 1 A r.l.length (Ct r.l.length p)):
  Calls zp 60 #[.agg r.cells,.agg x.cells,.slice A r.l.length c] w (Ae (!Ba r.l p x.op) w):=by
 have ap:=h.few;have bg:=(Blk.new w 32 r.cells).alloc (.cells x.cells 44);have bx:=Blk.new (w.alloc (.cells r.cells 32)) 44 x.cells;rw [An9] at bx;have f0:Fr Non w ((w.alloc (.cells r.cells 32)).alloc (.cells x.cells 44)):=((Fr.refl Non w).alloc _).alloc _;have g1:r.cells[1]? =some (.slice r.lA r.l.length r.lC):=rfl;have c1:=(bg.cell 1).trans g1;have x0:cI ((w.alloc (.cells r.cells 32)).alloc (.cells x.cells 44)) (w.heap.size+1) 0 x.by_:=bx.cell 0;have x1:cI ((w.alloc (.cells r.cells 32)).alloc (.cells x.cells 44)) (w.heap.size+1) 1 x.sq:=bx.cell 1
 have aj:Hid (∀k,k<r.l.length->∃(m:Pn) (b ao:Nat),r.l[k]? =some m/\r.lA=some ⟨b,ao,none⟩/\cI w b (ao+k*27) m.o.by_/\cI w b (ao+k*27+1) m.o.sq):=by
  intro k hk;obtain ⟨y,b,ao,_,h1,_,h3,_,h4⟩:=h.xAt (An3 hk);refine ⟨_,b,ao,An3 hk,h3,?_,?_⟩
  · rw [<- h1];exact h4 0 (by omega) _ rfl
  · rw [<- h1];exact h4 1 (by omega) _ rfl
 have ak:Hid (∀k m,r.l[k]? =some m->(m.o.by_==x.by_)=true->p k=true->x.sq<=m.o.sq->(!Ba r.l p x.op)=false):=fun k m hm hb hp hs=>by
  rw [Xa (o:=x.op) hm (beq_iff_eq.1 hb) hp hs];rfl
 have ad:Hid ((∀k m,k<r.l.length->r.l[k]? =some m->m.o.by_=x.by_->p k=true->m.o.sq<x.sq)->(!Ba r.l p x.op)=((x.sq==1)||Bt r.l p x.by_ x.sq r.l.length)):=fun hh=>by
  rw [Xd (o:=x.op) h1 (fun k m hm=>hh k m (List.getElem?_eq_some_iff.1 hm).1 hm),Bool.not_not];rfl
 have al:=hr;clear h g1 bg bx;generalize (!Ba r.l p x.op)=R at*;generalize r.l=l at*;generalize hN:l.length=N at*;generalize r.lA=LA at*;generalize r.lC=LC at*;generalize r.cells=CS at*;generalize x.cells=XS at*;generalize x.by_=d at*;generalize x.sq=sq at*;clear hr hN;have ew:=iw (sq-1);go_enter func60,ntmps60;go_wp2;generalize hw0:(w.alloc (.cells CS 32)).alloc (.cells XS 44)=w0 at*;clear hw0
 go_loopw [7,8] (fun o v wr=>∃(k:Nat) (ai:Bool),o=.bool ai/\v=.int .i64 (k:Int)/\k<=N/\Hid (∀(j:Nat) (m:Pn),j<k->l[j]? =some m->m.o.by_=d->p j=true->m.o.sq<sq)/\Hid (ai=Bt l p d sq k)/\Fr Non w0 wr) (fun _ v _=>N-(intOf v).toNat)
 case atStart=>exact ⟨0,false,rfl,rfl,by omega,fun j m hj=>absurd hj (Nat.not_lt_zero _),rfl,Fr.refl _ _⟩
 case round=>
  obtain ⟨k,ai,rfl,rfl,hk,aa,af,hf⟩:=hrel;obtain ⟨d1,y0,y1⟩:=zk3 hf c1 x0 x1;have ah:Fr Non w wr:=f0.trans hf zr;clear c1 x0 x1
  by_cases hlt:k<N
  ·
   obtain ⟨m,b,ao,hm,rfl,m0,m1⟩:=aj.out k hlt;obtain ⟨m0,m1⟩:=zk2 ah m0 m1;obtain ⟨b3,aq,u,rfl,ar,hu,cp⟩:=al.at hlt;rw [I1 p hlt] at hu;injection hu with hu
   subst hu;have cp:=ah.cell cp zq;have ac:=lh (Q9 (p:=p) (d:=d) (s:=sq) hm);obtain ⟨i1,i2,i3⟩:=ix k N
   have ab:Hid ((m.o.by_=d->p k=true->m.o.sq<sq)->∀(j:Nat) (n:Pn),j<k+1->l[j]? =some n->n.o.by_=d->p j=true->n.o.sq<sq):=by
    intro hh j n hj hn
    rcases Nat.lt_or_ge j k with h1|h1
    · exact aa.out j n h1 hn
    ·
     have e:j=k:=by omega
     subst e;rw [hm] at hn;injection hn with hn
     subst hn;exact hh
   have ag:=lh (ak.out k m hm);clear hm aj ak aa
   by_cases hp:p k=true
   ·
    rw [hp] at cp
    by_cases hb:m.o.by_=d
    ·
     have f1:(m.o.by_ !=d)=false:=by simp [hb]
     by_cases hs:sq<=m.o.sq
     ·
      have hR:Hid (R=false):=ag.out (Cq hb) hp hs;have f2:decide (m.o.sq>=sq)=true:=decide_eq_true hs;have f3:decide (sq<=m.o.sq)=true:=decide_eq_true hs;clear ab ac af ag ad al;generalize m.o.by_=mb at*;generalize m.o.sq=ms at*;go_wp2
      go_quiet (fail)
      go_wp2
      go_quiet (fail)
      go_wp2
      go_ret
      exact ⟨by rw [hR.out];rfl,by first|exact ah.drewN _|exact (ah.drewN _).drewN _⟩
     ·
      have f2:decide (m.o.sq>=sq)=false:=decide_eq_false hs;have f3:decide (sq<=m.o.sq)=false:=decide_eq_false hs;have aa:=lh (ab.out (fun _ _=>Int.not_le.1 hs))
      have ae:Hid ((ai||(m.o.sq==sq-1))=Bt l p d sq (k+1)):=by
       show _=_;rw [ac.out,af.out,hp,Cq hb];rfl
      clear ab ac af ag ad al;generalize m.o.by_=mb at*;generalize m.o.sq=ms at*
      cases ai with
      |true=>
       go_wp2
       go_quiet (fail)
       go_wp2
       go_quiet (fail)
       go_wp2
       go_quiet (fail)
       go_wp2;go_roundw
       case rel=>exact ⟨k+1,_,rfl,by go_num,by omega,aa.out,ae,hf.drewN _⟩
       case measure=>first|(simp [intOf];done)|(simp [intOf];omega)
      |false=>
       generalize hq:(ms==sq-1)=q at*;go_wp2
       go_quiet (fail)
       go_wp2
       go_quiet (fail)
       go_wp2
       go_quiet (fail)
       go_wp2;go_roundw
       case rel=>exact ⟨k+1,_,rfl,by go_num,by omega,aa.out,ae,hf.drewN _⟩
       case measure=>first|(simp [intOf];done)|(simp [intOf];omega)
    ·
     have f1:(m.o.by_ !=d)=true:=by simp [hb]
     have aa:=lh (ab.out (fun h=>absurd h hb))
     have ae:Hid (ai=Bt l p d sq (k+1)):=by
      show _=_;rw [ac.out,af.out,Cf hb];simp
     clear ab ac af ag ad al;generalize m.o.by_=mb at*;generalize m.o.sq=ms at*;go_wp2
     go_quiet (fail)
     go_wp2;go_roundw
     case rel=>exact ⟨k+1,_,rfl,by go_num,by omega,aa.out,ae,hf.drewN _⟩
     case measure=>first|(simp [intOf];done)|(simp [intOf];omega)
   ·
    have hp:=An5 _▸hp;rw [hp] at cp;have aa:=lh (ab.out (fun _ h=>absurd h (by rw [hp];simp)))
    have ae:Hid (ai=Bt l p d sq (k+1)):=by
     show _=_;rw [ac.out,af.out,hp];simp
    clear ab ac af ag ad al;generalize m.o.by_=mb at*;generalize m.o.sq=ms at*;go_wp2
    go_quiet (fail)
    go_wp2;go_roundw
    case rel=>exact ⟨k+1,_,rfl,by go_num,by omega,aa.out,ae,hf.drewN _⟩
    case measure=>first|(simp [intOf];done)|(simp [intOf];omega)
  ·
   obtain rfl:k=N:=by omega
   have hR:Hid (R=((sq==1)||ai)):=by
    show _=_;rw [af.out];exact ad.out aa.out
   clear ad aa af ak aj al
   by_cases hs:sq=1
   ·
    have f1:(sq==1)=true:=Cq hs;rw [f1] at hR;clear hs;go_wp2
    go_ret
    exact ⟨by rw [hR.out];rfl,ah⟩
   ·
    have f1:(sq==1)=false:=Cf hs;rw [f1] at hR;clear hs;go_wp2
    go_ret
    exact ⟨by rw [hR.out];rfl,ah⟩
theorem Ad4 (base:Nat) (r:RG) (d:Int) (w:World) (h:r.own w base):Calls zp 58 #[.agg r.cells,.int .i64 d] w (En ((Bk r.cards d).getD Cd.zero) (Bk r.cards d).isSome w):=by
 have hr:=h.cards.sl.rd;have hn:=h.cfew;have g0:r.cells[0]? =some (.slice r.cA r.cards.length r.cC):=rfl;have ab:Hid (Bk r.cards d=r.cards.find? (fun c=>c.d==d)):=rfl;generalize Bk r.cards d=R at*;clear h;generalize r.cells=CS at*;generalize r.cA=CA at*;generalize r.cC=CC at*;generalize hl:r.cards=l at*;clear hl;obtain ⟨n,ac⟩:=Aa l.length;rw [ac.out] at hr g0 hn;have f0:Fr Non w ((w.alloc (.cells CS 32)).alloc (.cells zC 104)):=((Fr.refl Non w).alloc _).alloc _;have bg:=(Blk.new w 32 CS).alloc (.cells zC 104);have b0:=Blk.new (w.alloc (.cells CS 32)) 104 zC;rw [An9] at b0;have c0:=(bg.cell 0).trans g0;replace hr:=hr.fr f0 zr;clear bg g0;go_enter func58,ntmps58;go_upto_region 1 with (fail)
 generalize (w.alloc (.cells CS 32)).alloc (.cells zC 104)=w0 at*;go_wp2_with fail
 go_loopw [5,6] (fun r v wr=>∃k:Nat,r=.bool false/\v=.int .i64 (k:Int)/\k<=n/\Hid ((l.take k).find? (fun c=>c.d==d)=none)/\Fr Non w0 wr) (fun _ v _=>n-(intOf v).toNat)
 case atStart=>exact ⟨0,rfl,rfl,by omega,rfl,Fr.refl _ _⟩
 case round=>
  obtain ⟨k,rfl,rfl,hk,hh,hf⟩:=hrel;have b1:=b0.fr hf zq;have f1:=f0.trans hf zr;replace c0:=hf.cell c0 zq
  by_cases hlt:k<n
  ·
   obtain ⟨i1,i2,i3⟩:=ix k n
   obtain ⟨c,hc⟩:∃c,l[k]? =some c:=⟨_,An3 (by rw [ac.out];exact hlt)⟩;obtain ⟨b,ad,hA,ah,aa⟩:=Eu (f:=Cd.cells) (fun _=>rfl) (by omega) (hr.fr hf zr) hc;have d0:cI wr b (ad+k*5) c.d:=aa 0 (by omega) _ rfl;have d1:cI wr b (ad+k*5+1) c.m:=aa 1 (by omega) _ rfl;have d2:cU wr b (ad+k*5+2) c.l:=aa 2 (by omega) _ rfl;have d3:cU wr b (ad+k*5+3) c.k:=aa 3 (by omega) _ rfl;have d4:cU wr b (ad+k*5+4) c.s:=aa 4 (by omega) _ rfl;clear aa ah;subst hA
   rcases zb (c.d==d) with hcd|hcd
   ·
    have hR:Hid (R=some c):=by
     show _=_;rw [ab.out,<- List.take_append_drop k l,Ap3,hh.out,List.drop_eq_getElem_cons (by rw [ac.out];exact hlt)];rw [An3 (by rw [ac.out];exact hlt)] at hc;rw [Option.some.inj hc];simp [hcd]
    have af:Hid (∀wz,Fr (One (w.heap.size+1)) wr wz->En (R.getD Cd.zero) R.isSome w (.returned (.tuple #[.agg #[.int .i64 c.d,.int .i64 c.m,.int .u64 (c.l:Int),.int .u64 (c.k:Int),.int .u64 (c.s:Int)],.bool true])) wz):=by
     intro wz hz;refine ⟨?_,f1.trans hz (fun k hk e=>absurd hk (by have e':k=w.heap.size+1:=e;omega))⟩;rw [hR.out];rfl
    clear ab hc hh f1;generalize R.getD Cd.zero=RC at*;generalize R.isSome=RS at*;have e0:cI wr (w.heap.size+1) 0 0:=b1.cell 0;have z0:wr.frozen? ⟨w.heap.size+1,0,none⟩=false:=b1.frozen 0;have e1:cI wr (w.heap.size+1) 1 0:=b1.cell 1;have z1:wr.frozen? ⟨w.heap.size+1,1,none⟩=false:=b1.frozen 1;have e2:wr.cell? ⟨w.heap.size+1,2,none⟩=some (.int .u64 0):=b1.cell 2;have z2:wr.frozen? ⟨w.heap.size+1,2,none⟩=false:=b1.frozen 2;have e3:wr.cell? ⟨w.heap.size+1,3,none⟩=some (.int .u64 0):=b1.cell 3;have z3:wr.frozen? ⟨w.heap.size+1,3,none⟩=false:=b1.frozen 3;have e4:wr.cell? ⟨w.heap.size+1,4,none⟩=some (.int .u64 0):=b1.cell 4;have z4:wr.frozen? ⟨w.heap.size+1,4,none⟩=false:=b1.frozen 4;have ae:=(((((b1.set 0 (.int .i64 c.d)).set 1 (.int .i64 c.m)).set 2 (.int .u64 (c.l:Int))).set 3 (.int .u64 (c.k:Int))).set 4 (.int .u64 (c.s:Int)));have fz:=((((((Fr.refl (One (w.heap.size+1)) wr).setCell (p:=⟨w.heap.size+1,0,none⟩) (fun _=>rfl) (.int .i64 c.d)).setCell (p:=⟨w.heap.size+1,1,none⟩) (fun _=>rfl) (.int .i64 c.m)).setCell (p:=⟨w.heap.size+1,2,none⟩) (fun _=>rfl) (.int .u64 (c.l:Int))).setCell (p:=⟨w.heap.size+1,3,none⟩) (fun _=>rfl) (.int .u64 (c.k:Int))).setCell (p:=⟨w.heap.size+1,4,none⟩) (fun _=>rfl) (.int .u64 (c.s:Int)));clear b1;go_wp2_with fail
    (try simp only [Exit.inBlock,Exit.then])
    refine Fo (t:=104) rfl rfl ae rfl underlying104 (by kernel_rfl) rfl ?_;exact af.out _ fz
   ·
    have ag:Hid ((l.take (k+1)).find? (fun c=>c.d==d)=none):=by
     show _=_;rw [List.take_add_one,Ap3,hh.out,hc];simp [hcd]
    clear ab hc hh b1;go_wp2_with fail;go_roundw
    case rel=>exact ⟨k+1,rfl,by go_num,by omega,ag,hf⟩
    case measure=>simp [intOf];omega
  ·
   obtain rfl:n=k:=by omega
   have hR:Hid (R=none):=by
    show _=_;rw [ab.out];have h:=hh.out;rwa [Ao1 (by rw [ac.out];omega)] at h
   have af:Hid (∀wz,Fr (One (w.heap.size+1)) wr wz->En (R.getD Cd.zero) R.isSome w (.returned (.tuple #[.agg zC,.bool false])) wz):=by
    intro wz hz;refine ⟨?_,f1.trans hz (fun k hk e=>absurd hk (by have e':k=w.heap.size+1:=e;omega))⟩;rw [hR.out];rfl
   clear ab hh;generalize R.getD Cd.zero=RC at*;generalize R.isSome=RS at*;have e0:cI wr (w.heap.size+1) 0 0:=b1.cell 0;have z0:wr.frozen? ⟨w.heap.size+1,0,none⟩=false:=b1.frozen 0;have e1:cI wr (w.heap.size+1) 1 0:=b1.cell 1;have z1:wr.frozen? ⟨w.heap.size+1,1,none⟩=false:=b1.frozen 1;have e2:wr.cell? ⟨w.heap.size+1,2,none⟩=some (.int .u64 0):=b1.cell 2;have z2:wr.frozen? ⟨w.heap.size+1,2,none⟩=false:=b1.frozen 2;have e3:wr.cell? ⟨w.heap.size+1,3,none⟩=some (.int .u64 0):=b1.cell 3;have z3:wr.frozen? ⟨w.heap.size+1,3,none⟩=false:=b1.frozen 3;have e4:wr.cell? ⟨w.heap.size+1,4,none⟩=some (.int .u64 0):=b1.cell 4;have z4:wr.frozen? ⟨w.heap.size+1,4,none⟩=false:=b1.frozen 4;have ae:=(((((b1.set 0 (.int .i64 0)).set 1 (.int .i64 0)).set 2 (.int .u64 0)).set 3 (.int .u64 0)).set 4 (.int .u64 0));have fz:=((((((Fr.refl (One (w.heap.size+1)) wr).setCell (p:=⟨w.heap.size+1,0,none⟩) (fun _=>rfl) (.int .i64 0)).setCell (p:=⟨w.heap.size+1,1,none⟩) (fun _=>rfl) (.int .i64 0)).setCell (p:=⟨w.heap.size+1,2,none⟩) (fun _=>rfl) (.int .u64 0)).setCell (p:=⟨w.heap.size+1,3,none⟩) (fun _=>rfl) (.int .u64 0)).setCell (p:=⟨w.heap.size+1,4,none⟩) (fun _=>rfl) (.int .u64 0));go_wp2_with fail
   (try simp only [Exit.inBlock,Exit.then])
   refine Fo (t:=104) rfl rfl ae rfl underlying104 (by kernel_rfl) rfl ?_;exact af.out _ fz
end Oq
def Sg.In (M pub R S:Int):Prop:=1<=pub/\pub<=M/\1<=R/\R<=M/\S<M
theorem Sg.in_ways (M pub R S:Int) (h:¬Sg.In M pub R S):pub<1\/(1<=pub/\M<pub)\/(1<=pub/\pub<=M/\R<1)\/(1<=pub/\pub<=M/\1<=R/\M<R)\/(1<=pub/\pub<=M/\1<=R/\R<=M/\M<=S):=by
 unfold Sg.In at h;omega
theorem Sg.check_in (pub R S:Nat) (bs:List UInt8) (h:Sg.In 2305843009213693950 pub R S):Sg.check pub bs R S=(Fd.pow 37 S==Fd.mul R (Fd.pow pub (Sg.e R pub bs))):=by
 obtain ⟨h1,h2,h3,h4,h5⟩:=h;have e1:Sg.within pub 1 2305843009213693950=true:=Sg.within_yes (lo:=1) (hi:=2305843009213693950) (by omega) (by omega);have e2:Sg.within R 1 2305843009213693950=true:=Sg.within_yes (lo:=1) (hi:=2305843009213693950) (by omega) (by omega);have e3:Sg.within S 0 2305843009213693949=true:=Sg.within_yes (lo:=0) (hi:=2305843009213693949) (by omega) (by omega);show (Sg.within pub 1 2305843009213693950&&Sg.within R 1 2305843009213693950&&Sg.within S 0 2305843009213693949&&(Fd.pow 37 S==Fd.mul R (Fd.pow pub (Sg.e R pub bs))))=_;rw [e1,e2,e3];rfl
theorem Sg.check_out (pub R S:Nat) (bs:List UInt8) (h:¬Sg.In 2305843009213693950 pub R S):Sg.check pub bs R S=false:=by
 show (Sg.within pub 1 2305843009213693950&&Sg.within R 1 2305843009213693950&&Sg.within S 0 2305843009213693949&&(Fd.pow 37 S==Fd.mul R (Fd.pow pub (Sg.e R pub bs))))=false
 by_cases e1:Sg.within pub 1 2305843009213693950=true
 ·
  by_cases e2:Sg.within R 1 2305843009213693950=true
  ·
   by_cases e3:Sg.within S 0 2305843009213693949=true
   ·
    exfalso;apply h;unfold Sg.within at e1 e2 e3;simp only [Ap1,decide_eq_true_eq] at e1 e2 e3;exact ⟨e1.1,e1.2,e2.1,e2.2,Int.lt_of_le_of_lt e3.2 (by decide)⟩
   · simp only [An5] at e3;rw [e3];simp
  · simp only [An5] at e2;rw [e2];simp
 · simp only [An5] at e1;rw [e1];simp
theorem Ad5 (pub R S n c:Nat) (A:Option Addr) (w:World) (hway:¬Sg.In 2305843009213693950 pub R S):
  Calls zp 59 #[.int .u64 (pub:Int),.slice A n c,Dx R S] w (Ae false w):=by
 unfold Dx;have hb0:=Blk.new w 25 #[.int .u64 (R:Int),.int .u64 (S:Int)];have hf0:Fr Non w (w.alloc (.cells #[.int .u64 (R:Int),.int .u64 (S:Int)] 25)):=(Fr.refl _ _).alloc _;have c0:=hb0.cell 0;have c1:=hb0.cell 1;have hord:(∀w,Calls zp 101 #[] w fun e w'=>e=.returned (.int .u64 2305843009213693950)/\w'=w):=fun w=>(H8 w).mono fun _ _ h=>⟨h.1,h.2.symm⟩;have hway:=Sg.in_ways _ _ _ _ hway
 rcases hway with t1|⟨t1,t2⟩|⟨t1,t2,t3⟩|⟨t1,t2,t3,t4⟩|⟨t1,t2,t3,t4,t5⟩
 all_goals
  go_enter func59,ntmps59;generalize (2305843009213693950:Int)=M at*;have hord':=lh hord;clear hord;go_wp2
  go_quiet (first|(go_at_call 101;exact Calls.quiet_of_same (hord'.out _)))
  go_wp2
  go_ret
  exact ⟨rfl,hf0.drewN _⟩
theorem Ad6 (pub R S B n c:Nat) (A:Option Addr) (bs:List UInt8) (w:World) (hp:pub<18446744073709551616) (hR:R<18446744073709551616) (hS:S<18446744073709551616) (hlen:Hid (bs.length=n)) (hn:n<=1099511627775) (hB:B<=w.heap.size) (hr:Rd w B 1 A n (bs.map Bv)) (hin:Sg.In 2305843009213693950 pub R S):
  Calls zp 59 #[.int .u64 (pub:Int),.slice A n c,Dx R S] w (Ae (Sg.check pub bs R S) w):=by
 unfold Dx;have ah:=Blk.new w 25 #[.int .u64 (R:Int),.int .u64 (S:Int)];have aq:Fr Non w (w.alloc (.cells #[.int .u64 (R:Int),.int .u64 (S:Int)] 25)):=(Fr.refl _ _).alloc _;have c0:=ah.cell 0;have c1:=ah.cell 1;have aw:=hr.alloc (.cells #[.int .u64 (R:Int),.int .u64 (S:Int)] 25);have ap:B<=(w.alloc (.cells #[.int .u64 (R:Int),.int .u64 (S:Int)] 25)).heap.size:=by simp;omega
 have ab:(∀w,Calls zp 101 #[] w fun e w'=>e=.returned (.int .u64 2305843009213693950)/\w'=w):=fun w=>(H8 w).mono fun _ _ h=>⟨h.1,h.2.symm⟩;have aa:=lh (Sg.check_in pub R S bs hin);obtain ⟨t1,t2,t3,t4,t5⟩:=hin;go_enter func59,ntmps59;generalize (2305843009213693950:Int)=M at*;have ae:=lh ab;clear ab;go_wp2
 go_quiet (first|(go_at_call 101;exact Calls.quiet_of_same (ae.out _)))
 have le:=Sg.e_lt R pub bs;have al:=lh (fun B w hB hr=>Oj R pub B n c A bs w hR hp hlen hn hB hr);obtain ⟨E,hE⟩:=Aa (Sg.e R pub bs);rw [hE.out] at le aa al;have p1:Hid (∀w,Calls zp 98 #[.int .u64 37,.int .u64 (S:Int)] w (Cb (Fd.pow 37 S) w)):=fun w=>(Gv 37 S w (by omega) hS).mono fun _ _ ⟨h,k,e⟩=>⟨h,by rw [e];exact (Fr.refl _ _).drewN _⟩;have p2:Hid (∀w,Calls zp 98 #[.int .u64 (pub:Int),.int .u64 (E:Int)] w (Cb (Fd.pow pub E) w)):=fun w=>(Gv pub E w hp (by omega)).mono fun _ _ ⟨h,k,e⟩=>⟨h,by rw [e];exact (Fr.refl _ _).drewN _⟩;have lq:=Fd.pow_lt pub E;obtain ⟨q,hq⟩:=Aa (Fd.pow pub E);obtain ⟨t,ht⟩:=Aa (Fd.pow 37 S);rw [hq.out] at p2 lq aa;rw [ht.out] at p1 aa;have p3:Hid (∀w,Calls zp 114 #[.int .u64 (R:Int),.int .u64 (q:Int)] w (Cb (Fd.mul R q) w)):=fun w=>(H6 R q w hR (by omega)).mono fun _ _ ⟨h,k,e⟩=>⟨h,by rw [e];exact (Fr.refl _ _).drewN _⟩;obtain ⟨v,hv⟩:=Aa (Fd.mul R q);rw [hv.out] at p3 aa;have au:=ah.drewN nq;have ar:=aw.drewN nq;have av:=aq.drewN nq;have ao:=An8 ap (Nat.le_of_eq (show (w.alloc (.cells #[.int .u64 (R:Int),.int .u64 (S:Int)] 25)).heap.size=((w.alloc (.cells #[.int .u64 (R:Int),.int .u64 (S:Int)] 25)).drewN nq).heap.size from rfl));generalize (w.alloc (.cells #[.int .u64 (R:Int),.int .u64 (S:Int)] 25)).drewN nq=w1 at*;have ac:Blk w1.drew w.heap.size 25 #[.int .u64 (R:Int),.int .u64 (S:Int)]:=au;have d0:=ac.cell 0;have d1:=ac.cell 1;have ag:Rd w1.drew B 1 A n (bs.map Bv):=ar;have ai:B<=w1.drew.heap.size:=ao;clear c0 c1;go_wp2_with fail
 go_region_held3 (fun w'=>w'.cell? ⟨w.heap.size,0,none⟩=some (.int .u64 (R:Int))/\w'.cell? ⟨w.heap.size,1,none⟩=some (.int .u64 (S:Int))) (go_keep) (first
  |(go_at_call 98;(with_reducible refine (p1.out _).mono ?_);rintro _ w2 ⟨rfl,ad⟩;obtain ⟨g0,g1⟩:=zk2 ad d0 d1)
  |(go_at_call 100;(with_reducible refine (al.out B _ (An8 ai ad.size) (ag.fr ad zr)).mono ?_);rintro _ w3 ⟨rfl,aj⟩;obtain ⟨ga,gb⟩:=zk2 aj g0 g1)
  |(go_at_call 98;(with_reducible refine (p2.out _).mono ?_);rintro _ w4 ⟨rfl,ak⟩;obtain ⟨gc,gd⟩:=zk2 ak ga gb)
  |(go_at_call 114;(with_reducible refine (p3.out _).mono ?_);rintro _ w5 ⟨rfl,af⟩;obtain ⟨ge,gf⟩:=zk2 af gc gd))
 go_wp2
 go_ret
 refine ⟨congrArg (fun z=>ze (.bool z)) ?_,(((av.drew.trans ad zr).trans aj zr).trans ak zr).trans af zr⟩;rw [aa.out,Bool.eq_iff_iff];simp only [beq_iff_eq];exact Int.ofNat_inj
set_option linter.unusedVariables false in
theorem Ad7 (pub R S B n c:Nat) (A:Option Addr) (bs:List UInt8) (w:World) (hp:pub<18446744073709551616) (hR:R<18446744073709551616) (hS:S<18446744073709551616) (hlen:Hid (bs.length=n)) (hnc:n<=c) (hn:n<=1099511627775) (hB:B<=w.heap.size) (hr:Rd w B 1 A n (bs.map Bv)):
  Calls zp 59 #[.int .u64 (pub:Int),.slice A n c,Dx R S] w (Ae (Sg.check pub bs R S) w):=by
 by_cases h:Sg.In 2305843009213693950 pub R S
 · exact Ad6 pub R S B n c A bs w hp hR hS hlen hn hB hr h
 ·
  rw [Sg.check_out _ _ _ _ h];exact Ad5 pub R S n c A w h
end Go.Proofs.YtihfebhfgliojaaGreatDoor
