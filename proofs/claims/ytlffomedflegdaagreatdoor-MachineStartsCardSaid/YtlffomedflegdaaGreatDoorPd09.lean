/- Part 09 of the proof: Ne, Nf, Ng, Nh, Ni, Nj, Nk. -/
import Derived.Laws.Externs
import Derived.Shelf.SlMaps.Clone
import Derived.Test.YtlffomedflegdaaGreatDoorPd08
set_option linter.all false
set_option maxHeartbeats 16000000
set_option maxRecDepth 100000
namespace Go.Proofs.YtlffomedflegdaaGreatDoor
open Go.Proofs.Tryz
open Go.RowKit
open Go.Value renaming int→cI,string→cS,slice→cY,bool→cE
open Go.IntKind renaming i64→cJ
open Option renaming some→cP,none→cX
open Bool renaming false→cA,true→cC
variable {B M N c1 c2 c3 l2 l3 m n s:Nat}{F:List Nat}{a:Addr}{ans fails:List Int}{e:TypeId}{f:Fn}{i:Is}{j:Int}{k:Hd}{p:Pg}{p1 p2 p3:Option Addr}{rest:List Lv}{t:St}{v:Value}{w w' w0 w1:World}{x:Lv}{xs:List Value}
def AtU(w:World)(a:Addr)(x:Vu):Prop:=w.cell? a=cP (cS x.1)/\At w a 1 (cI cJ x.2)
theorem vU{g o:Nat}{x:Vu}(h:Af w B (C9 x) g o F):AtU w ⟨g,o,cX⟩ x:=by
 obtain⟨_,_,h1,h2⟩:=h.l.hd;obtain⟨_,_,h3,_⟩:=h2.hd;exact⟨h1.c,h3.c⟩
def AZ.vus{l:List Vu}(h:AZ w B e 2 (l.map C9) v F)(hl:l.length<=140737488351232):Row AtU 2 w v l:=
 h.view (ok:=λ_=>True) (λ_=>rfl) (λ_ _ _ _ _ h=>vU h) hl (λ_ _=>trivial)
theorem AZ.ptr{c:Nat}{l:List Dt}(h:AZ w B e s l (cY (cP a) n c) F):B<=a.block/\a.block<w.heap.size:=by
 rcases h with⟨h,-⟩|⟨g',cap,cur,f',h,h2,h3,-⟩
 ·simp at h
 grind
structure Apart(w w':World)(m:Nat):Prop where
 b:Below m w w'
 k:∀r,r≠m->r<w.heap.size->w'.heap[r]? =w.heap[r]?
def Apart.refl(w:World)(m:Nat):Apart w w m:=⟨AL,λ_ _ _=>rfl⟩
theorem Apart.trans{w2:World}(h:Apart w w1 m)(h2:Apart w1 w2 m):Apart w w2 m:=⟨h.b.trans h2.b,λr h1 h3=>(h2.k r h1 (A9 h3 h.b.size)).trans (h.k r h1 h3)⟩
def Apart.of(hb:AA6 w w')(hm:m<=w.heap.size):Apart w w' m:=⟨hb.mono hm,λr _ h=>hb.block r h⟩
theorem Apart.set(i:Nat)(v:Value):Apart w (w.setCell ⟨m,i,cX⟩ v) m:=⟨(AL).setCell (p:=⟨m,i,cX⟩) (AQ) v,λr h1 _=>Below.heap_setCell _ _ _ _ h1⟩
theorem Apart.cell(h:Apart w w' m)(hc:w.cell? a=cP v)(hne:a.block≠m):w'.cell? a=cP v:=by
 have:=h.k a.block hne (World.block_lt_of_cell? w _ hc);exact(World.cell?_of_block (w:=w) (w':=w') (a:=a) this).trans hc
theorem ah(a:Addr)(n:Nat):(a.add n).block=a.block:=by unfold Addr.add;split<;>rfl
theorem mP{s:St}(h:Qd w0 w B N M k s j rest x i p1 c1)(hop:i.op=32)(ha:Row Nj 1 w0 k.av ans)(hsk:0<=s.asked/\s.asked<=1000000) (htr:s.trace.length<=1000000) (hmk:s.marks.length<=1000000):Calls prog 83 #[.pointer (cP ⟨M,0,cX⟩),.agg #[cI cJ i.op,cS i.d,cS i.n,cY p1 i.as.length c1,cY p2 l2 c2,cY p3 l3 c3]] w (BI B M k (BP {JN s ⟨i.n,i.as.map (λa=>(Ar x.vars a).2),(ans[s.asked.toNat]?).getD 0,cA⟩with asked:=s.asked+1} rest x i.d (BA,(ans[s.asked.toNat]?).getD 0)) j w):=by
 obtain⟨h0,hA,hM,hfr,hl,hx,hin,hk⟩:=h;rw[hop];generalize hres:(ans[s.asked.toNat]?).getD 0=res at*;replace hres:=Wx hres;obtain⟨hI,hE,hb1⟩:=Ch (w:=w) (c1:=[cI cJ 32,cS i.d,cS i.n,cY p1 i.as.length c1,cY p2 l2 c2,cY p3 l3 c3]) (c2:=[cS i.n,cY cX 0 0,cI cJ 0,cE cA]) (t1:=133) (t2:=59) (AL);have Df:N<=w.heap.size:=hM.own.sz;have hBN:B<=N:=by have:=hM.own.ge;have:=hM.own.lt;omega
 have hal:i.as.map (λa=>(Ar x.vars a).2)=(i.as.map (Ar x.vars)).map (·.2):=by simp
 rw[hal];generalize i.d=dst at*;generalize i.n=nm at*;go_enter func83,ntmps83;go_wp2_with fail;generalize Cr:World.alloc _ _=W at*;replace hM:=hM.kp (hb1.mono Df);obtain⟨FB,cap,bm,hT,-⟩:=hM.top hfr hl;have hw0:=AB h0 hb1;have i3:=hI.c 3 _ rfl;have TQ:N<=W.heap.size:=hM.own.sz;have Db:Below B w W:=hb1.mono (by omega);have qV:=hE.lt;have hva:=Md hw0 hT hA hk (by omega);refine hva.mono ?_;rintro e w2 ⟨hb2,v,fp,rfl,hv,hnd⟩;obtain⟨pv,kv,rfl⟩:=hv.slice;rw[List.length_map,List.length_map]at hv⊢;generalize hvs:i.as.map (Ar x.vars)=vs at*;have hvl:vs.length=i.as.length:=by rw[<-hvs,List.length_map]
 generalize hnl:i.as.length=nl at*;have hw2:=AB hw0 hb2;have hrow:=hv.vus (by omega);have qP:∀a,pv=cP a->W.heap.size<=a.block:=λa e=>by subst e;exact hv.ptr.1
 obtain⟨pr,cr,he,-,-,hat⟩:=hrow;obtain⟨rfl,rfl,rfl⟩:pv=pr/\nl=vs.length/\kv=cr:=by simpa using he
 have hE2:=hE.nx hb2;obtain⟨i0,hi,hz0,hz1,hz2⟩:=Cq Zx;generalize hpe:w.heap.size+1=pe at*;have hn8:vs.length<=8:=hin;go_wp2;go_loopw[15] (λi wr=>∃(q:Nat) (u:Value) (fq:List Nat),q<=vs.length/\i=cI cJ (q:Int)/\Ae wr pe [cS nm,u,cI cJ 0,cE cA]/\AZ wr w2.heap.size 2 1 (((vs.take q).map (·.2)).map dN) u fq/\fq.Nodup/\Apart w2 wr pe) (λi _=>vs.length-(intOf i).toNat);exact⟨0,_,[],AY,rfl,hE2,.nil,by simp,Apart.refl _ _⟩;obtain⟨q,u,fq,hq,rfl,hEr,hu,hnd,hap⟩:=hrel;have AJO:pe<w2.heap.size:=A9 qV hb2.size;have hbig:=hap.b.size;by_cases hend:q=vs.length
 ·subst hend;rw[List.take_length]at hu;have rC:N<=pe:=by omega
  have Nn:=hM.kp ((hb2.mono TQ).trans (hap.b.mono rC));have gL:Ae wr w.heap.size [cI cJ 32,cS dst,cS nm,cY p1 vs.length c1,cY p2 l2 c2,cY p3 l3 c3]:=(hI.nx hb2).same (hap.k _ (by omega) (hI.nx hb2).lt);have h0r:AA6 w0 wr:=(h0.trans ((hb1.trans (hb2.mono hb1.size)).mono h0.size)).trans (hap.b.mono (by have:=h0.size;omega));have hbr:Below B w wr:=Db.trans ((hb2.mono (by omega)).trans (hap.b.mono (by omega)));obtain⟨pa,ca,hav,-,hln,hai⟩:=ha;obtain⟨-,-,-,-,-,c18,-,-⟩:=Nn.hd;obtain⟨-,-,-,-,-,-,-,c17⟩:=Nn.ns;rw[hav]at c18;obtain⟨na,hna⟩:=Int.eq_ofNat_of_zero_le hsk.1;rw[hna,Int.toNat_natCast]at hres;rw[hna]at c17 hsk;replace hna:=Wx hna;have hqq:∀q,AA6 wr (wr.drewN q):=Al;go_wp2_with fail;go_quiet (fail);go_upto_if 37 with fail;have WK:=hqq nq;replace Nn:=Nn.kp (WK.mono Nn.own.sz);replace gL:=gL.nx WK;replace hEr:=hEr.nx WK;replace hu:AZ (wr.drewN nq) w2.heap.size 2 1 ((vs.map (·.2)).map dN) u fq:=hu.same (λb hb=>WK.block b (hu.fp b hb).2);replace h0r:=AB h0r WK;replace hbr:=hbr.trans (WK.mono (by have:=hbr.size;omega));replace c17:=AA WK c17;replace c18:=AA WK c18;have hzz:wr.heap.size<=(wr.drewN nq).heap.size:=WK.size;generalize wr.drewN nq=wz at*;obtain⟨pu,cu,rfl⟩:=hu.slice;rw[List.length_map,List.length_map]at hu hEr;go_cut[37]from 38 to 49 (λ_ wx=>Am wx B N M k s j/\Ae wx w.heap.size [cI cJ 32,cS dst,cS nm,cY p1 vs.length c1,cY p2 l2 c2,cY p3 l3 c3]/\Ae wx pe [cS nm,cY pu vs.length cu,cI cJ res,cE cA]/\AZ wx w2.heap.size 2 1 ((vs.map (·.2)).map dN) (cY pu vs.length cu) fq/\Below B w wx)
  ·have wH:=λ(v:World) (hv:∀b,w2.heap.size<=b->b<wz.heap.size->v.heap[b]? =wz.heap[b]?)=>hu.same (w':=v) (λb hb=>hv b (hu.fp b hb).1 (hu.fp b hb).2);have e2:=hEr.c 2 _ rfl;have f2:=hEr.f 2 (by simp);have hltz:=hEr.lt;by_cases hlt:na<ans.length
   ·have A8:(na:Int)<ans.length:=(by omega);obtain⟨ad,rfl,hz⟩:=hai na ans[na] (by simp[hlt]);have hr2:ans[na]=res:=by
     have:=hres.out;rw[List.getElem?_eq_getElem hlt]at this;exact this
    rw[hr2]at hz;unfold Nj at hz;rw[Nat.mul_one]at hz;replace hz:=AA h0r hz;go_wp2_with fail;rw[decide_eq_true hlt];refine ALQ (S:=Ah 12 (λv=>AA6 wz v) (λv=>∃v0,AA6 wz v0/\v=v0.setCell ⟨pe,2,cX⟩ (cI cJ res))) (Ah.start Ac) ?_;(iterate 3((refine Ab.q (λz=>z.s.pass rfl) ?_)));(refine Ab.f (λz=>z.s.pass rfl) (λz=>AA (z.s.1 (z.o 12)) c18) ?_);(iterate 4((refine Ab.q (λz=>z.s.pass rfl) ?_)));(refine Ab.f (λz=>z.s.pass rfl) (λz=>AA (z.s.1 (z.o 12)) c17) ?_);(refine Ab.q (λz=>z.s.pass rfl) ?_);(refine Ab.f (λz=>z.s.pass rfl) (λz=>AA (z.s.1 (z.o 12)) hz) ?_);(refine Ab.q (λz=>z.s.pass rfl) ?_);(refine Ab.step (a1:=?_) rfl (λL w1 K' Q' hS hi hR hd hK=>?_) ?_ ?_;rotate_left)
    ·have hI:=hS.1 hi;have m2:=AA hI e2;have z2:=(hEr.nx hI).f 2 (by simp);go_simp;exact hK.out _ (Ah.done ⟨_,hI,rfl⟩)
    ·rfl
    refine Ab.nil λw5 hS5=>?_;obtain⟨v0,hI,rfl⟩:=hS5.2 rfl;go_wp2;go_meet;have jC:∀r,r≠pe->r<wz.heap.size->(v0.setCell ⟨pe,2,cX⟩ (cI cJ res)).heap[r]? =wz.heap[r]? :=λr h1 h2=>(Below.heap_setCell _ _ _ _ h1).trans (hI.block r h2);have JE:Apart wz (v0.setCell ⟨pe,2,cX⟩ (cI cJ res)) pe:=(Apart.of hI (by omega)).trans (Apart.set 2 _);exact⟨Nn.kp (JE.b.mono rC),gL.same (jC _ (by omega) gL.lt),(hEr.nx hI).set (i:=2) (by simp) _,wH _ (λb h1 h2=>jC b (by omega) h2),hbr.trans (JE.b.mono (by omega))⟩
   ·have A8:¬(na:Int)<ans.length:=(by omega);have hr2:res=0:=by
     have:=hres.out;rw[List.getElem?_eq_none (by omega)]at this;exact this.symm
    subst hr2;go_wp2;go_meet;exact⟨Nn,gL,hEr,hu,hbr⟩
  obtain⟨Nn,gL,hEr,hu,hbr⟩:=hcut;obtain⟨-,-,-,-,-,-,-,n17⟩:=Nn.ns;rw[hna.out]at n17;have fz:=Nn.Bw 17;have nE:=Nn.Xc ((na:Int)+1);have hb1:=hbr.trans (Nn.low 17 (cI cJ ((na:Int)+1)));have hMI:M≠w.heap.size:=by have:=Nn.own.lt;omega
  have hMP:M≠pe:=by have:=Nn.own.lt;omega
  have hI2:=gL.far (q:=⟨M,17,cX⟩) hMI (cI cJ ((na:Int)+1));have hE2:=hEr.far (q:=⟨M,17,cX⟩) hMP (cI cJ ((na:Int)+1));have hu2:=hu.same (w':=wc.setCell ⟨M,17,cX⟩ (cI cJ ((na:Int)+1))) (λb hb=>Below.heap_setCell _ _ _ _ (by have:=(hu.fp b hb).1;have:=Nn.own.lt;show b≠M;omega));obtain⟨e0,e1,e2,e3⟩:=hE2.c4;go_wp2_with fail;have hNh:N<=w2.heap.size:=by omega
  have hse:=Vh nE ⟨nm,vs.map (·.2),res,cA⟩ (AZ.mono hNh hu2) hnd htr hmk;refine hse.mono ?_;rintro e w5 ⟨rfl,⟨N5,Yw⟩,BJ,Pn⟩;have TA:=hI2.same (Pn _ Df hI2.lt);have hE5:=hE2.same (Pn _ rC hE2.lt);obtain⟨i0,i1,i2,i3,i4,i5⟩:=TA.c6;replace e2:=hE5.c 2 _ rfl;have Nf:=hb1.trans BJ;have hset:=Co Yw (rest:=rest) (x:=x) hfr hl hx 32 dst nm p1 p2 p3 vs.length l2 l3 c1 c2 c3 (BA,res);have hst:BP (JN {s with asked:=(na:Int)+1} ⟨nm,vs.map (·.2),res,cA⟩) rest x dst (BA,res)=BP {JN s ⟨nm,vs.map (·.2),res,cA⟩with asked:=s.asked+1} rest x dst (BA,res):=by rw[hna.out];rfl
  rw[hst]at hset;go_wp2_with fail;refine hset.mono ?_;rintro e w6 ⟨rfl,hm,Bp⟩;go_wp2;go_end0;exact⟨rfl,⟨_,by rw[hvs];exact hm⟩,Nf.trans Bp⟩
 ·have hlt:q<vs.length:=by omega
  have A8:(q:Int)<vs.length:=by omega
  obtain⟨a,rfl,v0,v1⟩:=hat q vs[q] (by simp[hlt]);have hab:=qP a rfl;have hne:(a.add (q*2)).block≠pe:=by rw[ah];omega
  replace v0:=hap.cell v0 hne;replace v1:wr.cell? ⟨(a.add (q*2)).block,(a.add (q*2)).off+1,cX⟩=_:=hap.cell v1 hne;obtain⟨xs,PU⟩:=hu.owns;have hlen:(((vs.take q).map (·.2)).map dN).length=q:=by simp;omega
  rw[hlen]at PU;have hlq:vs.take (q+1)=vs.take q++[vs[q]]:=List.take_succ_eq_append_getElem hlt;generalize vs[q]=vq at*;obtain⟨e0,e1,e2,e3⟩:(∀o,(wr.alloc o).cell? ⟨pe,0,cX⟩=cP (cS nm))/\(∀o,(wr.alloc o).cell? ⟨pe,1,cX⟩=cP u)/\(∀o,(wr.alloc o).cell? ⟨pe,2,cX⟩=cP (cI cJ 0))/\(∀o,(wr.alloc o).cell? ⟨pe,3,cX⟩=cP (cE cA)):=⟨λo=>(hEr.al o).c 0 _ rfl,λo=>(hEr.al o).c 1 _ rfl,λo=>(hEr.al o).c 2 _ rfl,λo=>(hEr.al o).c 3 _ rfl⟩;obtain⟨pu,cu,rfl⟩:=hu.slice;rw[hlen]at hu PU e1 hEr;have AET:=hap.trans (Apart.of (AJ _ (.cells #[cS vq.1,cI cJ vq.2] 34)) (by omega));have AEh:=hEr.al (.cells #[cS vq.1,cI cJ vq.2] 34);have hx2:=World.ownsRow.alloc PU (.cells #[cS vq.1,cI cJ vq.2] 34);have hu2:AZ (wr.alloc (.cells #[cS vq.1,cI cJ vq.2] 34)) _ _ _ _ _ _:=hu.same (λb hb=>Below.heap_alloc _ _ _ (hu.fp b hb).2);have xY:(wr.alloc (.cells #[cS vq.1,cI cJ vq.2] 34)).heap.size=wr.heap.size+1:=by simp
  have hB2:=Ae.alloc (wr.alloc (.cells #[cS vq.1,cI cJ vq.2] 34)) [cI cJ vq.2] 2;rw[xY]at hB2;go_wp2_with(at_builtin;refine wpList_append_own' rfl _ _ 28 rfl w2.heap.size 2 i0 _ 1 8 underlying28 hi hz0 hz1 hz2 rfl (by decide) _ q xs rfl (World.ownsRow.alloc hx2 _) ⟨_,0,cX⟩ 1 1 [cI cJ vq.2] rfl rfl (λj u hu=>by rw[Dk,Nat.zero_add];exact hB2.c j u hu) (by simp[Value.oneCell']) (by unfold maxLen;omega) (by omega) (by simp;omega) ?_;intro v' w3 ho hg hf;obtain⟨N7,Nh,rfl⟩:=Bf ho;(have rD:=(AEh.al (.cells #[cI cJ vq.2] 2)).same (hg.block pe (by simp;omega) (λe=>by have:=(hx2.lt pe e.symm).1;omega));have j1:=rD.c 1 _ rfl;have z1:=rD.f 1 (by simp)))
  have hu3:AZ ((wr.alloc (.cells #[cS vq.1,cI cJ vq.2] 34)).alloc (.cells #[cI cJ vq.2] 2)) w2.heap.size 2 1 (((vs.take q).map (·.2)).map dN) (cY pu q cu) fq:=hu2.same (λb hb=>Below.heap_alloc _ _ _ (hu2.fp b hb).2);obtain⟨fp',k1,k2,-⟩:=AZ.app1 (d:=dN vq.2) (w2:=w3) hu3 hnd (by rw[hlen];exact World.ownsRow.alloc hx2 _) hB2 (fd:=[]) (by unfold dN Af;exact⟨hB2.c 0 _ rfl,rfl,rfl⟩) (by simp) (by simp) rfl rfl (by rw[hlen];exact ho) hg hf;have Zd:Apart w2 w3 pe:=by
   have h1:=AET.trans (Apart.of (AJ _ (.cells #[cI cJ vq.2] 2)) (by omega));refine⟨h1.b.grown hg (by simp;omega) (λk hk=>by have:=(hx2.lt k hk).1;omega),λr h2 h3=>(hg.block r (by simp;omega) (λe=>?_)).trans (h1.k r h2 h3)⟩;have:=(hx2.lt r e.symm).1;omega
  have AES:=Zd.trans (Apart.set 1 (cY N7 (q+1) Nh));have AEg:=rD.set (i:=1) (by simp) (cY N7 (q+1) Nh);have k3:=k1.same (w':=w3.setCell ⟨pe,1,cX⟩ (cY N7 (q+1) Nh)) (λb hb=>Below.heap_setCell _ _ _ _ (by have:=(k1.fp b hb).1;show b≠pe;omega));have hfin:(((vs.take (q+1)).map (·.2)).map dN)=((vs.take q).map (·.2)).map dN++[dN vq.2]:=by rw[hlq,List.map_append,List.map_append,List.map_singleton,List.map_singleton]
  rw[<-hfin]at k3;go_wp2;go_roundw;exact⟨q+1,_,fp',by omega,by go_num,AEg,k3,k2,AES⟩;simp[intOf];omega
def aL:(prog.info? 84).map (λi=>(i.zero,i.size,i.bytes))=cP (cP (.agg #[cS .empty,cS .empty,cI cJ 0,.map cX]),4,48):=by kernel_rfl
theorem Apart.blk(hm:m<w.heap.size)(o:Obj):Apart w (Dx w m o) m:=
 ⟨(Below.refl m w).grown (Hz w m o) (Nat.le_of_lt hm) (λk hk=>by cases hk;exact AQ),λ_ h _=>I4 o h⟩
theorem Apart.box{p:Nat}{cs:List Value}(h:Apart w w' m)(hb:Ae w p (v::cs))(hne:p≠m):Ae w' p (v::cs):=hb.same (h.k p hne hb.lt)
theorem fZ{s:St}(h:Qd w0 w B N M k s j rest x i p1 c1)(hop:i.op=31)(hp:Cj w0 (.agg #[k.u0,k.u1,k.u2,k.u3,k.u4]) p k.u1 k.u2 k.u3 k.u4){g:Fn} {f1 f2 f3:Value} (hsel:Zo w0 k.u4 p.fs i.n g f1 f2 f3) (hvf:EL w0 (.agg #[cS g.n,cS g.r,f1,f2,f3]) g f1 f2 f3) {b0:Bk} {br:List Bk} (hbs:g.bs=b0::br) {m1:Vm} (hbind:bindM g.ps (i.as.map (Ar x.vars)) []=cP m1) (hfl:s.frames.length<=1000000):Calls prog 82 #[.pointer (cP ⟨M,0,cX⟩),.agg #[cI cJ i.op,cS i.d,cS i.n,cY p1 i.as.length c1,cY p2 l2 c2,cY p3 l3 c3]] w (BI B M k {s with frames:=rest++[x]++[⟨i.n,b0.n,0,m1⟩]} j w):=by
 obtain⟨h0,hA,hM,hfr,hl,hx,hin,hk⟩:=h;rw[hop];obtain⟨hI,hb1⟩:=BR (w:=w) (c1:=[cI cJ 31,cS i.d,cS i.n,cY p1 i.as.length c1,cY p2 l2 c2,cY p3 l3 c3]) (t1:=133) (AL);have Df:N<=w.heap.size:=hM.own.sz;have hBN:B<=N:=by have:=hM.own.ge;have:=hM.own.lt;omega
 have hLk:=λv (hw:AA6 w0 v)=>Kh hw hp i.n hsel hvf;obtain⟨NY,Nb,rfl,-,hn1,hps⟩:=hvf.p;obtain⟨NW,Na,rfl⟩:=hvf.v.slice;obtain⟨uq,Yr,rfl,-,QY,hbk⟩:=hvf.b;obtain⟨a3,rfl,⟨d0,-⟩,-⟩:=hbk 0 b0 (by rw[hbs];rfl);obtain⟨n3,qR,ADm,ADn⟩:∃n3:Nat,g.bs.length=n3/\0<n3/\(0:Int)<n3:=⟨_,rfl,by rw[hbs];simp,by rw[hbs];simp⟩;rw[qR]at hLk;generalize i.d=dst at*;generalize i.n=nm at*;obtain⟨g0,g1,g2,g3,g4,-⟩:=(hM.kp (hb1.mono Df)).hd;replace hbind:=Wx hbind;replace d0:w0.cell? a3=cP (cS b0.n):=d0;generalize hgn:g.n=gn at*;generalize hgr:g.r=gr at*;obtain⟨np,hnp⟩:∃np:Nat,Hid (g.ps.length=np):=⟨_,Wx rfl⟩;rw[hnp.out]at hn1 hLk;generalize nC:g.vs.length=nv at*;generalize hbn:b0.n=bn at*;go_enter func82,ntmps82;generalize Cr:w.alloc (.cells #[cI cJ 31,cS dst,cS nm,cY p1 i.as.length c1,cY p2 l2 c2,cY p3 l3 c3] 133)=W at*;replace hM:=hM.kp (hb1.mono Df);obtain⟨FB,cap,bm,hT,-⟩:=hM.top hfr hl;have hw0:=AB h0 hb1;obtain⟨-,-,i2,i3⟩:=hI.c4;have TQ:N<=W.heap.size:=hM.own.sz;have Db:Below B w W:=hb1.mono (by omega);go_wp2;refine ALR (S:=Ck W 10 11 [cS ⟨#[]⟩,cS ⟨#[]⟩,cY cX 0 0,cY cX 0 0,cY cX 0 0] [cS gn,cS gr,cY NY np Nb,cY NW nv Na,cY (cP a3) n3 Yr]) (Ck.start Ac) ?_;iterate 6((refine AU.f (λz=>z.s.keep rfl rfl) (λz=>ALS (AA z.s.1 g0) (ALS (AA z.s.1 g1) (ALS (AA z.s.1 g2) (ALS (AA z.s.1 g3) (ALS (AA z.s.1 g4) (AA z.s.1 i2)))))) ?_))
 (apply AU.y rfl;intro V L w1 _ _ z hK;go_simp;go_wp2_with((refine(hLk _ (AB hw0 z.s.1)).mono ?_;rintro e w2 ⟨hb,rfl⟩));(try simp only[pE]);exact hK.out _ (z.s.call hb rfl rfl);intros;rfl);iterate 3((refine AU.q (λz=>z.s.keep rfl rfl) ?_))
 (apply AU.w rfl;intro V L w1 _ _ _ z hK;go_simp;exact hK rfl (z.s.made rfl z.i _);(try simp only[pE]));refine AU.val undef (λ_=>rfl) (λV L w1 K' Q' hS hi hR' hd hK=>?_) ?_
 ·have hl:=hd.out 10 (by kernel_rfl);obtain⟨pb,hp,hp0,hp1,hx⟩:=hS.at hl hi;obtain⟨k0,k1,k2,k3,k4⟩:=hx.c5;obtain⟨f0,f1,f2,f3,f4⟩:=hx.f5;go_simp;exact hK.out _ _ (by simp only[hp];rfl) (hS.fill hl hp hp0 (by first|(rw[DK];exact hp1)|simpa using hp1) (hS.1.trans (Ay hp0 [cS gn,cS gr,cY NY np Nb,cY NW nv Na,cY (cP a3) n3 Yr] 0 w1)) (CK [cS gn,cS gr,cY NY np Nb,cY NW nv Na,cY (cP a3) n3 Yr] _ 0 w1 hx rfl) rfl)
 simp only[Act.put];(refine AU.q (λz=>z.s.keep rfl rfl) ?_);refine AU.nil λV w2 hS=>?_;obtain⟨pb,hpb,hp0,hp1,hxb⟩:=hS.done rfl rfl;have hb2:=hS.1;simp only[hpb];have hmm:= @run_makeMap prog;have Wo:=CQ.made (w:=w2) (clock:=0);have pO:=AJ w2 (.map #[] 0);have ADh:(w2.alloc (.map #[] 0)).heap.size=w2.heap.size+1:=by simp
 generalize hW3:w2.alloc (.map #[] 0)=W3 at*;have hb3:=AB hb2 pO;have gN:=AB hw0 hb3;replace i3:=AA hb3 i3;have hva:=Md gN (hT.kp hb3) hA hk (by omega);replace hxb:=hxb.nx pO;go_wp2_with fail;refine hva.mono ?_;rintro e w4 ⟨hb4,v,fp,rfl,hv,hnd⟩;obtain⟨pv,kv,rfl⟩:=hv.slice;rw[List.length_map,List.length_map]at hv⊢;generalize hvs:i.as.map (Ar x.vars)=vs at*;have hvl:vs.length=i.as.length:=by rw[<-hvs,List.length_map]
 generalize hnl:i.as.length=nl at*;have TB:=AB gN hb4;have qP:∀a,pv=cP a->W3.heap.size<=a.block:=λa e=>by subst e;exact hv.ptr.1
 obtain⟨pr,cr,he,-,-,hat⟩:=hv.vus (by omega);obtain⟨rfl,rfl,rfl⟩:pv=pr/\nl=vs.length/\kv=cr:=by simpa using he
 have hn8:vs.length<=8:=hin;have t1:=underlying69;have t2:=underlying9;replace hxb:=hxb.nx hb4;have hI4:=hI.nx (AB hb3 hb4);have hM4:=hM.kp ((AB hb3 hb4).mono TQ);have Po:=Db.trans ((AB hb3 hb4).mono (by omega));replace Wo:=Wo.other (hb4.block w2.heap.size (by omega));have hbb:w2.heap.size<w4.heap.size:=Wo.lt;have AJn:w2.heap.size<W3.heap.size:=by omega
 have hpb:pb≠w2.heap.size:=by omega
 have Fq:w.heap.size≠w2.heap.size:=by have:=hb2.size;have:=hI.lt;omega
 have yO:W.heap.size<=w2.heap.size:=hb2.size;have h0b:w0.heap.size<=w2.heap.size:=AX hw0.size yO;generalize hbe:w2.heap.size=b at*;replace hvs:=Wx hvs;go_wp2;go_loopw[25] (λi wr=>∃(q:Nat) (mq:Vm),q<=vs.length/\i=cI cJ (q:Int)/\CQ wr b mq/\Hid (bindM (g.ps.drop q) (vs.drop q) mq=cP m1)/\Apart w4 wr b) (λi _=>vs.length-(intOf i).toNat);exact⟨0,[],AY,rfl,Wo,hbind,Apart.refl _ _⟩;obtain⟨q,mq,hq,rfl,Yu,hbi,hap⟩:=hrel;have hbig:=hap.b.size;by_cases hend:q=vs.length
 ·subst hend;obtain rfl:m1=mq:=by
   have:=hbi.out;rw[List.drop_length]at this;unfold bindM at this;injection this with this;exact this.symm
  have hNb:N<=b:=by omega
  have Nn:=hM4.kp (hap.b.mono hNb);have gL:=hap.box hI4 Fq;have Kq:=hap.box hxb hpb;have hbr:=Po.trans (hap.b.mono (by omega));have hd0:=hap.cell (AA TB d0) (show a3.block≠b by have:=World.block_lt_of_cell? w0 _ d0;omega);generalize wr=wc at*;have hNc:N<=wc.heap.size:=Nn.own.sz;have s0:=Nn.st;unfold Eh at s0;have s1:=s0.nth 3 rfl (n:=4) (by simp[Dt.DF,Dt.wd,C9,dN,dS]);obtain⟨vt,xs,ct,PU,pt,kt,rfl⟩:=s1.owns;rw[List.length_map]at ct PU;have IW:=s1.OE ct;have hot:=λk hk=>s1.JI (k:=k) ct hk;have hfz:=Nn.Bw 9;have Pk:=Nn.own.lt;have A8:=gL.lt;have yB:=Kq.lt;have hsd:wc.drew.heap.size=wc.heap.size:=rfl;generalize hnt:s.frames.length=nt at*;have hxd:=Dh PU (Al (w:=wc) 1) (AQ);go_wp2;refine ALR (S:=Ad wc.drew B 84 4 15 16 20 [cS nm,cS bn,cI cJ 0,.map (cP b)] nt xs (cY pt nt kt) ⟨M,9,cX⟩) (Ad.start (AL)) ?_;iterate 5((refine AU.q (λz=>z.s.keep rfl rfl rfl) ?_))
  (refine AU.f (λz=>z.s.keep rfl rfl rfl) (λz=>AA (z.s.below (z.o 16)) (show wc.drew.cell? ⟨M,9,cX⟩=cP (cY pt nt kt)from ct)) ?_);(refine AU.q (λz=>z.s.keep rfl rfl rfl) ?_);(refine AU.f (λz=>z.s.keep rfl rfl rfl) (λz=>((gL.drew).below A8 (z.s.below (z.r 16 15 (by kernel_rfl) (z.r 15 14 (by kernel_rfl) (z.o 14))))).c 2 _ rfl) ?_);(refine AU.q (λz=>z.s.keep rfl rfl rfl) ?_);(refine AU.f (λz=>z.s.keep rfl rfl rfl) (λz=>((Kq.drew).below yB (z.s.below (z.r 16 15 (by kernel_rfl) (z.r 15 14 (by kernel_rfl) (z.r 14 12 (by kernel_rfl) (z.r 12 11 (by kernel_rfl) (z.r 11 10 (by kernel_rfl) (z.o 10)))))))).c 4 _ rfl) ?_);iterate 2((refine AU.q (λz=>z.s.keep rfl rfl rfl) ?_))
  (refine AU.f (λz=>z.s.keep rfl rfl rfl) (λz=>AA (z.s.below (z.r 16 15 (by kernel_rfl) (z.r 15 14 (by kernel_rfl) (z.o 14)))) (show wc.drew.cell? a3=cP (cS bn)from hd0)) ?_);iterate 2((refine AU.q (λz=>z.s.keep rfl rfl rfl) ?_))
  (apply AU.w rfl;intro V L w1 _ _ _ z hK;go_simp;exact hK rfl (z.s.made (z.o 16) rfl _);(try simp only[pE]));(refine Ad.aq (aL) (underlying35) (hxd) ?_;(try simp only[pE]));iterate 3((refine AU.q (λz=>z.s.keep rfl rfl rfl) ?_))
  (refine Ad.sv (λhS hi=>ALS (hS.cellOf hi (show wc.drew.cell? ⟨M,9,cX⟩=cP (cY pt nt kt)from ct) IW) (hS.EA hi (o:=9) (show M<wc.drew.heap.size from A9 Pk hNc) hfz IW)) ?_;simp only[Act.put]);refine AU.nil λV w1 hS=>?_;obtain⟨⟨N1,ho⟩,hbel,-,w9,u9,rfl,Y9⟩:=hS.done rfl rfl (s1.kp ((Al (w:=wc) 1).mono hNc)) (AL) ct hxd (by rw[List.length_map,hnt]) (d:=Kw ⟨nm,bn,0,m1⟩)
   (λw1 pb b1 _ _ hx=>⟨[b]++[],Af.of (AP.cc (hx.c 0 _ rfl) rfl (AP.cc (hx.c 1 _ rfl) rfl (AP.cc (hx.c 2 _ rfl) rfl (AP.cm (hx.c 3 _ rfl) hNb (Yu.other (b1.block b Yu.lt)) AP.cn)))),by simp⟩) rfl rfl
  have h1:Am (w9.setCell ⟨M,5+4,cX⟩ u9) B N1 M k {s with frames:=rest++[x]++[⟨nm,bn,0,m1⟩]} j:=by
   obtain⟨cur,T,e1⟩:=Nn.typ;refine⟨?_,Iq (Y9.trans e1) _ _⟩;unfold dM Eh;rw[<-hfr];simpa using ho
  generalize w9.setCell ⟨M,5+4,cX⟩ u9=W2 at*;have Nf:=hbr.trans ((Al (w:=wc) 1|>.mono (by omega)).trans hbel);go_wp2;go_end0;exact⟨rfl,⟨_,h1⟩,Nf⟩
 ·have hlt:q<vs.length:=by omega
  have A8:(q:Int)<vs.length:=by omega
  obtain⟨a,rfl,v0,v1⟩:=hat q vs[q] (by simp[hlt]);have hab:=qP a rfl;have hne:(a.add (q*2)).block≠b:=by rw[ah];omega
  replace v0:=hap.cell v0 hne;replace v1:wr.cell? ⟨(a.add (q*2)).block,(a.add (q*2)).off+1,cX⟩=_:=hap.cell v1 hne;have Qg:=hbi.out;rw[List.drop_eq_getElem_cons hlt]at Qg;have hqp:q<g.ps.length:=by
   rcases Nat.lt_or_ge q g.ps.length with h|h
   ·exact h
   ·rw[List.drop_eq_nil_of_le h]at Qg;unfold bindM at Qg;cases Qg
  rw[List.drop_eq_getElem_cons hqp]at Qg;unfold bindM at Qg;obtain⟨ap,rfl,⟨d1,-⟩,-⟩:=hps q g.ps[q] (by simp[hqp]);have hbp:=World.block_lt_of_cell? w0 _ d1;have hne2:(ap.add (q*2)).block≠b:=λe=>by rw[e]at hbp;omega
  replace d1:=hap.cell (AA TB d1) hne2;have nA:(q:Int)<np:=by have:=hnp.out;omega
  replace Qg:=Wx Qg;have Kq:=hap.box hxb hpb;have hltx:=Kq.lt;generalize vs[q]=vq at*;generalize g.ps[q]=pq at*;have xY:∀o,(wr.alloc o).heap.size=wr.heap.size+1:=λo=>by simp
  obtain⟨vK,hb5⟩:=BR (w:=wr) (c1:=[cS vq.1,cI cJ vq.2]) (t1:=34) (AL);have ADb:=Kq.nx hb5;have yA:=Yu.other (hb5.block b Yu.lt);have JE:=hap.trans (Apart.of hb5 (by omega));have d5:=AA hb5 d1;go_wp2;generalize pR:wr.alloc (.cells #[cS vq.1,cI cJ vq.2] 34)=W5 at*;have x2:=ADb.c 2 _ rfl;obtain⟨v0',v1'⟩:=vK.c2;refine ALQ (S:=Ah 8 (λv'=>AA6 W5 v') (λv'=>∃v0 o2,AA6 W5 v0/\v'=Dx v0 b o2/\CQ v' b (Ei mq pq.n vq))) (Ah.start Ac) ?_;iterate 2((refine Ab.q (λz=>z.s.pass rfl) ?_))
  (refine Ab.f (λz=>z.s.pass rfl) (λz=>AA (z.s.1 (z.o 8)) x2) ?_);iterate 3((refine Ab.q (λz=>z.s.pass rfl) ?_))
  (refine Ab.f (λz=>z.s.pass rfl) (λz=>AA (z.s.1 (z.o 8)) d5) ?_);(refine Ab.f (λz=>z.s.pass rfl) (λz=>have hI:=z.s.1 (z.o 8);ALS (AA hI v0') (AA hI v1')) ?_);(refine Ab.step (a1:=?_) rfl (λL w1 K' Q' hS hi hR hd hK=>?_) ?_ ?_;rotate_left)
  ·have hI:=hS.1 hi;obtain⟨o2,ho,hm2⟩:=Mi t1 t2 (yA.other (hI.block b yA.lt)) pq.n vq;go_simp;exact hK.out _ (Ah.done ⟨_,o2,hI,rfl,hm2⟩)
  ·rfl
  refine Ab.nil λw6 H6=>?_;obtain⟨v0,o2,hI,rfl,hm2⟩:=H6.2 rfl;have AER:=(JE.trans (Apart.of hI (by have:=JE.b.size;omega))).trans (Apart.blk (m:=b) (by have:=hI.size;have:=JE.b.size;omega) o2);go_wp2;go_roundw;exact⟨q+1,_,by omega,by go_num,hm2,Qg,AER⟩;simp[intOf];omega
section
open Num Dp
structure Env(w0:World)(B:Nat)(k:Hd)(p:Pg)(ans fails:List Int):Prop where
 vp:Cj w0 (.agg #[k.u0,k.u1,k.u2,k.u3,k.u4]) p k.u1 k.u2 k.u3 k.u4
 an:Row Nj 1 w0 k.av ans
 fa:Row Nj 1 w0 k.fv fails
 b0:w0.heap.size<=B
 good:DJ p
 nx:KO p
 rng:Zp p
 ra:∀n∈ans,Bo n
 cl:∀c∈p.cs,c.fs.length<=4000
 gl:p.gs.length<=4000
 bl:∀f∈p.fs,∀b∈f.bs,b.cs.length<=100000
structure Small(s:St):Prop where
 fr:s.frames.length<=1000000
 hp:s.heap.length<=1000000
 gl:s.globals.length<=4000
 tr:s.trace.length<=1000000
 Lc:s.marks.length<=1000000
 al:0<=s.allocs/\s.allocs<=1000000
 gu:0<=s.guards/\s.guards<=1000000
 ak:0<=s.asked/\s.asked<=1000000
theorem Qd.up{s:St}(h:Qd w0 w B N M k s j rest x i p1 c1)(hb:AA6 w w1):Qd w0 w1 B N M k s j rest x i p1 c1:=
 ⟨AB h.h0 hb,h.a,h.m.kp (hb.mono h.m.own.sz),h.fr,h.l,h.x,h.n,h.k⟩
def BI.of{s:St}{e:Ending}(hb:Below B w w1)(h:BI B M k s j w1 e w'):e=.returned (.tuple #[])/\((∃N',Am w' B N' M k s j)/\Below B w w'):=⟨h.1,h.2.1,hb.trans h.2.2⟩
theorem OT{a:Ag}{t:ByteArray}(h:GJ f a=cP t):NZ a:=by
 unfold GJ at h;grind
theorem SC:∀{l:List Ag} {ts:List ByteArray},DU f l=cP ts->∀a∈l,NZ a:=λh a ha=>by
 obtain⟨k,hk⟩:=List.mem_iff_getElem?.1 ha;obtain⟨t,-,ht⟩:=Gh h k a hk;exact OT ht
theorem YK{s:St}(hE:Env w0 B k p ans fails)(h:Qd w0 w B N M k s j rest x i p1 c1)(hz:Small s)(hw:WT p s)(hr:Ga s) (hib:Di p f i=cC) (hdst:RP i) (wI:rP i) (hs:Bq p ans fails s rest x i=cP t):Calls prog 53 #[.pointer (cP ⟨M,0,cX⟩),.agg #[cI cJ i.op,cS i.d,cS i.n,cY p1 i.as.length c1,cY p2 l2 c2,cY p3 l3 c3]] w (BI B M k t j w):=by
 have hb1:=AJ w (.cells #[cI cJ i.op,cS i.d,cS i.n,cY p1 i.as.length c1,cY p2 l2 c2,cY p3 l3 c3] 133);have hu:=h.up hb1;have hBw:Below B w (w.alloc (.cells #[cI cJ i.op,cS i.d,cS i.n,cY p1 i.as.length c1,cY p2 l2 c2,cY p3 l3 c3] 133)):=hb1.mono (by have:=h.m.own.ge;have:=h.m.own.lt;have:=h.m.own.sz;omega);obtain⟨fm,d,l,hfo,hlen,hd,xW,hll,hq⟩:=Gx hib;have hx0:=hr.fr x (by rw[h.fr];simp);have hvl:∀{o:Vu} {y:ByteArray} {fr:Nat×ByteArray×List Vu×Nat×Vu},fieldAt p s o y=cP fr->fr.2.2.1.length<=1000000:=λhf=>by
  obtain⟨ob,cl,-,-,Nc,-,hov,hcl,-,-⟩:=GR hf;obtain⟨c,h1,h2,-⟩:=hw.heap ob (List.mem_of_getElem? Nc);rw[<-hov,h2];have:=hE.cl c (Ak h1).1;omega
 unfold Bq at hs;by_cases ZG:i.op=25
 ·rw[if_pos ZG]at hs;injection hs with hs;subst hs;have hmd:Kz p i d l=cC:=by
   unfold Av BX at hq;rw[ZG]at hq;simpa using hq
  unfold Kz at hmd
  cases hc:Ai Cl.n i.n p.cs with
  |none=>rw[hc]at hmd;cases hmd
  |some c=>
   obtain⟨uc,hsel,Sw⟩:=Vf hE.vp.c hc;have:=dX (p2:=p2) (p3:=p3) (l2:=l2) (c2:=c2) (l3:=l3) (c3:=c3) hu ZG hE.vp hc hsel Sw (hE.cl c (Ak hc).1) hz.hp hz.al;rw[ZG]at this hBw⊢;exact jh (this.mono λ_ _ h=>BI.of hBw h)
 rw[if_neg ZG]at hs;by_cases iM:i.op=29
 ·rw[if_pos iM]at hs;split at hs
  ·cases hs
  rename_i q hq2
  split at hs
  ·cases hs
  rename_i v hv
  injection hs with hs;subst hs;have:=YT (i:=i) (p1:=p1) (p2:=p2) (p3:=p3) (l1:=i.as.length) (c1:=c1) (l2:=l2) (c2:=c2) (l3:=l3) (c3:=c3) hu.h0 hu.m hu.fr hu.l hu.x (by omega) hE.vp hq2 hv (by have:=hz.gl;omega);rw[iM]at this hBw⊢;exact AB1 (this.mono λ_ _ h=>BI.of hBw h)
 rw[if_neg iM]at hs;by_cases c31:i.op=31
 ·rw[if_pos c31]at hs;split at hs
  ·cases hs
  rename_i g hg
  split at hs
  ·cases hs
  rename_i b0 br hbs
  split at hs
  ·cases hs
  rename_i m1 hm1
  injection hs with hs;subst hs;obtain⟨f1,f2,f3,hsel,hvf⟩:=QD hE.vp.f hg;have:=fZ (p2:=p2) (p3:=p3) (l2:=l2) (c2:=c2) (l3:=l3) (c3:=c3) hu c31 hE.vp hsel hvf hbs hm1 hz.fr;rw[c31]at this hBw⊢;exact ji (this.mono λ_ _ h=>BI.of hBw h)
 rw[if_neg c31]at hs;by_cases c32:i.op=32
 ·rw[if_pos c32]at hs;injection hs with hs;subst hs;have:=mP (p2:=p2) (p3:=p3) (l2:=l2) (c2:=c2) (l3:=l3) (c3:=c3) hu c32 hE.an hz.ak hz.tr hz.Lc;rw[c32]at this hBw⊢;exact rX (this.mono λ_ _ h=>BI.of hBw h)
 rw[if_neg c32]at hs;have iy:fm.d=cA->i.d=Bv:=λh=>Jl hdst hfo h;have FJ:=Mx hfo;by_cases c34:i.op=34
 ·rw[if_pos c34]at hs;have hd0:i.d=Bv:=iy (by rw[FJ,c34];decide);have:=YR (i:=i) (p1:=p1) (p2:=p2) (p3:=p3) (l1:=i.as.length) (c1:=c1) (l2:=l2) (c2:=c2) (l3:=l3) (c3:=c3) hu.h0 hu.m hu.fr hu.l hu.x hd0 hE.fa (by have:=hz.gu;omega) hE.b0;have ht:(if s.guards∈fails then{s with guards:=s.guards+1,status:=4}else BP {s with guards:=s.guards+1} rest x i.d (Bv,0))=t:=by
   unfold TU at hs;rw[if_pos hd0]at hs;split at hs<;>(injection hs with hs)
   ·rw[if_pos ‹_›];exact hs
   ·rw[if_neg ‹_›];exact hs
  rw[ht]at this;rw[c34]at this hBw⊢;exact AB0 (this.mono λ_ _ h=>BI.of hBw h)
 rw[if_neg c34]at hs;split at hs
 ·cases hs
 rename_i a r has
 have goT:∀{s':St},i.d=Bv->TU s' rest x i.d=cP t->BP s' rest x i.d (Bv,0)=t:=λhd h=>by
  unfold TU at h;rw[if_pos hd]at h;injection h
 by_cases iN:i.op=22
 ·rw[if_pos iN]at hs;injection hs with hs;subst hs;exact Yi h has iN
 rw[if_neg iN]at hs;by_cases c23:i.op=23
 ·rw[if_pos c23]at hs;injection hs with hs;subst hs;exact Yj h has c23 (Me hx0 (wI a (by rw[has];simp)))
 rw[if_neg c23]at hs;by_cases c24:i.op=24
 ·rw[if_pos c24]at hs;injection hs with hs;subst hs;exact fV h has c24
 rw[if_neg c24]at hs;by_cases gT:i.op=26
 ·rw[if_pos gT]at hs;split at hs
  ·rename_i h0
   injection hs with hs;subst hs;have:=LK (p2:=p2) (p3:=p3) (l2:=l2) (c2:=c2) (l3:=l3) (c3:=c3) hu has h0 hz.hp;rw[gT]at this hBw⊢;exact Vb (this.mono λ_ _ h=>BI.of hBw h)
  split at hs
  ·cases hs
  rename_i q hq2
  injection hs with hs;subst hs;have:=Sv (p2:=p2) (p3:=p3) (l2:=l2) (c2:=c2) (l3:=l3) (c3:=c3) hu has (by omega) hE.vp hq2 hz.hp (hvl hq2);rw[gT]at this hBw⊢;exact Vb (this.mono λ_ _ h=>BI.of hBw h)
 rw[if_neg gT]at hs;by_cases ZF:i.op=30
 ·rw[if_pos ZF]at hs;split at hs
  ·cases hs
  rename_i q hq2
  split at hs
  ·cases hs
  rename_i v hv
  have hd0:i.d=Bv:=iy (by rw[FJ,ZF];decide);have ht:=goT hd0 hs;have:=U4 (p2:=p2) (p3:=p3) (l2:=l2) (c2:=c2) (l3:=l3) (c3:=c3) hu has ZF hd0 hE.vp hq2 hv (by have:=hz.gl;omega);rw[ht]at this;rw[ZF]at this hBw⊢;exact XM (this.mono λ_ _ h=>BI.of hBw h)
 rw[if_neg ZF]at hs;by_cases gQ:i.op=33
 ·rw[if_pos gQ]at hs;have hd0:i.d=Bv:=iy (by rw[FJ,gQ];decide);have ht:=goT hd0 hs;rw[<-ht];exact fU h has gQ hd0 hz.tr hz.Lc
 rw[if_neg gQ]at hs;split at hs
 ·cases hs
 rename_i x0 x1 b r2
 by_cases Yy:i.op=27
 ·rw[if_pos Yy]at hs;split at hs
  ·rename_i h0
   injection hs with hs;subst hs;have:=LK (p2:=p2) (p3:=p3) (l2:=l2) (c2:=c2) (l3:=l3) (c3:=c3) hu has h0 hz.hp;rw[Yy]at this hBw⊢;exact RS (this.mono λ_ _ h=>BI.of hBw h)
  split at hs
  ·cases hs
  rename_i q hq2
  have hd0:i.d=Bv:=iy (by rw[FJ,Yy];decide);have ht:=goT hd0 hs;have:=QU (p2:=p2) (p3:=p3) (l2:=l2) (c2:=c2) (l3:=l3) (c3:=c3) hu has Yy hd0 hE.vp hq2 hz.hp (hvl hq2);rw[ht]at this;rw[Yy]at this hBw⊢;exact RS (this.mono λ_ _ h=>BI.of hBw h)
 rw[if_neg Yy]at hs;by_cases c28:i.op=28
 ·rw[if_pos c28]at hs;injection hs with hs;subst hs;exact Yh h has c28
 rw[if_neg c28]at hs;have h21:1<=i.op/\i.op<=21:=by
  have:=I6 hfo;omega
 have h2:i.as.length=2:=by
  unfold BH at hfo;rw[if_pos h21]at hfo;injection hfo with hfo;subst hfo;dsimp only at hlen;omega
 have hab:i.as=[a,b]:=by
  rw[has]at h2⊢;have:r2=[]:=List.eq_nil_of_length_eq_zero (by simpa using h2);rw[this]
 have:=Um (p2:=p2) (p3:=p3) (l2:=l2) (c2:=c2) (l3:=l3) (c3:=c3) (t:=t) hu hab h21 (by
  by_cases VO:1<=i.op/\i.op<=14
  ·rw[if_pos VO]at hs;rw[if_pos VO.2];split at hs<;>(injection hs with hs)
   ·rw[if_pos ‹_›];exact hs
   ·rw[if_neg ‹_›];exact hs
  ·rw[if_neg VO,if_pos (by omega)]at hs;injection hs with hs;rw[if_neg (by omega)]
   exact hs)
 exact XL h21 (this.mono λ_ _ h=>BI.of hBw h)
end
section
open Num Dp
theorem Xe{l:List Bk}(hl:Row Jf 9 w0 v l){y:ByteArray}{b:Bk}(h:Ai Bk.n y l=cP b)(hp:b.ps=[]):∃p0 c0 b2 b3 q a,jS w0 v l y b (cY p0 0 c0) b2 b3 q a:=by
 obtain⟨u1,u2,u3,q,a,h1,h2⟩:=Vg hl h;obtain⟨p0,c0,rfl⟩:=h2.p.slice;grind
theorem WA{s:St}(hE:Env w0 B k p ans fails)(h0:AA6 w0 w)(hM:Am w B N M k s j)(hfr:s.frames=rest++[x])(hz:Small s) {b:Bk} {f1 f2 f3 b1 b2 b3:Value} {q:Nat}  (hh:Here w0 p k x f b f1 f2 f3 b1 b2 b3 q a) (hgb:oV p f b) (hf:∀b∈f.bs,b.ps=[]) (hs:La p f s rest x b.e=cP t):Calls prog 54 #[.pointer (cP ⟨M,0,cX⟩),.agg #[cS f.n,cS f.r,f1,f2,f3],.agg #[cI cJ b.e.k,cI cJ b.e.a.k,cS b.e.a.s,cI cJ b.e.a.n,b3,cI cJ b.e.n]] w (BI B M k t j w):=by
 obtain⟨-,-,hvf,-,hvb⟩:=hh;have hl:rest.length+1<=1000000:=by have:=hz.fr;rw[hfr]at this;simpa using this
 have htake:∀{y:ByteArray} {t:St},H7 f s rest x y=cP t->∀v,AA6 w v->Calls prog 87 #[.pointer (cP ⟨M,0,cX⟩),.agg #[cS f.n,cS f.r,f1,f2,f3],cS y] v (BI B M k t j v):=by
  intro y t ht v hv;have hform:=KS ht;unfold H7 at ht;split at ht
  ·cases ht
  rename_i b' hb'
  obtain⟨p0,c0,u2,u3,q',a',hsel⟩:=Xe hvf.b hb' (hf b' (Ak hb').1);rw[hform];exact bI (hM.kp (hv.mono hM.own.sz)) hfr (by omega) (AB h0 hv) hvf hsel
 have hft:=hvf;obtain⟨NY,Nb,rfl⟩:=hvf.p.slice;obtain⟨NW,Na,rfl⟩:=hvf.v.slice;obtain⟨uq,Yr,rfl⟩:=hvf.b.slice;unfold La at hs;by_cases k1:b.e.k=1
 ·rw[if_pos k1]at hs;split at hs
  ·cases hs
  rename_i y r hto
  obtain⟨pt,ct,rfl,-,-,hts⟩:=hvb.t;obtain⟨t0,rfl,c0,-⟩:=hts 0 y (by rw[hto];rfl);exact fM h0 hM _ _ _ _ _ t0 _ _ _ _ _ _ _ _ _ _ _ _ _ k1 (by rw[hto];simp) c0 (htake hs)
 rw[if_neg k1]at hs;have hka:b.e.k=2\/b.e.k=3->NZ b.e.a:=λh=>by
  have he:=hgb.e;unfold Pq at he
  cases ht:GJ f b.e.a with
  |some ty=>exact OT ht
  |none=>
   rw[ht]at he;unfold Zl at he;rcases h with h|h<;>(rw[h]at he;simp at he)
 by_cases k2:b.e.k=2
 ·rw[if_pos k2]at hs;split at hs
  ·rename_i y0 y1 r hto
   obtain⟨pt,ct,rfl,-,-,hts⟩:=hvb.t;obtain⟨t0,rfl,c0,-⟩:=hts 0 y0 (by rw[hto];rfl);obtain⟨t1,e,c1,-⟩:=hts 1 y1 (by rw[hto];rfl);obtain rfl:t0=t1:=(by simpa using e);exact U7 h0 hM hfr (by omega) _ _ _ _ _ t0 _ _ _ _ _ _ _ _ _ _ b.e.a (hka (.inl k2)) k2 (by rw[hto];simp) c0 c1 (htake hs)
  ·cases hs
 rw[if_neg k2]at hs;obtain⟨pt,ct,rfl⟩:=hvb.t.slice;by_cases k3:b.e.k=3
 ·rw[if_pos k3]at hs;refine l6 hM hfr (by omega) _ _ _ _ _ _ _ _ _ _ _ _ _ _ _ _ b.e.a (hka (.inr k3)) k3 λv hv=>?_;have hMv:=hM.kp (hv.mono hM.own.sz);unfold K4 at hs;split at hs
  ·rename_i hlast
   have:rest=[]:=List.getLast?_eq_none_iff.1 hlast;subst this;injection hs with hs;subst hs;exact eZ hMv hfr _
  rename_i y hlast
  obtain⟨r2,hr2⟩:∃r2,rest=r2++[y]:=⟨_,(List.getLast?_eq_some_iff.1 hlast).choose_spec⟩;subst hr2;split at hs
  ·cases hs
  rename_i g hg
  split at hs
  ·cases hs
  rename_i bb hbb
  split at hs
  ·cases hs
  rename_i i hi
  split at hs
  ·cases hs
  injection hs with hs;subst hs;obtain⟨g1,g2,g3,e1,e2,e3,qq,aa,hhy⟩:=V3 hE.vp hg hbb;have hyl:=(List.getElem?_eq_some_iff.1 hi).1;have:=hE.bl g (Ak hg).1 bb (Ak hbb).1;rw[List.dropLast_concat];exact YU (AB h0 hv) hE.b0 hMv hfr hl (by omega) _ hhy hi
 rw[if_neg k3]at hs;by_cases k4:b.e.k=4
 ·rw[if_pos k4]at hs;injection hs with hs;subst hs;exact fK hM _ _ _ _ _ _ _ _ _ _ _ _ _ _ _ _ _ _ _ k4
 ·rw[if_neg k4]at hs;cases hs
end
section
open Num Dp
def VU(w:World)(b o:Nat):Int:=match w.cell? ⟨b,o,cX⟩with
 |some (cI _ n)=>n
 |_=>0
theorem Rl{b o:Nat}{n:Int}(h:w.cell? ⟨b,o,cX⟩=cP (cI cJ n)):VU w b o=n:=by
 unfold VU;rw[h]
def Zw(fuel:Int)(M:Nat)(w:World):Nat:=(fuel-VU w M 15).toNat*257+(257-VU w M 20).toNat
def Jw{s:St}(h:Am w B N M k s j)(fuel:Int):Zw fuel M w=(fuel-s.steps).toNat*257+(257-j).toNat:=by
 obtain⟨-,-,-,-,-,n15,-,-⟩:=h.ns;obtain⟨-,-,-,-,-,-,-,c20⟩:=h.hd;unfold Zw;rw[Rl n15,Rl c20]
structure Way(p:Pg)(s:St)(fuel:Int):Prop where
 wt:WT p s
 ct:ZH s
 rg:Ga s
 st:s.steps<=100000
 fu:fuel<=100000
 gl:s.globals.length<=4000
theorem Way.small{s:St}{fuel:Int}(h:Way p s fuel):Small s:=by
 obtain⟨-,ct,-,st,-,gl⟩:=h;have h1:=ct.al;have h2:=ct.gu;have h3:=ct.tr;have h4:=ct.o8;have h5:=ct.fr;obtain⟨h6,h7⟩:=ct.asks;have h8:=List.length_filter_le (λe:Ev=>decide (e.n≠Bv)) s.trace;exact⟨by omega,by omega,gl,by omega,by omega,by omega,by omega,by omega⟩
theorem Way.round{s:St}{fuel:Int}{j k:Nat}{kk:Hd}(hE:Env w0 B kk p ans fails)(h:Way p s fuel)(hst:s.status=0)(hr:EP p ans fails fuel s j=cP (t,k)):Way p t fuel:=by
 obtain⟨t',k',e,hw⟩:=Ml hE.good h.wt hst ans fails fuel j;rw[hr]at e;injection e with e;injection e with e1 e2;subst e1;obtain⟨c1,-,-,-,c5,c6⟩:=Oa hE.good hE.nx h.wt h.ct hst hr;have:=h.fu;have:=h.st;exact⟨hw,c1,Xj hE.good hE.rng h.rg h.wt hst hE.ra h.small.hp hr,by rcases c5 with c5|c5<;>omega,h.fu,by rw[c6];exact h.gl⟩
theorem jq{s:St}{j:Nat}(hE:Env w0 B k p ans fails)(h0:AA6 w0 w)(hM:Am w B N M k s j)(hj:j<=256)(fuel:Int)(hy:Way p s fuel):Calls prog 26 #[.pointer (cP ⟨M,0,cX⟩),cI cJ fuel] w λe w'=>e=.returned (.tuple #[])/\∃t j' N',Am w' B N' M k t j'/\Runs p ans fails fuel s j t/\Way p t fuel/\Below B w w':=by
 go_enter func26,ntmps26;go_wp2;go_loopw[] (λwr=>∃(s1:St) (j1 N1:Nat),Am wr B N1 M k s1 j1/\j1<=256/\Reach p ans fails fuel s j s1 j1/\Way p s1 fuel/\Below B w wr) (λwr=>Zw fuel M wr);exact⟨s,j,N,hM,hj,.refl _ _,hy,AL⟩;obtain⟨s1,j1,N1,hM,hj,hre,hy,hb⟩:=hrel;have hMl:=Jw hM fuel;obtain⟨n5,-⟩:=hM.ns;by_cases hst:s1.status=0
 ·have hsb:(s1.status==(0:Int))=cC:=by simp[hst]
  obtain⟨x,f,b,h1,h2,h3⟩:=Z8 hy.wt hst;obtain⟨f1,f2,f3,b1,b2,b3,q,a,hh⟩:=V3 hE.vp h3.1 h3.2.1;have hz:=hy.small;generalize hrest:s1.frames.dropLast=rest at*;have hl:rest.length+1<=1000000:=by have:=hz.fr;rw[h2]at this;simpa using this
  obtain⟨t,kk,hrd,hwt⟩:=Ml hE.good hy.wt hst ans fails fuel j1;have h0r:AA6 w0 wr:=h0.trans (hb.mono hE.b0);have hBl:=PN hM h2 (by omega) h0r hh;replace hst:=Wx hst;go_wp2_with fail;refine hBl.mono ?_;rintro e w2 ⟨rfl,hb2⟩;have hh2:=hh;obtain⟨-,-,hvf,-,hvb⟩:=hh2;obtain⟨NY,Nb,rfl⟩:=hvf.p.slice;obtain⟨NW,Na,rfl⟩:=hvf.v.slice;obtain⟨uq,Yr,rfl⟩:=hvf.b.slice;obtain⟨gy,iE,rfl⟩:=hvb.p.slice;obtain⟨gZ,iD,rfl⟩:=hvb.t.slice;obtain⟨pc,cc,rfl,-,hnc,hcs⟩:=hvb.c;have hxl:=h3.2.2.1;have hbl:=hE.bl f (Ak h3.1).1 b (Ak h3.2.1).1;obtain⟨hF,hBx,hb5⟩:=Ch (w:=w2) (c1:=[cS f.n,cS f.r,cY NY f.ps.length Nb,cY NW f.vs.length Na,cY uq f.bs.length Yr]) (c2:=[cS b.n,cY gy b.ps.length iE,cY pc b.cs.length cc,cI cJ b.e.k,cI cJ b.e.a.k,cS b.e.a.s,cI cJ b.e.a.n,cY gZ b.e.to.length iD,cI cJ b.e.n]) (t1:=66) (t2:=82) (AL);have Zb:=AB hb2 hb5;unfold vk;go_wp2_with fail;generalize pR:World.alloc _ _=W5 at*;have Yw:=hM.kp (Zb.mono hM.own.sz);obtain⟨FB,cap,bm,hT,-⟩:=Yw.top h2 (by omega);refine(He hT.sl hT.l).mono ?_;rintro e w6 ⟨rfl,qq,rfl⟩;have vE:=Al (w:=W5) qq;have ZA:=Yw.kp (vE.mono Yw.own.sz);have vL:=hT.kp vE;have nL:=hF.nx vE;have nM:=hBx.nx vE;have PX:=AB h0r (AB Zb vE);have hb6:Below B w (W5.drewN qq):=hb.trans ((AB Zb vE).mono (by have:=hM.own.sz;have:=hM.own.ge;have:=hM.own.lt;omega));have AJi:N1<=w2.heap.size:=AX hM.own.sz hb2.size;have Pk:=hM.own.lt;have t2:=vL.i;have AJj:=ZA.Bw 5;have hgb:=(hE.good.fs f (Ak h3.1).1).b b (Ak h3.2.1).1;have aN:∀b'∈f.bs,b'.ps=[]:=λb' hb'=>((hE.good.fs f (Ak h3.1).1).b b' hb').ps;have hms:∀{t:St} {k':Nat},EP p ans fails fuel s1 j1=cP (t,k')->Way p t fuel:=λh=>hy.round hE hst.out h;generalize hW6:W5.drewN qq=W6 at*;rcases Il hE.good hy.wt hst.out hrd with⟨x',f',b',g1,g2,g3,g4⟩;rw[h1]at g1;injection g1 with g1;injection g1 with e1 g1;injection g1 with e2 e3;subst e1 e2 e3;obtain⟨-,-,b2c,b3c⟩:=nM.c4;rcases g4 with⟨hfr,hj256,rfl,rfl⟩|⟨hfr,hj256,rfl,hstep⟩|⟨hfr,hle,rfl,rfl⟩|⟨hfr,hlt,rfl,hstep⟩
  ·
   obtain⟨p1,p2⟩:=JX hfr;have wM:((x.i:Int)==(b.cs.length:Int))=cC:=(by simp[p1]);have hek:(b.e.k==(1:Int))=cC:=(by simp[p2]);replace p1:=Wx p1;replace p2:=Wx p2;go_wp2_with fail;refine(M9 ZA fuel ⟨by omega,by omega⟩).mono ?_;rintro e w7 ⟨rfl,N9,BJ,JH⟩;rw[show decide ((256:Int)<(_:Int)+1)=cC by simp;omega];obtain⟨m5,-⟩:=N9.ns;have vW:=N9.Bw 5;have VN:=N9.ER 3;have Bp:=(hb6.trans BJ).trans (N9.low 5 (cI cJ 3));have MB:=hms hrd;have hrun:Runs p ans fails fuel s j {s1 with status:=3}:=⟨_,hre.trans (Reach.step hst.out hrd (.refl _ _)),show(3:Int)≠0 by decide⟩;go_wp2;((try simp only[Exit.inBlock,Exit.then]);refine bodyPost_ret (results_none rfl _ _ _) rfl ?_);exact⟨rfl,_,_,_,VN,hrun,MB,Bp⟩
  ·
   obtain⟨p1,p2⟩:=JX hfr;have wM:((x.i:Int)==(b.cs.length:Int))=cC:=(by simp[p1]);have hek:(b.e.k==(1:Int))=cC:=(by simp[p2]);have hlt:decide (x.i<b.cs.length)=cA:=(by simp;omega);have hsteps:t.steps=s1.steps:=by
    obtain⟨y,b',-,-,rfl⟩:=O9 hE.good h3 hfr hstep;rfl
   unfold El at hstep;rw[if_pos p1,hrest]at hstep;replace p1:=Wx p1;replace p2:=Wx p2;go_wp2_with fail;refine(M9 ZA fuel ⟨by omega,by omega⟩).mono ?_;rintro e w7 ⟨rfl,N9,BJ,JH⟩;have hdd:decide ((256:Int)<(j1:Int)+1)=cA:=(by simp;omega);rw[hdd];have ZE:=PX.trans (BJ.mono hE.b0);have hF7:=nL.same (JH _ (by omega));have wm:=nM.same (JH _ (by omega));obtain⟨q0,q1,q2,q3,q4⟩:=hF7.c5;obtain⟨-,-,z2,z3,z4,z5,z6,z7,z8⟩:=wm.c9;have hend:=WA hE ZE N9 h2 hz hh hgb aN hstep;have MB:=hms hrd;have ZN:=hre.trans (Reach.step hst.out hrd (.refl _ _));go_wp2_with fail;refine hend.mono ?_;rintro e w8 ⟨rfl,⟨N8,VN⟩,Bp⟩;have Zi:=Jw VN fuel;have Nf:=(hb6.trans BJ).trans Bp;go_wp2;go_roundw;exact⟨t,j1+1,N8,by exact_mod_cast VN,by omega,ZN,MB,Nf⟩;rw[Zi,hMl,hsteps];omega
  ·
   by_cases p1:x.i=b.cs.length
   ·have hek:(b.e.k==(1:Int))=cA:=by
     unfold H8 at hfr;rw[decide_eq_true p1,Bool.true_and]at hfr;simpa using hfr
    have wM:((x.i:Int)==(b.cs.length:Int))=cC:=(by simp[p1]);replace p1:=Wx p1;go_wp2_with fail;refine(OX ZA fuel hle).mono ?_;rintro e w7 ⟨rfl,N9,BJ,JH⟩;obtain⟨m5,-⟩:=N9.ns;have vW:=N9.Bw 5;have VN:=N9.ER 3;have Bp:=(hb6.trans BJ).trans (N9.low 5 (cI cJ 3));have MB:=hms hrd;have hrun:Runs p ans fails fuel s j {s1 with status:=3}:=⟨_,hre.trans (Reach.step hst.out hrd (.refl _ _)),show(3:Int)≠0 by decide⟩;go_wp2;((try simp only[Exit.inBlock,Exit.then]);refine bodyPost_ret (results_none rfl _ _ _) rfl ?_);exact⟨rfl,_,_,_,VN,hrun,MB,Bp⟩
   ·have wM:((x.i:Int)==(b.cs.length:Int))=cA:=(by simp;omega);replace p1:=Wx p1;go_wp2_with fail;refine(OX ZA fuel hle).mono ?_;rintro e w7 ⟨rfl,N9,BJ,JH⟩;obtain⟨m5,-⟩:=N9.ns;have vW:=N9.Bw 5;have VN:=N9.ER 3;have Bp:=(hb6.trans BJ).trans (N9.low 5 (cI cJ 3));have MB:=hms hrd;have hrun:Runs p ans fails fuel s j {s1 with status:=3}:=⟨_,hre.trans (Reach.step hst.out hrd (.refl _ _)),show(3:Int)≠0 by decide⟩;go_wp2;((try simp only[Exit.inBlock,Exit.then]);refine bodyPost_ret (results_none rfl _ _ _) rfl ?_);exact⟨rfl,_,_,_,VN,hrun,MB,Bp⟩
  ·
   have hsteps:t.steps=s1.steps+1:=SE (s:={s1 with steps:=s1.steps+1}) hstep;have xZ:0<=s1.steps/\s1.steps<=1000000000:=(by have:=hy.ct.st;have:=hy.st;omega);have hfl:s1.steps<fuel:=hlt;have hw2:WT p {s1 with steps:=s1.steps+1}:=⟨hy.wt.heap,hy.wt.glob,hy.wt.frames,hy.wt.live⟩;have hr2:Ga {s1 with steps:=s1.steps+1}:=⟨hy.rg.fr,hy.rg.hp,hy.rg.gl⟩;have hz2:Small {s1 with steps:=s1.steps+1}:=⟨hz.fr,hz.hp,hz.gl,hz.tr,hz.Lc,hz.al,hz.gu,hz.ak⟩;unfold El at hstep;dsimp only at hstep;by_cases p1:x.i=b.cs.length
   ·have hek:(b.e.k==(1:Int))=cA:=by
     unfold H8 at hfr;rw[decide_eq_true p1,Bool.true_and]at hfr;simpa using hfr
    have wM:((x.i:Int)==(b.cs.length:Int))=cC:=(by simp[p1]);have hlt:decide (x.i<b.cs.length)=cA:=(by simp;omega);rw[if_pos p1,hrest]at hstep;replace p1:=Wx p1;go_wp2_with fail;refine(RZ ZA fuel (by omega) xZ).mono ?_;rintro e w7 ⟨rfl,N9,BJ,JH⟩;have ZE:=PX.trans (BJ.mono hE.b0);have hF7:=nL.same (JH _ (by omega));have wm:=nM.same (JH _ (by omega));obtain⟨q0,q1,q2,q3,q4⟩:=hF7.c5;obtain⟨-,-,z2,z3,z4,z5,z6,z7,z8⟩:=wm.c9;have hend:=WA hE ZE N9 h2 hz2 hh hgb aN hstep;have MB:=hms hrd;have ZN:=hre.trans (Reach.step hst.out hrd (.refl _ _));go_wp2_with fail;refine hend.mono ?_;rintro e w8 ⟨rfl,⟨N8,VN⟩,Bp⟩;have Zi:=Jw VN fuel;have Nf:=(hb6.trans BJ).trans Bp;go_wp2;go_roundw;exact⟨t,0,N8,by exact_mod_cast VN,by omega,ZN,MB,Nf⟩;rw[Zi,hMl,hsteps];omega
   ·have wM:((x.i:Int)==(b.cs.length:Int))=cA:=(by simp;omega);have hlt:decide (x.i<b.cs.length)=cC:=(by simp;omega);have yC:x.i<b.cs.length:=(by omega);rw[if_neg p1]at hstep;have hib:=hgb.cs b.cs[x.i] (by simp);have wI:=(hE.rng f (Ak h3.1).1 b (Ak h3.2.1).1).1 b.cs[x.i] (by simp);obtain⟨ai,e0,hAi⟩:=hcs x.i b.cs[x.i] (by simp[yC]);rw[List.getElem?_eq_getElem yC,hrest]at hstep;dsimp only at hstep;replace p1:=Wx p1;generalize b.cs[x.i]=ii at*;obtain⟨pi1,ci1,pi2,li2,ci2,pi3,li3,ci3,d0,d1,d2,d3,d4,d5,hrow⟩:=hAi.parts;subst e0;have hkk:(∀a∈ii.as,NZ a)/\ii.as.length<=8:=by
     obtain⟨fm,d,l,hfo,hlen,-,xW,-⟩:=Gx hib.1;have:=PD hfo;exact⟨SC xW,by omega⟩
    go_wp2_with fail;refine(RZ ZA fuel (by omega) xZ).mono ?_;rintro e w7 ⟨rfl,N9,BJ,JH⟩;have ZE:=PX.trans (BJ.mono hE.b0);have wm:=nM.same (JH _ (by omega));have z2:=wm.c 2 _ rfl;replace d0:=AA ZE d0;replace d1:=AA ZE d1;replace d2:=AA ZE d2;replace d3:=AA ZE d3;replace d4:=AA ZE d4;replace d5:=AA ZE d5;have hin:Qd w0 w7 B N1 M k {s1 with steps:=s1.steps+1} 0 rest x ii pi1 ci1:=⟨ZE,hrow,N9,h2,by omega,by omega,hkk.2,hkk.1⟩;have hend:=YK (p2:=pi2) (p3:=pi3) (l2:=li2) (c2:=ci2) (l3:=li3) (c3:=ci3) hE hin hz2 hw2 hr2 hib.1 hib.2 wI hstep;have MB:=hms hrd;have ZN:=hre.trans (Reach.step hst.out hrd (.refl _ _));go_wp2_with fail;refine hend.mono ?_;rintro e w8 ⟨rfl,⟨N8,VN⟩,Bp⟩;have Zi:=Jw VN fuel;have Nf:=(hb6.trans BJ).trans Bp;go_wp2;go_roundw;exact⟨t,0,N8,by exact_mod_cast VN,by omega,ZN,MB,Nf⟩;rw[Zi,hMl,hsteps];omega
 ·have hsb:(s1.status==(0:Int))=cA:=by simp[hst]
  go_wp2;go_end0;exact⟨rfl,s1,j1,N1,hM,⟨j1,hre,hst⟩,hy,hb⟩
end
section
open Num Dp
structure ED{α:Type}(enc:α->Dt)(w:World)(B:Nat)(e:TypeId)(s:Nat)(l:List α)(xs:List Value)(v:Value)(q:Nat)(f1:List Nat):Prop where
 own:∃ys,w.ownsRow B e s v l.length ys/\∀j,q*s<=j->ys[j]? =xs[j]?
 done:∀F c,v=cY (cP ⟨F,0,cX⟩) l.length c->AP w B ((l.take q).map enc) F 0 f1/\(F::f1).Nodup
 nil:v.ownBlock=cX->f1=[]
section
variable {α : Type} {enc : α -> Dt} {w w2 : World} {B : Nat} {e : TypeId} {s : Nat} {l : List α} {xs : List Value} {v : Value} {q : Nat} {f1 f2 : List Nat}
theorem ED.start(h:w.ownsRow B e s v l.length xs):ED enc w B e s l xs v 0 []:=
 ⟨⟨xs,h,λ_ _=>rfl⟩,λF c _=>⟨by simp;unfold AP;rfl,by simp⟩,λ_=>rfl⟩
theorem ED.slice(h:ED enc w B e s l xs v q f1)(hq:q<l.length):∃F c,v=cY (cP ⟨F,0,cX⟩) l.length c/\B<=F/\F<w.heap.size/\(∀o,w.frozen? ⟨F,o,cX⟩=cA)/\∀k,k<s->w.cell? ⟨F,q*s+k,cX⟩=xs[q*s+k]? :=by
 obtain⟨ys,ho,hy⟩:=h.own;rcases id ho.2 with⟨-,h0⟩|⟨g,cap,cur,rfl,hb,hg,hn,-⟩
 ·omega
 ·refine⟨g,cap,rfl,hb,(ho.lt g rfl).2,λo=>ho.frozenAt o,λk hk=>?_⟩;rw[ho.cellAt _ (OG hq hk)];exact hy _ (by omega)
theorem ED.step{F c k:Nat}(h:ED enc w B e s l xs (cY (cP ⟨F,0,cX⟩) l.length c) q f1)(hq:q<l.length)(hs:∀x,(enc x).wd=s)(hk:k<s)(hb:AA6 w w2){u:Value}(hl:Af (w2.setCell ⟨F,q*s+k,cX⟩ u) B (enc l[q]) F (q*s) f2) (hf2:∀b∈f2,w.heap.size<=b) (hn2:f2.Nodup):ED enc (w2.setCell ⟨F,q*s+k,cX⟩ u) B e s l xs (cY (cP ⟨F,0,cX⟩) l.length c) (q+1) (f1++f2):=by
 obtain⟨ys,ho,hy⟩:=h.own;obtain⟨hd,hnd⟩:=h.done F c rfl;have hF:=(ho.lt F rfl).2;have ho2:=(World.ownsRow.stored (Dh ho hb (AQ)) (q*s+k) u).1;rw[BN]at hnd;have hlt:∀b∈f1,b<w.heap.size:=λb hb'=>(hd.fp b hb').2;have hwd:Dt.DF ((l.take q).map enc)=q*s:=by
  rw[HZ (s:=s) (λd hd=>by obtain⟨x,-,rfl⟩:=List.mem_map.1 hd;exact hs x)];rw[List.length_map,List.length_take,Nat.min_eq_left (by omega)]
 refine⟨⟨_,ho2,λj hj=>?_⟩,λF' c' e'=>?_,λe'=>by simp[Value.ownBlock]at e'⟩
 ·rw[List.getElem?_set_ne (by rw[Nat.add_mul]at hj;omega)];exact hy j (by rw[Nat.add_mul]at hj;omega)
 ·obtain⟨rfl,-⟩:F'=F/\True:=by simpa using(show F=F'/\_ by simpa using e').1.symm
  refine⟨?_,BN.2 ⟨?_,GL.2 ⟨hnd.2,hn2,λb h1 h2=>?_⟩⟩⟩
  ·rw[List.take_succ_eq_append_getElem hq,List.map_append,List.map_singleton];refine AP.app.2 ⟨f1,f2,rfl,hd.move (λj hj=>?_) (λb hb'=>?_),?_⟩
   ·rw[hwd]at hj;rw[World.cell?_setCell_other _ _ _ _ (Ik (by omega))];exact BM (hb.block _ hF) _
   ·exact(Below.heap_setCell _ _ _ _ (λe=>hnd.1 (by rw[show F'=b from e.symm];exact hb'))).trans (hb.block b (hlt b hb'))
   ·rw[hwd,Nat.zero_add];unfold AP;exact⟨f2,[],by simp,hl,by unfold AP;rfl⟩
  ·rw[List.mem_append,not_or];exact⟨hnd.1,λh3=>by have:=hf2 _ h3;omega⟩
  ·have:=hf2 b h2;have:=hlt b h1;omega
def ED.fin(h:ED enc w B e s l xs v l.length f1)(hs:∀x,(enc x).wd=s):∃fp,AZ w B e s (l.map enc) v fp/\fp.Nodup:=by
 obtain⟨ys,ho,-⟩:=h.own;rcases ho.2 with⟨rfl,h0⟩|⟨g,cap,cur,rfl,hb,hg,hn,hc,hz,-⟩
 ·have:l=[]:=List.eq_nil_of_length_eq_zero h0;subst this;exact⟨[],.nil,by simp⟩
 ·obtain⟨hd,hnd⟩:=h.done g cap rfl;rw[List.take_length]at hd;exact⟨g::f1,.inr ⟨g,cap,cur,f1,by simp,hb,hg,by simpa using hn,hc,hz,rfl,λd hd=>by obtain⟨x,-,rfl⟩:=List.mem_map.1 hd;exact hs x,hd⟩,hnd⟩
theorem ED.nx(h:ED enc w B e s l xs v q f1)(hk:∀b,b<w.heap.size->B<=b->w2.heap[b]? =w.heap[b]?)(hz:w.heap.size<=w2.heap.size):ED enc w2 B e s l xs v q f1:=by
 obtain⟨⟨ys,ho,hy⟩,hd,hn⟩:=h;refine⟨⟨ys,?_,hy⟩,λF c e=>?_,hn⟩
 ·rcases id ho with⟨h1,h2⟩;refine⟨h1,?_⟩;rcases h2 with h2|⟨g,cap,cur,e,hb,hg,h3⟩
  ·exact .inl h2
  ·exact .inr ⟨g,cap,cur,e,hb,(hk g (Array.getElem?_eq_some_iff.1 hg).1 hb).trans hg,h3⟩
 ·obtain⟨h1,h2⟩:=hd F c e;have hF:=ho.lt F (by rw[e];rfl);exact⟨h1.move (λj _=>BM (hk F hF.2 hF.1) _) (λb hb=>hk b (h1.fp b hb).2 (h1.fp b hb).1),h2⟩
end
theorem AZ.RB{l:List Dt}{fp:List Nat}(h:AZ w B e s l v fp):∃xs,w.ownsRow B e s v l.length xs/\(∀u∈xs,u.oneCell'=cC)/\∀F c,v=cY (cP ⟨F,0,cX⟩) l.length c->∃f1,AP w B l F 0 f1:=by
 obtain⟨xs,hx⟩:=h.owns;refine⟨xs,hx,λu hu=>?_,λF c e=>?_⟩
 ·obtain⟨j,hj⟩:=List.mem_iff_getElem?.1 hu;have hjl:=(List.getElem?_eq_some_iff.1 hj).1;rcases h with⟨rfl,rfl,-⟩|⟨g',cap,cur,f',rfl,h2,h3,h4,h5,h6,h7,h8,h9⟩
  ·have:=hx.1;simp at this;subst this;simp at hu
  ·rw[hx.1]at hjl;obtain⟨v,hc,h1⟩:=h9.cells j (by rw[HZ h8];exact hjl);rw[Nat.zero_add,Ep hx hjl,hj]at hc;obtain rfl:u=v:=(by simpa using hc);exact h1
 ·rcases h with⟨rfl,rfl,-⟩|⟨g',cap,cur,f',rfl,h2,h3,h4,h5,h6,h7,h8,h9⟩
  ·simp at e
  ·obtain⟨rfl,-⟩:g'=F/\True:=(by simpa using(show g'=F/\_ by simpa using e).1);exact⟨f',h9⟩
theorem AZ.flat{α:Type}{enc:α->Dt}{w2:World}{B2:Nat}{l:List α}{v2:Value}{fp:List Nat}(h:AZ w B e s (l.map enc) v fp)(hx:w.ownsRow B e s v l.length xs)(ho:w2.ownsRow B2 e s v2 l.length xs)(hs:∀x,(enc x).wd=s)(hf:∀x g o f g2 o2,Af w B (enc x) g o f->(∀j,j<s->w2.cell? ⟨g2,o2+j,cX⟩=w.cell? ⟨g,o+j,cX⟩)->Af w2 B2 (enc x) g2 o2 []):∃fp,AZ w2 B2 e s (l.map enc) v2 fp/\fp.Nodup:=by
 rcases id ho.2 with⟨rfl,h0⟩|⟨g,cap,cur,rfl,hb,hg,hn,hc,hz,-⟩
 ·have:l=[]:=List.eq_nil_of_length_eq_zero h0;subst this;exact⟨[],.nil,by simp⟩
 ·have key:AP w2 B2 (l.map enc) g 0 []:=by
   rcases h with⟨-,h0,-⟩|⟨g',cap',cur',f',rfl,h2,h3,h4,h5,h6,h7,h8,h9⟩
   ·have:l=[]:=(by simpa using h0);subst this;unfold AP;rfl
   ·have each:∀(m:Nat),m<=l.length->AP w2 B2 ((l.take m).map enc) g 0 []:=by
     intro m
     induction m with
     |zero=>intro _;unfold AP;rfl
     |succ m ih=>
      intro hm;have hm':m<l.length:=(by omega);rw[List.take_succ_eq_append_getElem hm',List.map_append,List.map_singleton];refine AP.app.2 ⟨[],[],rfl,ih (by omega),?_⟩;unfold AP;refine⟨[],[],rfl,?_,by unfold AP;rfl⟩;have hwd:Dt.DF ((l.take m).map enc)=m*s:=by
       rw[HZ (s:=s) (λd hd=>by obtain⟨x,-,rfl⟩:=List.mem_map.1 hd;exact hs x)];rw[List.length_map,List.length_take,Nat.min_eq_left (by omega)]
      rw[hwd,Nat.zero_add];obtain⟨f,hf1⟩:=h9.nth hs m l[m] (by simp[hm']);refine hf _ _ _ _ _ _ hf1 λj hj=>?_;rw[Nat.zero_add,ho.cellAt _ (OG hm' hj),<-Ep (by simpa using hx) (OG hm' hj)]
    have:=each l.length (AQ);rwa[List.take_length]at this
  exact⟨[g],.inr ⟨g,cap,cur,[],by simp,hb,hg,by simpa using hn,hc,hz,rfl,λd hd=>by obtain⟨x,-,rfl⟩:=List.mem_map.1 hd;exact hs x,key⟩,by simp⟩
theorem AAp(h:w.ownsRow B 84 4 v n xs)(h1:∀u∈xs,u.oneCell'=cC)(hn:n<=1000000):Calls prog 44 #[v] w λe w'=>∃v',e=.returned v'/\w'.ownsRow w.heap.size 84 4 v' n xs/\AA6 w w':=by
 obtain⟨i0,hi,hz0,hz1,hz2⟩:=Cq aL;have hlen:=h.1;rcases h.2 with⟨rfl,rfl⟩|⟨g,cap,cur,rfl,-⟩
 ·have hnil:=λ(w:World) (l c:Nat)=>Lib.run_eql_slice_nil (P:=prog) w 35 84 cX l c 0 0 underlying35;have hx:xs=[]:=List.eq_nil_of_length_eq_zero (by simpa using hlen);subst hx;clear h;go_enter func44,ntmps44;go_wp2;go_ret;exact⟨_,rfl,World.ownsRow_nil _ _ _ _,AL⟩
 ·have hnews':∀j u,xs[j]? =cP u->(w.alloc (Obj.cells #[] 84)).cell? ((⟨g,0,cX⟩:Addr).add j)=cP u:=λj u hu=>by
   have hc:=h.cells rfl j u hu;rw[World.cell?_alloc_lt _ _ _ (World.block_lt_of_cell? w _ hc)];exact hc
  have hnil:=λ(w:World) (l c:Nat)=>Lib.run_eql_slice_nil (P:=prog) w 35 84 (cP ⟨g,0,cX⟩) l c 0 0 underlying35;go_enter func44,ntmps44;go_wp2_with(at_builtin;refine wpList_append_own _ rfl _ _ 35 rfl w.heap.size 84 i0 _ 4 48 underlying35 hi hz0 hz1 hz2 rfl (by decide) _ _ _ rfl (World.ownsRow_made w #[] 0 (AQ) (by decide) rfl) ⟨g,0,cX⟩ n cap xs rfl ?c1 hnews' ?c3 ?c4 ?c5 ?c6 ?_)
  case c1=>exact hlen
  case c3=>exact h1
  case c4=>unfold maxLen;omega
  case c5=>omega
  case c6=>simp
  intro v' w2 hown hg _;have hB:AA6 w w2:=(AJ w _).grown hg (by simp) (λk e=>Nat.le_of_eq (by simpa[Value.ownBlock]using e));obtain⟨pu,cu,rfl⟩:=Bf hown;replace hown:w2.ownsRow w.heap.size 84 4 (cY pu n cu) n xs:=by simpa using hown
  go_wp2;go_ret;exact⟨_,rfl,hown,hB⟩
theorem AAo(h:w.ownsRow B 119 2 v n xs)(h1:∀u∈xs,u.oneCell'=cC)(hn:n<=1000000):Calls prog 46 #[v] w λe w'=>∃v',e=.returned v'/\w'.ownsRow w.heap.size 119 2 v' n xs/\AA6 w w':=by
 obtain⟨i0,hi,hz0,hz1,hz2⟩:=Cq aK;have hlen:=h.1;rcases h.2 with⟨rfl,rfl⟩|⟨g,cap,cur,rfl,-⟩
 ·have hnil:=λ(w:World) (l c:Nat)=>Lib.run_eql_slice_nil (P:=prog) w 36 119 cX l c 0 0 underlying36;have hx:xs=[]:=List.eq_nil_of_length_eq_zero (by simpa using hlen);subst hx;clear h;go_enter func46,ntmps46;go_wp2;go_ret;exact⟨_,rfl,World.ownsRow_nil _ _ _ _,AL⟩
 ·have hnews':∀j u,xs[j]? =cP u->(w.alloc (Obj.cells #[] 119)).cell? ((⟨g,0,cX⟩:Addr).add j)=cP u:=λj u hu=>by
   have hc:=h.cells rfl j u hu;rw[World.cell?_alloc_lt _ _ _ (World.block_lt_of_cell? w _ hc)];exact hc
  have hnil:=λ(w:World) (l c:Nat)=>Lib.run_eql_slice_nil (P:=prog) w 36 119 (cP ⟨g,0,cX⟩) l c 0 0 underlying36;go_enter func46,ntmps46;go_wp2_with(at_builtin;refine wpList_append_own _ rfl _ _ 36 rfl w.heap.size 119 i0 _ 2 40 underlying36 hi hz0 hz1 hz2 rfl (by decide) _ _ _ rfl (World.ownsRow_made w #[] 0 (AQ) (by decide) rfl) ⟨g,0,cX⟩ n cap xs rfl ?c1 hnews' ?c3 ?c4 ?c5 ?c6 ?_)
  case c1=>exact hlen
  case c3=>exact h1
  case c4=>unfold maxLen;omega
  case c5=>omega
  case c6=>simp
  intro v' w2 hown hg _;have hB:AA6 w w2:=(AJ w _).grown hg (by simp) (λk e=>Nat.le_of_eq (by simpa[Value.ownBlock]using e));obtain⟨pu,cu,rfl⟩:=Bf hown;replace hown:w2.ownsRow w.heap.size 119 2 (cY pu n cu) n xs:=by simpa using hown
  go_wp2;go_ret;exact⟨_,rfl,hown,hB⟩
theorem copyV(h:w.ownsRow B 34 2 v n xs)(h1:∀u∈xs,u.oneCell'=cC)(hn:n<=1000000):Calls prog 47 #[v] w λe w'=>∃v',e=.returned v'/\w'.ownsRow w.heap.size 34 2 v' n xs/\AA6 w w':=by
 obtain⟨i0,hi,hz0,hz1,hz2⟩:=Cq VW;have hlen:=h.1;rcases h.2 with⟨rfl,rfl⟩|⟨g,cap,cur,rfl,-⟩
 ·have hnil:=λ(w:World) (l c:Nat)=>Lib.run_eql_slice_nil (P:=prog) w 37 34 cX l c 0 0 underlying37;have hx:xs=[]:=List.eq_nil_of_length_eq_zero (by simpa using hlen);subst hx;clear h;go_enter func47,ntmps47;go_wp2;go_ret;exact⟨_,rfl,World.ownsRow_nil _ _ _ _,AL⟩
 ·have hnews':∀j u,xs[j]? =cP u->(w.alloc (Obj.cells #[] 34)).cell? ((⟨g,0,cX⟩:Addr).add j)=cP u:=λj u hu=>by
   have hc:=h.cells rfl j u hu;rw[World.cell?_alloc_lt _ _ _ (World.block_lt_of_cell? w _ hc)];exact hc
  have hnil:=λ(w:World) (l c:Nat)=>Lib.run_eql_slice_nil (P:=prog) w 37 34 (cP ⟨g,0,cX⟩) l c 0 0 underlying37;go_enter func47,ntmps47;go_wp2_with(at_builtin;refine wpList_append_own _ rfl _ _ 37 rfl w.heap.size 34 i0 _ 2 24 underlying37 hi hz0 hz1 hz2 rfl (by decide) _ _ _ rfl (World.ownsRow_made w #[] 0 (AQ) (by decide) rfl) ⟨g,0,cX⟩ n cap xs rfl ?c1 hnews' ?c3 ?c4 ?c5 ?c6 ?_)
  case c1=>exact hlen
  case c3=>exact h1
  case c4=>unfold maxLen;omega
  case c5=>omega
  case c6=>simp
  intro v' w2 hown hg _;have hB:AA6 w w2:=(AJ w _).grown hg (by simp) (λk e=>Nat.le_of_eq (by simpa[Value.ownBlock]using e));obtain⟨pu,cu,rfl⟩:=Bf hown;replace hown:w2.ownsRow w.heap.size 34 2 (cY pu n cu) n xs:=by simpa using hown
  go_wp2;go_ret;exact⟨_,rfl,hown,hB⟩
theorem AAq(h:w.ownsRow B 59 4 v n xs)(h1:∀u∈xs,u.oneCell'=cC)(hn:n<=1000000):Calls prog 48 #[v] w λe w'=>∃v',e=.returned v'/\w'.ownsRow w.heap.size 59 4 v' n xs/\AA6 w w':=by
 obtain⟨i0,hi,hz0,hz1,hz2⟩:=Cq aM;have hlen:=h.1;rcases h.2 with⟨rfl,rfl⟩|⟨g,cap,cur,rfl,-⟩
 ·have hnil:=λ(w:World) (l c:Nat)=>Lib.run_eql_slice_nil (P:=prog) w 38 59 cX l c 0 0 underlying38;have hx:xs=[]:=List.eq_nil_of_length_eq_zero (by simpa using hlen);subst hx;clear h;go_enter func48,ntmps48;go_wp2;go_ret;exact⟨_,rfl,World.ownsRow_nil _ _ _ _,AL⟩
 ·have hnews':∀j u,xs[j]? =cP u->(w.alloc (Obj.cells #[] 59)).cell? ((⟨g,0,cX⟩:Addr).add j)=cP u:=λj u hu=>by
   have hc:=h.cells rfl j u hu;rw[World.cell?_alloc_lt _ _ _ (World.block_lt_of_cell? w _ hc)];exact hc
  have hnil:=λ(w:World) (l c:Nat)=>Lib.run_eql_slice_nil (P:=prog) w 38 59 (cP ⟨g,0,cX⟩) l c 0 0 underlying38;go_enter func48,ntmps48;go_wp2_with(at_builtin;refine wpList_append_own _ rfl _ _ 38 rfl w.heap.size 59 i0 _ 4 56 underlying38 hi hz0 hz1 hz2 rfl (by decide) _ _ _ rfl (World.ownsRow_made w #[] 0 (AQ) (by decide) rfl) ⟨g,0,cX⟩ n cap xs rfl ?c1 hnews' ?c3 ?c4 ?c5 ?c6 ?_)
  case c1=>exact hlen
  case c3=>exact h1
  case c4=>unfold maxLen;omega
  case c5=>omega
  case c6=>simp
  intro v' w2 hown hg _;have hB:AA6 w w2:=(AJ w _).grown hg (by simp) (λk e=>Nat.le_of_eq (by simpa[Value.ownBlock]using e));obtain⟨pu,cu,rfl⟩:=Bf hown;replace hown:w2.ownsRow w.heap.size 59 4 (cY pu n cu) n xs:=by simpa using hown
  go_wp2;go_ret;exact⟨_,rfl,hown,hB⟩
theorem AAn(h:w.ownsRow B 2 1 v n xs)(h1:∀u∈xs,u.oneCell'=cC)(hn:n<=1000000):Calls prog 49 #[v] w λe w'=>∃v',e=.returned v'/\w'.ownsRow w.heap.size 2 1 v' n xs/\AA6 w w':=by
 obtain⟨i0,hi,hz0,hz1,hz2⟩:=Cq Zx;have hlen:=h.1;rcases h.2 with⟨rfl,rfl⟩|⟨g,cap,cur,rfl,-⟩
 ·have hnil:=λ(w:World) (l c:Nat)=>Lib.run_eql_slice_nil (P:=prog) w 28 2 cX l c 0 0 underlying28;have hx:xs=[]:=List.eq_nil_of_length_eq_zero (by simpa using hlen);subst hx;clear h;go_enter func49,ntmps49;go_wp2;go_ret;exact⟨_,rfl,World.ownsRow_nil _ _ _ _,AL⟩
 ·have hnews':∀j u,xs[j]? =cP u->(w.alloc (Obj.cells #[] 2)).cell? ((⟨g,0,cX⟩:Addr).add j)=cP u:=λj u hu=>by
   have hc:=h.cells rfl j u hu;rw[World.cell?_alloc_lt _ _ _ (World.block_lt_of_cell? w _ hc)];exact hc
  have hnil:=λ(w:World) (l c:Nat)=>Lib.run_eql_slice_nil (P:=prog) w 28 2 (cP ⟨g,0,cX⟩) l c 0 0 underlying28;go_enter func49,ntmps49;go_wp2_with(at_builtin;refine wpList_append_own _ rfl _ _ 28 rfl w.heap.size 2 i0 _ 1 8 underlying28 hi hz0 hz1 hz2 rfl (by decide) _ _ _ rfl (World.ownsRow_made w #[] 0 (AQ) (by decide) rfl) ⟨g,0,cX⟩ n cap xs rfl ?c1 hnews' ?c3 ?c4 ?c5 ?c6 ?_)
  case c1=>exact hlen
  case c3=>exact h1
  case c4=>unfold maxLen;omega
  case c5=>omega
  case c6=>simp
  intro v' w2 hown hg _;have hB:AA6 w w2:=(AJ w _).grown hg (by simp) (λk e=>Nat.le_of_eq (by simpa[Value.ownBlock]using e));obtain⟨pu,cu,rfl⟩:=Bf hown;replace hown:w2.ownsRow w.heap.size 2 1 (cY pu n cu) n xs:=by simpa using hown
  go_wp2;go_ret;exact⟨_,rfl,hown,hB⟩
end
section
open Num Dp
def YB{b:Nat}{m:Vm}(hm:CQ w b m):Calls prog 45 #[.map (cP b)] w λe w'=>∃nb,e=.returned (.map (cP nb))/\w.heap.size<=nb/\CQ w' nb m/\AA6 w w':=by
 obtain⟨es,clock,hb,hrest⟩:=id hm;have t1:=underlying69;have hq:=λw=>run_eql_map_nil_sl (P:=prog) w 69 _ _ (cP b) t1;go_enter func45,ntmps45;go_wp2
 trace_state
 rw[run_callFunc_extern func72 (by kernel_rfl) (by kernel_rfl) (by kernel_rfl) (e:=Extern.MapsClone.clone) (by kernel_rfl),run_maps_clone_sl w 69 hb];simp only[Result.andThen];rw[Oper.upon_value];go_wp2;rw[run_typeAssert_map_sl _ 69 _ _ _ _ t1];simp only[Result.andThen];rw[Oper.upon_value];go_wp2;go_ret;exact⟨_,rfl,AQ,CQ.copy hb hm,AJ _ _⟩
end
end Go.Proofs.YtlffomedflegdaaGreatDoor
