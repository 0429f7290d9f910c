/- Part 49 of 49 of the proof: Tt, Tu, Card, LawMachineCounts. -/
import Derived.Test.YtlffomedflegdaaGreatDoorRows
import Derived.Shelf.Vars
import Derived.Lay
import Derived.LaidOnce
import Derived.Handed
import Derived.HandedShaped
import Derived.SevenTiedAt
import Derived.Test.YtlffomedflegdaaGreatDoorTie
import Derived.Test.YtlffomedflegdaaGreatDoorCards
import Derived.Test.YtlffomedflegdaaGreatDoorPz00
import Derived.Test.YtlffomedflegdaaGreatDoorPz04
import Derived.Test.YtlffomedflegdaaGreatDoorPz22
import Derived.Test.YtlffomedflegdaaGreatDoorPz48
set_option linter.all false
set_option maxHeartbeats 16000000
set_option maxRecDepth 100000
namespace Go.Proofs.YtlffomedflegdaaGreatDoor
open Go.Proofs.Tryz
open Go.RowKit
variable {B:Nat}{fuel:Int}{p:Pg}{w:World}
structure AEo(w0:World)(p:Pg)(u1 u2 u3 u4:Value)(qf:Nat)(l1:List Int)(fuel:Int)(l2 l3:List Int)(g1 g2 g3:Value):Prop where
 wd:Words w0
 m:∃m,w0.cell? ⟨1,0,none⟩=some (.int .i64 m)
 pv:Cj w0 (.agg #[.bool p.ssa,u1,u2,u3,u4]) p u1 u2 u3 u4
 r:Ky p
 q:oM w0 (.agg #[.int .u8 (qf:Int),g1,.int .i64 fuel,g2,g3]) qf l1 fuel l2 l3 g1 g2 g3
theorem M7{x:ByteArray}{l:List Int}{s:St}(h:GK p x l=some s):s.status=0/\s.steps=0/\s.guards=0/\s.globals.length=p.gs.length:=by
 unfold GK at h;split at h
 ·cases h
 ·split at h
  ·cases h
  ·injection h with h;subst h;exact⟨rfl,rfl,rfl,by simp⟩
theorem vZ{g o:Nat}{F:List Nat}{x:Int}(h:Af w B (dN x) g o F):Nj w ⟨g,o,none⟩ x:=by
 unfold dN Af at h;exact h.1
def zG(w:World)(a:Addr)(x:Ev):Prop:=w.cell? a=some (.string x.n)
theorem vEn{g o:Nat}{F:List Nat}{x:Ev}(h:Af w B (Qc x) g o F):zG w ⟨g,o,none⟩ x:=by
 obtain⟨_,_,h1,h2⟩:=h.l.hd;exact h1.c
def Pt(l:List Ev):Int:=((l.filter (fun e=>decide (e.n≠Bv))).length:Int)
theorem Ym{l:List Ev}{k:Nat}(h:k<l.length):Pt (l.take (k+1))=Pt (l.take k)+if l[k].n=Bv then 0 else 1:=by
 unfold Pt;rw[List.take_succ_eq_append_getElem h,List.filter_append,List.length_append];by_cases c:l[k].n=Bv
 ·simp[c]
 ·simp[c]
theorem mQ(l:List Ev)(k:Nat):0<=Pt (l.take k)/\Pt (l.take k)<=k:=by
 unfold Pt;have h1:=List.length_filter_le (fun e:Ev=>decide (e.n≠Bv)) (l.take k);have h2:=List.length_take_le k l;omega
structure rM(p:Pg)(fuel:Int)(t:St):Prop where
 c:ZH t
 st:t.steps<=max fuel 0
 g:t.globals.length=p.gs.length
theorem Bt.rows{t:St}{fr hp gl tr mk:Value}(hO:Bt w B t fr hp gl tr mk)(hq:rM p fuel t)(hfu:fuel<=100000):Row Nj 1 w mk t.marks/\Row zG 4 w tr t.trace:=by
 have h1:=hq.c.o8;have h2:=hq.c.tr;have h3:=hq.st;obtain⟨_,y5⟩:=hO.in.mk';obtain⟨_,y4⟩:=hO.in.tr;exact⟨y5.view (ok:=fun _=>True) (fun _=>rfl) (fun _ _ _ _ _ h=>vZ h) (by omega) (fun _ _=>trivial),y4.view (ok:=fun _=>True) (fun _=>rfl) (fun _ _ _ _ _ h=>vEn h) (by omega) (fun _ _=>trivial)⟩
theorem zY{q:Q6}(hf:Qz p q){x:ByteArray}{l:List Int}(hl:∀n∈l,Bo n){s t:St}(hs:GK p x l=some s){ans fails:List Int}(hr:Runs p ans fails fuel s 0 t)(hfu:fuel<=100000):rM p fuel t:=by
 have hg:=J4 hf;have hw:=(KT hg (P7 hf) hl hs hfu).1;obtain⟨k,h1,h2⟩:=hr;obtain⟨a,-,-,b,c⟩:=h1.cnt hg (aQ hf) hw.wt hw.ct;obtain⟨-,z1,-,z3⟩:=M7 hs;refine⟨a,?_,c.trans z3⟩;rw[z1]at b;omega
theorem VA{u1 u2 u3 u4:Value}{qf:Nat}{l1 l2 l3:List Int}{g1 g2 g3:Value}(h:AEo w p u1 u2 u3 u4 qf l1 fuel l2 l3 g1 g2 g3):Calls prog 6 #[.agg #[.bool p.ssa,u1,u2,u3,u4],.agg #[.int .u8 (qf:Int),g1,.int .i64 fuel,g2,g3]] w fun e w'=>oQ e/\AA6 w w':=by
 obtain⟨hwd,⟨m,hm⟩,hp,hr,hq⟩:=h;obtain⟨c1,k1,rfl⟩:=hp.c.slice;obtain⟨c2,k2,rfl⟩:=hp.g.slice;obtain⟨c3,k3,rfl⟩:=hp.xt.slice;obtain⟨c4,k4,rfl⟩:=hp.f.slice;obtain⟨q1,d1,rfl⟩:=hq.r1.slice;obtain⟨q2,d2,rfl⟩:=hq.r2.slice;obtain⟨q3,d3,rfl⟩:=hq.r3.slice;have hAw:=fun(W:World) (hb:AA6 w W)=>Sq m (AA hb hm);have hFe:=fun(W:World) (hb:AA6 w W)=>lU hb hwd hp hr ⟨(qf:Int),l1.length,fuel,l2.length,l3.length⟩ q1 q2 q3 d1 d2 d3;obtain⟨hP,hA,hb1⟩:=Ch (w:=w) (c1:=[.bool p.ssa,.slice c1 p.cs.length k1,.slice c2 p.gs.length k2,.slice c3 p.xs.length k3,.slice c4 p.fs.length k4]) (c2:=[.int .u8 (qf:Int),.slice q1 l1.length d1,.int .i64 fuel,.slice q2 l2.length d2,.slice q3 l3.length d3]) (t1:=27) (t2:=30) (AL);replace hq:=hidden hq;replace hp:=hidden hp;replace hr:=hidden hr;replace hwd:=hidden hwd;generalize ZL:p.ssa=ssa at*;replace ZL:=hidden ZL;have a0:=hP.c 0 _ rfl;go_enter func6,ntmps6;go_wp2_with fail;generalize Cr:World.alloc (World.alloc _ _) _=W at*;refine(hAw _ hb1).mono ?_;rintro e w1 ⟨rfl,hb2⟩;have hP1:=hP.nx hb2;have hA1:=hA.nx hb2;have hb3:=AB hb1 hb2;obtain⟨a0,a1,a2,a3,a4⟩:=hP1.c5;obtain⟨b0,b1,b2,b3,b4⟩:=hA1.c5;go_wp2_with fail;refine(hFe _ hb3).mono ?_;rintro e w2 ⟨⟨r,rfl,Fu⟩,hb4⟩;replace hP:=hP1.nx hb4;replace hA:=hA1.nx hb4;replace hb1:=AB hb3 hb4;cases r
 ·clear Fu;go_wp2_with fail;refine(hAw _ hb1).mono ?_;rintro e w3 ⟨rfl,hb2⟩;go_wp2_with fail;go_ret;exact⟨rfl,AB hb1 hb2⟩
 replace Fu:=Fu rfl;have hn0:0<p.fs.length:=Fu.p;have hNm:=fun(W:World) (hb:AA6 w W)=>YA hb hp.out hn0 qf hq.out.f (v1:=.slice q1 l1.length d1) (v2:=.int .i64 fuel) (v3:=.slice q2 l2.length d2) (v4:=.slice q3 l3.length d3) rfl rfl rfl rfl;generalize hnm:(p.fs[qf%p.fs.length]'(Nat.mod_lt _ hn0)).n=nm at*;obtain⟨s,hs0,hSt⟩:∃s,Hid (GK p nm l1=some s)/\∀(W:World),AA6 w W->Calls prog 10 #[.agg #[.bool ssa,.slice c1 p.cs.length k1,.slice c2 p.gs.length k2,.slice c3 p.xs.length k3,.slice c4 p.fs.length k4],.string nm,.slice q1 l1.length d1] W fun e w'=>∃fr hp gl tr mk,e=.returned (.tuple #[Ko s fr hp gl tr mk,.int .i64 0])/\Bt w' W.heap.size s fr hp gl tr mk/\AA6 W w':=by
  have hg:=J4 Fu;obtain⟨k,hk⟩:=Ms (nm:=Fn.n) (List.getElem_mem (Nat.mod_lt qf hn0));rw[hnm]at hk;obtain⟨f,hf⟩:=M4 hk;have hfm:=(Ak hf).1;have hbs:=(hg.fs f hfm).bs;obtain⟨j,hj,ej⟩:=List.mem_iff_getElem.1 hfm;have hz:=(Fu.s.z j f (by rw[List.getElem?_eq_getElem hj,ej])).2.1
  cases hbq:f.bs with
  |nil=>exact absurd hbq hbs
  |cons b0 br=>
   refine⟨mY nm b0.n (ET f.ps l1 []) (p.gs.map fun g=>Ap g.t),hidden ?_,fun W hb=>?_⟩
   ·unfold GK;rw[hf];dsimp only;rw[hbq];rfl
   ·have hp':=hp.out;rw[<-ZL.out]at hp';have:=OW hb hp' nm hf hbq hq.out.r1 (P7 Fu) (by omega);rw[ZL.out]at this;exact this
 replace hnm:=hidden hnm;replace Fu:=hidden Fu;go_wp2_with fail;refine AV (S:=Fv w2 s) rfl (by kernel_rfl) (Fv.start Ac) ?_;iterate 2((apply AU.z rfl;intro V L w1 _ _ _ z hK;(have hPn:=hP.nx z.s.b;obtain⟨a0,a1,a2,a3,a4⟩:=hPn.c5);go_simp;exact hK (z.s.keep rfl rfl rfl rfl rfl rfl);intros;rfl))
 (apply AU.z rfl;intro V L w1 _ _ _ z hK;(have hAn:=hA.nx z.s.b;obtain⟨b0,b1,b2,b3,b4⟩:=hAn.c5);go_simp;exact hK (z.s.keep rfl rfl rfl rfl rfl rfl);intros;rfl);(apply AU.y rfl;intro V L w1 _ _ z hK;go_simp;go_wp2_with((refine(hNm _ (AB hb1 z.s.b)).mono ?_;rintro e w2 ⟨rfl,hb⟩));(try simp only[pE]);exact hK.out _ ((z.s.kp hb).keep rfl rfl rfl rfl rfl rfl);intros;rfl);(apply AU.z rfl;intro V L w1 _ _ _ z hK;go_simp;exact hK (z.s.keep rfl rfl rfl rfl rfl rfl);intros;rfl);(apply AU.z rfl;intro V L w1 _ _ _ z hK;(have hAn:=hA.nx z.s.b;have b1:=hAn.c 1 _ rfl);go_simp;exact hK (z.s.keep rfl rfl rfl rfl rfl rfl);intros;rfl);refine AU.free (fun _=>rfl) (fun V L w1 K' Q' hS hi hR hd hK=>?_) ?_
 ·go_simp;go_wp2_with(refine(hSt _ (AB hb1 hS.b)).mono ?_;rintro e w3 ⟨fr',hp',TV,TI,mk',rfl,ho,hb⟩)
  exact hK.out _ _ rfl (hS.called hb ho)
 simp only[Act.put];refine AU.free (fun _=>rfl) (fun V L w1 K' Q' hS hi hR hd hK=>?_) ?_
 ·obtain⟨fr,h',gl,tr,mk,hV,hT⟩:=hS.v6 (hd.out 6 (by kernel_rfl));simp only[hV];go_simp;exact hK.out _ _ (by simp only[hV];rfl) (hS.set _ (by rfl) (by rfl) (fun e=>absurd e (by decide)) (fun _=>⟨_,_,_,_,_,rfl,hT⟩) (fun e=>absurd e (by decide)) (fun e=>absurd e (by decide)))
 simp only[Act.put];refine AU.free (fun _=>rfl) (fun V L w1 K' Q' hS hi hR hd hK=>?_) ?_
 ·obtain⟨fr,h',gl,tr,mk,hV,hT⟩:=hS.v7 (hd.out 7 (by kernel_rfl));simp only[hV];go_simp;exact hK.out _ _ (by simp only[hV];rfl) (hS.set _ (by rfl) (by rfl) (fun e=>absurd e (by decide)) (fun e=>absurd e (by decide)) (fun _=>⟨_,_,_,_,_,rfl,hT⟩) (fun e=>absurd e (by decide)))
 simp only[Act.put];refine AU.free (fun _=>rfl) (fun V L w1 K' Q' hS hi hR hd hK=>?_) ?_
 ·obtain⟨fr,h',gl,tr,mk,hV,hT⟩:=hS.v7 (hd.out 7 (by kernel_rfl));simp only[hV];go_simp;exact hK.out _ _ (by simp only[hV];rfl) (hS.set _ (by rfl) (by rfl) (fun e=>absurd e (by decide)) (fun e=>absurd e (by decide)) (fun e=>absurd e (by decide)) (fun _=>rfl))
 simp only[Act.put];(apply AU.w rfl;intro V L w1 _ _ _ z hK;go_simp;exact hK rfl (z.s.made z.i (z.r 11 10 (by kernel_rfl) z.i) _);(try simp only[pE]));refine AU.val undef (fun _=>rfl) (fun V L w1 K' Q' hS hi hR hd hK=>?_) ?_
 ·have hl:=hd.out 10 (by kernel_rfl);obtain⟨pb,hpb,hp0,hp1,hx,-⟩:=hS.vb hl;obtain⟨fr,h',gl,tr,mk,hV,hT⟩:=hS.v8 (hd.out 8 (by kernel_rfl));obtain⟨⟨_,y1⟩,⟨_,y2⟩,⟨_,y3⟩,⟨_,y4⟩,⟨_,y5⟩⟩:=hT.in;obtain⟨e1,f1,rfl⟩:=y1.sl;obtain⟨e2,f2,rfl⟩:=y2.sl;obtain⟨e3,f3,rfl⟩:=y3.sl;obtain⟨e4,f4,rfl⟩:=y4.sl;obtain⟨e5,f5,rfl⟩:=y5.sl;replace hx:=hx hi;obtain⟨k0,k1,k2,k3,k4,k5,k6,k7,k8,k9,k10,k11,k12⟩:=hx.c13;obtain⟨z0,z1,z2,z3,z4,z5,z6,z7,z8,z9,z10,z11,z12⟩:=hx.f13;simp only[hpb,hV,gY];go_simp;exact hK.out _ _ (by simp only[hpb,hV,gY];rfl) (hS.fill hl hi hpb hT)
 simp only[Act.put];refine AU.free (fun _=>rfl) (fun V L w1 K' Q' hS hi hR hd hK=>?_) ?_
 ·have hV:=hS.v9 (hd.out 9 (by kernel_rfl));simp only[hV];go_simp;exact hK.out _ _ (by simp only[hV];rfl) (hS.set _ (by rfl) (by rfl) (fun e=>absurd e (by decide)) (fun e=>absurd e (by decide)) (fun e=>absurd e (by decide)) (fun e=>absurd e (by decide)))
 simp only[Act.put];refine AU.nil fun V w3 hS=>?_;obtain⟨ps,hps,hp0,hp1,-,hx⟩:=hS.vb rfl;obtain⟨fr,h',gl,tr,mk,hxb,hT⟩:=hx rfl;have hb5:=hS.b;have hI:=hT.in;simp only[hps,gY];have hx5:=hxb;have Y8:=hP.nx hb5;have xA:=hA.nx hb5;have hb6:=AB hb1 hb5;obtain⟨z0,-,-,-⟩:=M7 hs0.out;have hwk:Jg s=s:=OQ (by rw[z0];decide);have hfu:fuel<=100000:=by have:=Fu.out.d;dsimp only at this;omega
 have hsw:=KT (J4 Fu.out) (P7 Fu.out) hq.out.g1 hs0.out hfu;have Tp:∀(W':World),AA6 w3 W'->Calls prog 12 #[.agg #[.bool ssa,.slice c1 p.cs.length k1,.slice c2 p.gs.length k2,.slice c3 p.xs.length k3,.slice c4 p.fs.length k4],Ko s fr h' gl tr mk,.int .i64 fuel,.slice q2 l2.length d2,.slice q3 l3.length d3] W' fun e w'=>(∃t fr' hp' TV TI mk',e=.returned (Ko t fr' hp' TV TI mk')/\Bt w' W'.heap.size t fr' hp' TV TI mk'/\rM p fuel t)/\AA6 W' w':=fun W' hb=>by
  have hE:Env w W'.heap.size ⟨.bool ssa,.slice c1 p.cs.length k1,.slice c2 p.gs.length k2,.slice c3 p.xs.length k3,.slice c4 p.fs.length k4,.slice q2 l2.length d2,.slice q3 l3.length d3⟩ p l2 l3:=
   ⟨hp.out,hq.out.r2,hq.out.r3,(AB hb6 hb).size,J4 Fu.out,aQ Fu.out,lV hr.out,hq.out.g2,tL Fu.out,P7 Fu.out,tN Fu.out⟩
  refine(Vi hE (AB hb6 hb) ⟨rfl,rfl,rfl,rfl,rfl,rfl,rfl⟩ (by rw[ZL.out]) (hI.kp hb) hsw.2 fuel (by rw[hwk];exact hsw.1)).mono ?_;rintro e w' ⟨t,fr',hp',TV,TI,mk',he,hO,hrn,-,hbb⟩;rw[hwk]at hrn;exact⟨⟨t,_,_,_,_,_,he,hO,zY Fu.out hq.out.g1 hs0.out hrn hfu⟩,hbb⟩
 obtain⟨⟨_,y1⟩,⟨_,y2⟩,⟨_,y3⟩,⟨_,y4⟩,⟨_,y5⟩⟩:=hI;obtain⟨e1,f1,rfl⟩:=y1.sl;obtain⟨e2,f2,rfl⟩:=y2.sl;obtain⟨e3,f3,rfl⟩:=y3.sl;obtain⟨e4,f4,rfl⟩:=y4.sl;obtain⟨e5,f5,rfl⟩:=y5.sl;replace Tp:=Tp w3 (AL);dsimp only[Ko]at Tp;obtain⟨a0,a1,a2,a3,a4⟩:=Y8.c5;obtain⟨-,-,b2,b3,b4⟩:=xA.c5;unfold Wi at hx5;generalize s.status=v0 at*;generalize s.result.1=v1 at*;generalize s.result.2=v2 at*;generalize s.code=v3 at*;generalize s.allocs=v4 at*;generalize s.steps=v5 at*;generalize s.guards=v6 at*;generalize s.asked=v7 at*;generalize s.frames.length=n1 at*;generalize s.heap.length=n2 at*;generalize s.globals.length=n3 at*;generalize s.trace.length=n4 at*;generalize s.marks.length=n5 at*;obtain⟨x0,x1,x2,x3,x4,x5,x6,x7,x8,x9,x10,x11,x12⟩:=hx5.c13;replace Tp:=hidden Tp;clear hx5 z0;go_wp2_with fail;refine Tp.out.mono ?_;rintro e w4 ⟨⟨t,fr,h',gl,tr,mk,rfl,hO,hrq⟩,BJ⟩;obtain⟨r1,g1,r2,g2,r3,g3,r4,g4,r5,g5,rfl,rfl,rfl,rfl,rfl⟩:=hO.shape;obtain⟨Yv,hTr⟩:=hO.rows hrq hfu;have hst:=hrq.st;have hen:=hrq.c.en;have has:=hrq.c.asks;have hms:=hrq.c.ms;have hup:=hrq.c.up;have hal:=hrq.c.al.2.2;have Ti:=hrq.c.o8;have hgl:=hrq.g;have htb:(t.trace.length:Int)<=100000:=by have:=hrq.c.tr;omega
 have hfe:t.frames=[]↔t.frames.length=0:=List.length_eq_zero_iff.symm;clear hrq hO;rw[hfe]at hen;generalize t.marks=Lc at*;generalize t.trace=gW at*;generalize t.status=sta at*;generalize t.result.1=x1 at*;generalize t.result.2=x2 at*;generalize t.code=x3 at*;generalize t.frames.length=nf at*;generalize t.heap.length=nh at*;generalize t.globals.length=ng at*;generalize t.allocs=al at*;generalize t.steps=LM at*;generalize t.guards=gua at*;generalize t.asked=ask at*;subst hal hgl;generalize hnt:gW.length=nt at*;rw[Ti]at Yv;rw[Ti];have hmx:¬(max fuel 0<LM):=by omega
 replace hnt:=hidden hnt;replace Ti:=hidden Ti;replace hen:=hidden hen;replace has:=hidden has;replace hms:=hidden hms;replace hup:=hidden hup;replace Yv:=hidden Yv;replace hTr:=hidden hTr;have Bp:=AJ w4 (.cells #[.int .i64 sta,.string x1,.int .i64 x2,.int .i64 x3,.slice r1 nf g1,.slice r2 nh g2,.slice r3 p.gs.length g3,.slice r4 nt g4,.slice r5 nt g5,.int .i64 (nh:Int),.int .i64 LM,.int .i64 gua,.int .i64 ask] 40);have hZ:=Ae.alloc w4 [.int .i64 sta,.string x1,.int .i64 x2,.int .i64 x3,.slice r1 nf g1,.slice r2 nh g2,.slice r3 p.gs.length g3,.slice r4 nt g4,.slice r5 nt g5,.int .i64 (nh:Int),.int .i64 LM,.int .i64 gua,.int .i64 ask] 40;have hP7:=(Y8.nx BJ).nx Bp;have hA7:=(xA.nx BJ).nx Bp;have J9:=AB (AB hb6 BJ) Bp;have a2:=hP7.c 2 _ rfl;have b2:=hA7.c 2 _ rfl;obtain⟨-,-,-,-,z4,z5,z6,z7,z8,z9,z10⟩:=hZ.c11;clear Y8 xA hfe hst hfu Tp;go_wp2_with fail;have z0:=hZ.c 0 _ rfl;have z12:=hZ.c 12 _ rfl;have hlz:=hZ.lt;replace Yv:=Yv.out;replace hTr:=hTr.out;clear hP7 hA7 a0 a1 a2 a3 a4 b2 b3 b4;replace Yv:=Row.map Yv (fun a x h=>AA Bp h);replace hTr:=Row.map hTr (fun a x h=>AA Bp h);clear Bp hZ;generalize w4.heap.size=pt at*;generalize w4.alloc _=Wx at*;obtain⟨_,_,em,-,-,Tj⟩:=Yv;obtain⟨rfl,-,rfl⟩:=Value.slice.inj em;obtain⟨_,_,et,-,-,Tg⟩:=hTr;obtain⟨rfl,-,rfl⟩:=Value.slice.inj et;replace Tj:=hidden Tj;replace Tg:=hidden Tg;clear em et;go_loopw[8] (fun i wr=>∃q:Nat,q<=nt/\i=.int .i64 (q:Int)/\AA6 Wx wr) (fun i _=>nt-(intOf i).toNat);exact⟨0,AY,rfl,AL⟩;obtain⟨q,hq,rfl,hbr⟩:=hrel;have y0:=AA hbr z0;have y4:=AA hbr z4;have y7:=AA hbr z7;have y8:=AA hbr z8;have y9:=AA hbr z9;have y12:=AA hbr z12;by_cases hend:q=nt
 ·subst hend;clear Tj;go_wp2_with fail;obtain⟨wo,rfl⟩:∃wo:World,wo=wr:=⟨_,rfl⟩;go_loopw[9,10] (fun a i wr=>∃k:Nat,k<=q/\i=.int .i64 (k:Int)/\a=.int .i64 (Pt (gW.take k))/\wr=wo) (fun _ i _=>q-(intOf i).toNat);exact⟨0,AY,rfl,rfl,rfl⟩;obtain⟨k,hk,rfl,rfl,rfl⟩:=hrel;by_cases hend:k=q
  ·subst hend;have hk:Pt (gW.take k)=ask:=by
    rw[<-hnt.out,List.take_length];exact has.out.2.symm
   rw[hk];have Wt:=AB J9 hbr;clear Tg Ti hms hup hnt has hk;by_cases h1:sta=1
   ·have h2:nf=0:=hen.out.1 h1;subst h1 h2;go_wp2_with fail;go_ret;exact⟨rfl,Wt⟩
   ·have h2:nf≠0:=fun e=>h1 (hen.out.2 e);have h3:((sta:Int)==1)=false:=(by simpa using h1);have h4:((nf:Int)==0)=false:=(by simpa using h2);go_wp2_with fail;go_ret;exact⟨rfl,Wt⟩
  ·have hlk:k<q:=(by omega);have A8:(k:Int)<q:=(by omega);have hlm:k<gW.length:=(by rw[hnt.out];exact hlk);obtain⟨am,rfl,m0⟩:=Tg.out k gW[k] (by simp[hlm]);have m0:Wx.cell? (am.add (k*4))=some (.string gW[k].n):=m0;have m1:=DW m0;replace m0:=AA hbr m0;replace m1:=AA hbr m1;have hst:=Ym hlm;have hle:=mQ gW k;generalize gW[k].n=nm at*;generalize Pt (gW.take k)=c at*;by_cases he:nm=Bv
   ·rw[if_pos he,Int.add_zero]at hst;subst he;replace hst:=hidden hst;go_wp2_with fail;go_roundw;exact⟨k+1,by omega,by go_num,by rw[hst.out],trivial⟩;simp[intOf];omega
   ·rw[if_neg he]at hst;have hw:IntKind.i64.wrap (c+1)=c+1:=IntWalk.i64_in _ (by omega);have hne:nm.toList.isEmpty=false:=by
     cases hh:nm.toList.isEmpty
     ·rfl
     ·have:=oL hh;exact absurd this (by simp[he])
    replace hst:=hidden hst;go_wp2_with fail;go_roundw;exact⟨k+1,by omega,by go_num,by rw[hst.out],trivial⟩;simp[intOf];omega
 ·have hlt:q<nt:=by omega
  have A8:(q:Int)<nt:=by omega
  have hlm:q<Lc.length:=by rw[Ti.out];exact hlt
  obtain⟨am,rfl,m0⟩:=Tj.out q Lc[q] (by simp[hlm]);have m0:Wx.cell? (am.add q)=some (.int .i64 Lc[q]):=by simpa[Nj]using m0
  have m2:Wx.cell? ⟨am.block,am.off+q,none⟩=some (.int .i64 Lc[q]):=DW m0;replace m0:=AA hbr m0;replace m2:=AA hbr m2;have hgt:¬((nh:Int)<Lc[q]):=by have:=(hms.out Lc[q] (List.getElem_mem hlm)).2;omega
  cases q with
  |zero=>
   have hgt2:¬((nh:Int)<Lc[0]):=hgt;replace m0:wr.cell? am=some (.int .i64 Lc[0]):=m0;generalize Lc[0]=mq at*;go_wp2_with fail;refine AO (S:=fun _ v=>AA6 wr v) rfl (by kernel_rfl) Ac ?_;(iterate 8(first|(apply Ab.z rfl;intro L w1 _ _ _ z hK;go_simp;exact hK (z.s);rfl)|(apply Ab.z rfl;intro L w1 _ _ _ z hK;(have k9:=AA z.s y9;have k8:=AA z.s y8;have km:=AA z.s m0;have km2:=AA z.s m2);go_simp;exact hK (z.s);rfl)|(refine Ab.skip rfl (fun L w1 hS hi=>(hS)) ?_;(try simp only[pE]))));have hdq:decide ((nh:Int)<mq)=false:=decide_eq_false (by omega);simp only[hdq];(iterate 3(first|(apply Ab.z rfl;intro L w1 _ _ _ z hK;go_simp;exact hK (z.s);rfl)|(apply Ab.z rfl;intro L w1 _ _ _ z hK;(have k9:=AA z.s y9;have k8:=AA z.s y8;have km:=AA z.s m0;have km2:=AA z.s m2);go_simp;exact hK (z.s);rfl)|(refine Ab.skip rfl (fun L w1 hS hi=>(hS)) ?_;(try simp only[pE]))));(try simp only[decide_eq_false (show¬(0:Int)<0 by decide)]);(iterate 15(first|(apply Ab.z rfl;intro L w1 _ _ _ z hK;go_simp;exact hK (z.s);rfl)|(apply Ab.z rfl;intro L w1 _ _ _ z hK;(have k9:=AA z.s y9;have k8:=AA z.s y8;have km:=AA z.s m0;have km2:=AA z.s m2);go_simp;exact hK (z.s);rfl)|(refine Ab.skip rfl (fun L w1 hS hi=>(hS)) ?_;(try simp only[pE]))));refine Ab.nil fun w5 hS5=>?_;have hb5:=AB hbr hS5;go_wp2_with fail;go_roundw;exact⟨1,by omega,by go_num,hb5⟩
   simp[intOf];omega
  |succ q=>
   have yD:q<Lc.length:=(by omega);obtain⟨am',ea,m1⟩:=Tj.out q Lc[q] (by simp[yD]);obtain rfl:am=am':=(by simpa using ea);have m1:Wx.cell? (am.add q)=some (.int .i64 Lc[q]):=(by simpa[Nj]using m1);have m3:=AA hbr m1;replace m1:Wx.cell? ⟨am.block,am.off+q,none⟩=some (.int .i64 Lc[q]):=DW m1;replace m1:=AA hbr m1;have hle:¬(Lc[q+1]<Lc[q]):=by
    have:=hup.out q Lc[q] Lc[q+1] (by simp[yD]) (by simp[hlm]);omega
   have vR:(0:Int)<((q+1:Nat):Int):=(by omega);have hq1:IntKind.i64.wrap ((q:Int)+1-1)=(q:Int):=by
    rw[show(q:Int)+1-1=(q:Int) by omega];exact IntWalk.i64_in _ (by omega)
   replace hq1:=hidden hq1;have h0N:0<q+1:=Nat.succ_pos q;have hq2:((q+1:Nat):Int)-1=(q:Int):=(by omega);have hlt1:(q:Int)<nt:=(by omega);have AGk:q<nt:=(by omega);generalize Lc[q+1]=mq at*;generalize Lc[q]=mp at*;go_wp2_with fail;refine AO (S:=fun _ v=>AA6 wr v) rfl (by kernel_rfl) Ac ?_;(iterate 8(first|(apply Ab.z rfl;intro L w1 _ _ _ z hK;go_simp;exact hK (z.s);rfl)|(apply Ab.z rfl;intro L w1 _ _ _ z hK;(have k9:=AA z.s y9;have k8:=AA z.s y8;have km:=AA z.s m2;have kn:=AA z.s m1;have kn3:=AA z.s m3);go_simp;exact hK (z.s);rfl)|(apply Ab.z rfl;intro L w1 _ _ _ z hK;(have hq9:=hq1.out);go_simp;exact hK (z.s);rfl)|(refine Ab.skip rfl (fun L w1 hS hi=>(hS)) ?_;(try simp only[pE]))));have hdq:decide ((nh:Int)<mq)=false:=decide_eq_false (by omega);simp only[hdq];(iterate 3(first|(apply Ab.z rfl;intro L w1 _ _ _ z hK;go_simp;exact hK (z.s);rfl)|(apply Ab.z rfl;intro L w1 _ _ _ z hK;(have k9:=AA z.s y9;have k8:=AA z.s y8;have km:=AA z.s m2;have kn:=AA z.s m1;have kn3:=AA z.s m3);go_simp;exact hK (z.s);rfl)|(apply Ab.z rfl;intro L w1 _ _ _ z hK;(have hq9:=hq1.out);go_simp;exact hK (z.s);rfl)|(refine Ab.skip rfl (fun L w1 hS hi=>(hS)) ?_;(try simp only[pE]))));(try simp only[decide_eq_true vR,decide_eq_true h0N]);(iterate 5(first|(apply Ab.z rfl;intro L w1 _ _ _ z hK;go_simp;exact hK (z.s);rfl)|(apply Ab.z rfl;intro L w1 _ _ _ z hK;(have k9:=AA z.s y9;have k8:=AA z.s y8;have km:=AA z.s m2;have kn:=AA z.s m1;have kn3:=AA z.s m3);go_simp;exact hK (z.s);rfl)|(apply Ab.z rfl;intro L w1 _ _ _ z hK;(have hq9:=hq1.out);go_simp;exact hK (z.s);rfl)|(refine Ab.skip rfl (fun L w1 hS hi=>(hS)) ?_;(try simp only[pE]))));(try simp only[hq1.out]);(try simp only[show(q:Int)+1-1=(q:Int) by omega,show IntKind.i64.wrap (q:Int)=(q:Int)from IntWalk.i64_in _ (by omega)]);(iterate 8(first|(apply Ab.z rfl;intro L w1 _ _ _ z hK;go_simp;exact hK (z.s);rfl)|(apply Ab.z rfl;intro L w1 _ _ _ z hK;(have k9:=AA z.s y9;have k8:=AA z.s y8;have km:=AA z.s m2;have kn:=AA z.s m1;have kn3:=AA z.s m3);go_simp;exact hK (z.s);rfl)|(apply Ab.z rfl;intro L w1 _ _ _ z hK;(have hq9:=hq1.out);go_simp;exact hK (z.s);rfl)|(refine Ab.skip rfl (fun L w1 hS hi=>(hS)) ?_;(try simp only[pE]))));have hdp:decide (mq<mp)=false:=decide_eq_false (by omega);(try simp only[hdp]);(iterate 2(first|(apply Ab.z rfl;intro L w1 _ _ _ z hK;go_simp;exact hK (z.s);rfl)|(apply Ab.z rfl;intro L w1 _ _ _ z hK;(have k9:=AA z.s y9;have k8:=AA z.s y8;have km:=AA z.s m2;have kn:=AA z.s m1;have kn3:=AA z.s m3);go_simp;exact hK (z.s);rfl)|(apply Ab.z rfl;intro L w1 _ _ _ z hK;(have hq9:=hq1.out);go_simp;exact hK (z.s);rfl)|(refine Ab.skip rfl (fun L w1 hS hi=>(hS)) ?_;(try simp only[pE]))));refine Ab.nil fun w5 hS5=>?_;have hb5:=AB hbr hS5;go_wp2_with fail;go_roundw;exact⟨q+2,by omega,by go_num,hb5⟩;simp[intOf];omega
section
open Go.ChangeShapes Go.WideShapes Go.ChangeAt Go.Deep
theorem SB:∀(l:List (DataW Unit)),Rows.laid_lateen_lateenref05_words=.agg l->∀(r:Nat) (s:List UInt8),l[r]? =some (.lit (.string s))->s.length<=10:=by
 intro l h r s hs;unfold Rows.laid_lateen_lateenref05_words at h;injection h with h
 have hc:(l.all fun d:DataW Unit=>match d with
  |.lit (.string s)=>decide (s.length<=10)
  |_=>true)=true:=by rw[<-h];decide
 have:=List.all_eq_true.1 hc _ (List.mem_of_getElem? hs);simpa using this
theorem jc{W:World}(h:laidMetH prog Rows.machineCountsRow.laid W):Words W:=by
 rw[MakeChecks.laidMetH_plain _ _ _ (by kernel_rfl)]at h;obtain⟨ps,⟨_,_,_,_,_,_,_,_,_,_,⟨g,t,cs,fuel,p,q,hg,ht,hv,hd,_,_⟩,_⟩,_,_⟩:=h;obtain rfl:=Option.some.inj ((show prog.globalNamed "lateen/lateenref05.words" =some 2 by kernel_rfl).symm.trans hg);obtain rfl:=Option.some.inj ((show(prog.globals[2]?).map (·.type)=some 298 by kernel_rfl).symm.trans ht);obtain⟨xs,m,_,ex,_,hl,hel⟩:=DataW.trod_array underlying298 hd;have c5:prog.cellsOf 9=1:=by kernel_rfl
 intro r hr;have hE:=hel r hr;rw[c5,Nat.mul_one,List.getElem?_eq_getElem (by omega)]at hE;obtain⟨z,e1,e2,_⟩:=DataW.trod_string underlying9 hE;have hz:=SB _ (congrArg Prod.fst ex) r z.data.toList (by rw[List.getElem?_map,List.getElem?_eq_getElem (by omega),Option.map_some,e2]);refine⟨z,?_,by simpa using hz⟩;rw[World.var?_cell hg hv r];have h0:((cs.toList.drop r).take 1)[0]? =some (.string z):=by rw[e1];rfl
 simpa using h0
variable (H : Type) (enc : TypeId × Value -> H) (W : World) (base : Nat) (args : Array Value) (ds gs : List (DataW H)) (before : List MemPlace)
theorem VD(hval:∀(j:Nat) t v,f6.params[j]? =some t->args[j]? =some v->Value.okWide prog W .any base t v)(hW:DataW.Whole enc prog f6.params.toList Rows.machineCountsSpec.vars false W args.toList ds gs before)(hk:(DataW.weightsEach prog (f6.params.toList++Rows.machineCountsSpec.plain.varTypes prog) (ds++gs)).all (· <=reachBytes)=true) (hx:laidMetH prog Rows.machineCountsRow.laid W)(m:Int) (hm:W.cell? ⟨1,0,none⟩=some (.int .i64 m)):Calls prog 6 args W fun e W'=>e=.returned (.bool true)/\AA6 W W':=by
 have hwd:=jc hx;obtain⟨p,q,hA0,hV,rfl,_,_⟩:=hW;have hA:DataW.TrodAll enc prog W 0 (fun _=>true) true f6.params.toList args.toList ds p:=hA0;rw[params6]at hA hval hk;obtain⟨v0,vs0,d0,ds0,p0,q0,hargs,rfl,rfl,h0,r0⟩:=trodAll_cons hA;obtain⟨v1,vs1,d1,ds1,p1,q1,rfl,rfl,rfl,h1,r1⟩:=trodAll_cons r0;obtain⟨rfl,rfl,rfl⟩:=trodAll_nil r1;obtain rfl:args=#[v0,v1]:=by cases args;simp_all
 obtain⟨c0,rfl,k0⟩:=oC underlying27 (hval 0 _ v0 rfl rfl) h0 (nX hk (j:=0) rfl rfl);obtain⟨c1,rfl,k1⟩:=oC underlying30 (hval 1 _ v1 rfl rfl) h1 (nX hk (j:=1) rfl rfl);obtain⟨p,u1,u2,u3,u4,hp,hr⟩:=AAX k0;obtain⟨qf,l1,fuel,l2,l3,g1,g2,g3,hq⟩:=ADX k1;have e1:=hp.e;have e2:=hq.e;rw[e1]at hp;rw[e2]at hq;rw[e1,e2];exact VA ⟨hwd,⟨m,hm⟩,hp,hr,hq⟩
end
section
variable {H : Type} {enc : TypeId × Value -> H}
theorem J5{a:Assume}{C:Checked}{os:Os}{f:FuncId}{fn:Func}{s:ChangeSpec}{conds:List PathCond}{apart fresh handsOn again:Bool}{X:World->Array Value->Prop}(hX:∀(w w':World) (args:Array Value),w.heap=w'.heap->X w args->X w' args)(own:ownKnob C.prog.godebug=none) (started:os.Started) (noInit:C.prog.inits.idxOf? f=none) (hfn:C.prog.funcs[f]? =some fn)(witness:∃(w:World) (tape:Tape) (i:Input),w.os=os/\(w.forCall tape i).Shaped C.prog/\i.vars=[]/\Input.okWide C.prog (w.forCall tape i) .any w.heap.size f i/\((s.pre enc C.prog fn conds apart (w.forCall tape i).memory i.args/\X (w.forCall tape i).memory i.args)/\sizedMet enc C.prog fn (OpenSpec.ofChange s) apart (w.forCall tape i).memory i.args)/\a.holds C.prog (lone (Frame.enter C.prog f i.args .normal) [] (w.forCall tape i)))(contract:∀(W:World) (base:Nat) (args:Array Value) (ds gs:List (DataW H)) (before:List MemPlace),(∀(j:Nat) t v,fn.params[j]? =some t->args[j]? =some v->Value.okWide C.prog W .any base t v)->DataW.Whole enc C.prog fn.params.toList s.vars apart W args.toList ds gs before->X W args->(DataW.weightsEach C.prog (fn.params.toList++s.plain.varTypes C.prog) (ds++gs)).all (· <=reachBytes)=true->W.ShapedOpen C.prog->Calls C.prog f args W fun e W'=>∃v,e=.returned v/\s.post enc C.prog fn apart fresh handsOn again W args v W'):ReturnsInHanded a C os f .any (fun w args=>(s.pre enc C.prog fn conds apart w args/\X w args)/\sizedMet enc C.prog fn (OpenSpec.ofChange s) apart w args) (s.post enc C.prog fn apart fresh handsOn again):=by
 refine returnsInHanded_of_calls own started noInit witness ?_;intro w tape i _ hsh _ hok hpre hholds;obtain⟨_,_,_,fn',hfn',_,_,_,_,hval⟩:=hok;have e:fn'=fn:=Option.some.inj (hfn'.symm.trans hfn);subst e;obtain⟨⟨⟨ds,gs,before,hw,_⟩,hx⟩,hz⟩:=hpre;have hw':=DataW.Whole.of_heap (w':=w.forCall tape i) (by rfl) hw;refine(contract (w.forCall tape i) w.heap.size i.args ds gs before hval hw' (hX _ _ _ (by rfl) hx) (hz.weights hw) hsh).mono fun e W' ⟨v,he,hp⟩=>?_;subst he;exact ChangeSpec.post_blind hp
theorem sV(h:w.ShapedOpen prog):∃m,w.cell? ⟨1,0,none⟩=some (.int .i64 m):=
 cell_of_shapedOpen_int (P:=prog) (t:=3) (zero:=#[.int .i64 0]) h (by decide+kernel) (by kernel_rfl) rfl (by kernel_rfl) (by kernel_rfl) underlying3
end
section
namespace lawMachineCounts
open Go.ChangeShapes Go.WideShapes Go.ChangeAt
open Go.ChangeMaps (open_string shut_string)
theorem contract(H:Type)(enc:TypeId×Value->H)(W:World)(base:Nat)(args:Array Value)(ds gs:List (DataW H))(before:List MemPlace)(hval:∀(j:Nat) t v,f6.params[j]? =some t->args[j]? =some v->Value.okWide prog W .any base t v)(hW:DataW.Whole enc prog f6.params.toList Rows.machineCountsSpec.vars false W args.toList ds gs before) (hk:(DataW.weightsEach prog (f6.params.toList++Rows.machineCountsSpec.plain.varTypes prog) (ds++gs)).all (· <=reachBytes)=true) (hx:laidMetH prog Rows.machineCountsRow.laid W) (m:Int) (hm:W.cell? ⟨1,0,none⟩=some (.int .i64 m)):Calls prog 6 args W fun e W'=>∃v,e=.returned v/\Rows.machineCountsSpec.post enc prog f6 false true false false W args v W':=by
 have hWk:=hW;obtain⟨p,q,hA0,hV,rfl,_,_⟩:=hW;have hA:DataW.TrodAll enc prog W 0 (fun _=>true) true f6.params.toList args.toList ds p:=hA0;rw[params6]at hA;obtain⟨v0,vs0,d0,ds0,p0,q0,hargs,rfl,rfl,h0,r0⟩:=trodAll_cons hA;obtain⟨v1,vs1,d1,ds1,p1,q1,rfl,rfl,rfl,h1,r1⟩:=trodAll_cons r0;obtain⟨rfl,rfl,rfl⟩:=trodAll_nil r1;obtain rfl:args=#[v0,v1]:=by cases args;simp_all
 have hgs:gs=[]:=(trodVars_none hV).1;refine law_calls (T:=4) Tryz.laidOut (by rw[params6];intro t ht;simp only[List.mem_cons,List.not_mem_nil,or_false]at ht;rcases ht with rfl|rfl<;>kernel_rfl) (by rw[params6];intro t ht;simp only[List.mem_cons,List.not_mem_nil,or_false]at ht;rcases ht with rfl|rfl<;>exact BK (by kernel_rfl)) rfl (by kernel_rfl) underlying4 hWk (by rw[hgs];rfl) ?_;exact VD H enc W base _ _ gs _ hval hWk hk hx m hm
theorem lifted(os:Os)(started:os.Started)(H:Type)(enc:TypeId×Value->H):ReturnsInHanded {} checked os 6 .any (fun w args=>(Rows.machineCountsSpec.pre enc prog f6 [] false w args/\laidMetH prog Rows.machineCountsRow.laid w)/\sizedMet enc prog f6 (OpenSpec.ofChange Rows.machineCountsSpec) false w args) (Rows.machineCountsSpec.post enc prog f6 false true false false):=by
 refine J5 (C:=checked) (X:=fun w _=>laidMetH prog Rows.machineCountsRow.laid w) (fun _ _ _ hh h=>h.of_heap hh) Tryz.ownKnob started (by kernel_rfl) func6
  (ChangeSpec.witness_shaped (enc:=enc) (C:=checked) (os:=os) (X:=fun w _=>laidMetH prog Rows.machineCountsRow.laid w) false (World.laidAll prog os Rows.machineCountsRow.laid) #[.agg #[.bool false,.slice none 0 0,.slice none 0 0,.slice none 0 0,.slice none 0 0],.agg #[.int .u8 0,.slice none 0 0,.int .i64 0,.slice none 0 0,.slice none 0 0]] 8 (World.laidAll_os _ _ _)
   (World.shaped_of_ZipB (by kernel_rfl) (by kernel_rfl)) (by kernel_rfl) (by kernel_rfl) (by kernel_rfl)
   (by rw[MakeChecks.laidMetH_plain _ _ _ (by kernel_rfl)];exact laidMet_laidAll _ (by kernel_rfl) (by kernel_rfl))) ?_
 intro W base args ds gs before hval hW hx hz hsh;obtain⟨m,hm⟩:=sV hsh;exact contract H enc W base args ds gs before hval hW hz hx m hm
theorem j0:(Rows.machineCountsRow.inPlace==prog.inPlace 6)=true:=by kernel_rfl
theorem j1:(Rows.machineCountsRow.unfollowed==prog.unfollowed 6)=true:=by kernel_rfl
theorem j2:(Rows.machineCountsRow.recurses==prog.recurses 6)=true:=by kernel_rfl
theorem j3:(Rows.machineCountsRow.named==prog.varsNamed 6)=true:=by kernel_rfl
theorem j4:(laidOutB prog)=true:=by kernel_rfl
theorem j5:(mapsRowed prog)=true:=by kernel_rfl
theorem j6:(prog.stops==[])=true:=by kernel_rfl
theorem j7:(prog.stopKnobs==[])=true:=by kernel_rfl
theorem j8:(prog.stopsHeard)=true:=by kernel_rfl
theorem j9:(prog.mayEnter)=true:=by kernel_rfl
theorem j10:(Rows.machineCountsRow.plainKeys==prog.plainKeys)=true:=by kernel_rfl
theorem j11:(Rows.machineCountsRow.lifted==prog.liftsFinal)=true:=by kernel_rfl
theorem facts:joinedFacts prog 6 f6 Rows.machineCountsSpec Rows.machineCountsRow=true:=by
 unfold joinedFacts;rw[j0,j1,j2,j3,j4,j5,j6,j7,j8,j9,j10,j11];kernel_rfl
theorem holds:Rows.MachineCountsSaid:=
 OpenClaim.holds_of_wide 6 f6 rfl rfl rfl rfl rfl rfl rfl ⟨rfl,rfl,rfl,rfl,rfl⟩ rfl rfl rfl rfl rfl (by kernel_rfl) func6 facts
  (BK (by kernel_rfl)) (by unfold Func.isWrapper;first|(rw[if_pos (by decide+kernel)];kernel_rfl)|(rw[if_neg (by decide+kernel)];exact⟨rfl,rfl⟩))
  (fun os started H enc _=>lifted os started H enc)
theorem proved:Rows.MachineCountsCardSaid:=
 Claim7.holds_tied_plain_at .later [] [.data,.data,.pinned] true (true, "c8b6cc4407bc1138b60c66af1eda1fd11cf706ba74662aa1eea4fca4a879b2a8") true holds (fun _ h=>by cases h) (by kernel_rfl) (fun _ h=>by cases h) machineCounts_row_tie rfl ⟨rfl,rfl⟩ (by kernel_rfl) rfl
  (fun f fn hf hfn=>by
   obtain rfl:f=6:=Option.some.inj ((show prog.funcNamed "lateen/lateenlaw16.MachineCounts" =some 6 by kernel_rfl).symm.trans hf)|>.symm;obtain rfl:fn=f6:=(Option.some.inj (func6.symm.trans hfn)).symm
   exact⟨by kernel_rfl,fun j t ht=>by
    rw[params6]at ht;have hm:t∈ [27,30]:=(by simpa using Array.mem_of_getElem? ht);have hall:([27,30].all fun u=> !prog.wantsStandIn u)=true:=by kernel_rfl
    exact(show prog.wantsStandIn t=false by simpa using List.all_eq_true.1 hall t hm)⟩)
  (by kernel_rfl)
#print axioms proved
end lawMachineCounts
end
end Go.Proofs.YtlffomedflegdaaGreatDoor
#print axioms Go.Proofs.YtlffomedflegdaaGreatDoor.lawMachineCounts.proved
