/- Part 09 of the proof: Nd, Ne, Nf, Ng, Nh, Ni. -/
import Derived.Test.YtlffomedflegdaaGreatDoorPc08
set_option linter.all false
set_option maxHeartbeats 16000000
set_option maxRecDepth 100000
namespace Go.Proofs.YtlffomedflegdaaGreatDoor
open Go.Proofs.Tryz
open Go.RowKit
variable {B M N c1 c2 c3 l2 l3 m:Nat}{F:List Nat}{a:Addr}{ans fails:List Int}{f:Fn}{i:Is}{j:Int}{k:Hd}{p:Pg}{p1 p2 p3:Option Addr}{rest:List Lv}{s t:St}{v:Value}{w w' w0 w1:World}{x:Lv}
theorem aK:(prog.info? 119).map (fun i=>(i.zero,i.size,i.bytes))=some (some (.agg #[.string .empty,.slice none 0 0]),2,40):=by kernel_rfl
theorem dX(h:Qd w0 w B N M k s j rest x i p1 c1)(hop:i.op=25)(hp:Cj w0 (.agg #[k.u0,k.u1,k.u2,k.u3,k.u4]) p k.u1 k.u2 k.u3 k.u4){c:Cl} (hfc:Ai Cl.n i.n p.cs=some c) {uc:Value} (hsel:jR w0 k.u1 p.cs i.n c uc) (Sw:jQ w0 (.agg #[.string c.n,uc]) c uc) (hcl:c.fs.length<=4000) (hhl:s.heap.length<=1000000) (hal:0<=s.allocs/\s.allocs<=1000000):Calls prog 78 #[.pointer (some ⟨M,0,none⟩),.agg #[.int .i64 i.op,.string i.d,.string i.n,.slice p1 i.as.length c1,.slice p2 l2 c2,.slice p3 l3 c3]] w (BI B M k (BP {s with heap:=s.heap++[⟨i.n,Em p i.n (i.as.map (Ar x.vars))⟩],allocs:=s.allocs+1} rest x i.d (E9,(s.heap.length:Int)+1)) j w):=by
 obtain⟨h0,hA,hM,hfr,hl,hx,hin,hk⟩:=h;obtain⟨pc,cc,rfl,-,-,hcs⟩:=Sw.f;rw[hop];have OI:Em p i.n (i.as.map (Ar x.vars))=if i.as=[]then c.fs.map (fun v=>Ap v.t)else i.as.map (Ar x.vars):=by
  unfold Em
  cases i.as with
  |nil=>simp[hfc]
  |cons a r=>simp
 have hml:(Em p i.n (i.as.map (Ar x.vars))).length<=4000:=by
  rw[OI];split
  ·simpa using hcl
  ·simp;omega
 replace OI:=Wx OI;clear hop hfc;obtain⟨hI,hb1⟩:=BR (w:=w) (c1:=[.int .i64 25,.string i.d,.string i.n,.slice p1 i.as.length c1,.slice p2 l2 c2,.slice p3 l3 c3]) (t1:=133) (AL);have Df:N<=w.heap.size:=hM.own.sz;have hBN:B<=N:=by have:=hM.own.ge;have:=hM.own.lt;omega
 have hLk:=fun v (hw:AA6 w0 v)=>Ot hw hp i.n hsel Sw;generalize i.d=dst at*;generalize i.n=nm at*;go_enter func78,ntmps78;generalize Cr:w.alloc (.cells #[.int .i64 25,.string dst,.string nm,.slice p1 i.as.length c1,.slice p2 l2 c2,.slice p3 l3 c3] 133)=W at*;replace hM:=hM.kp (hb1.mono Df);obtain⟨FB,cap,bm,hT,-⟩:=hM.top hfr hl;have hw0:=AB h0 hb1;obtain⟨-,-,i2,i3⟩:=hI.c4;have TQ:N<=W.heap.size:=hM.own.sz;have Db:Below B w W:=hb1.mono (by omega);have hva:=Md hw0 hT hA hk (by omega);go_wp2_with fail;refine hva.mono ?_;rintro e w2 ⟨hb2,v,fp,rfl,hv,hnd⟩;obtain⟨pv,kv,rfl⟩:=hv.slice;rw[List.length_map,List.length_map]at hv⊢;have hw2:=AB hw0 hb2;have hM2:=hM.kp (hb2.mono TQ);have i2':=(hI.nx hb2).c 2 _ rfl;generalize hvs:i.as.map (Ar x.vars)=vs at*;generalize hnl:i.as.length=nl at*;clear hva hT;go_upto_if 15 with fail;have hnn:nl=0↔i.as=[]:=by rw[<-hnl];exact List.length_eq_zero_iff
 have yO:W.heap.size<=w2.heap.size:=hb2.size;replace hnl:=Wx hnl;replace hvs:=Wx hvs;go_cut[4,5,6,8]from 16 to 39 (fun u _ _ _ wx=>∃fp,AZ wx W.heap.size 34 2 ((Em p nm vs).map C9) u fp/\fp.Nodup/\AA6 W wx)
 ·clear Cr i3 hA;by_cases hn0:i.as=[]
  ·have hz:((nl:Int)==0)=true:=(by simp[hnn.2 hn0]);have hm0:Em p nm vs=c.fs.map (fun v=>Ap v.t):=(by rw[OI.out,if_pos hn0]);have hv0:vs=[]:=(by rw[<-hvs.out,hn0];rfl);have hz0:=hnn.2 hn0;subst hz0 hv0;replace hm0:=Wx hm0;obtain⟨g0,g1,g2,g3,g4,-⟩:=hM2.hd;clear OI hnn hn0 hM hM2 hI hvs;go_wp2;refine AV (S:=Ck w2 10 11 [.string ⟨#[]⟩,.slice none 0 0] [.string c.n,.slice pc c.fs.length cc]) rfl (by kernel_rfl) (Ck.start Ac) ?_;(iterate 6((apply AU.z rfl;intro V L w1 _ _ _ z hK;(replace g0:=AA z.s.1 g0;replace g1:=AA z.s.1 g1;replace g2:=AA z.s.1 g2;replace g3:=AA z.s.1 g3;replace g4:=AA z.s.1 g4;have m2:=AA z.s.1 i2');go_simp;exact hK (z.s.keep rfl rfl);intros;rfl)));(apply AU.y rfl;intro V L w1 _ _ z hK;go_simp;go_wp2_with((refine(hLk _ (AB hw2 z.s.1)).mono ?_;rintro e w2 ⟨hb,rfl⟩));(try simp only[pE]);exact hK.out _ (z.s.call hb rfl rfl);intros;rfl);(iterate 3((apply AU.z rfl;intro V L w1 _ _ _ z hK;go_simp;exact hK (z.s.keep rfl rfl);intros;rfl)));(apply AU.w rfl;intro V L w1 _ _ _ z hK;go_simp;exact hK rfl (z.s.made rfl z.i _);(try simp only[pE]));(apply AU.val undef (fun _=>rfl);intro V L w1 _ _ hS hi hR' hd hK;have hl:=hd.out (10) (by kernel_rfl);obtain⟨pb,hp,hp0,hp1,hx⟩:=hS.at hl hi;have k0:=hx.c 0 _ rfl;have k1:=hx.c 1 _ rfl;have f0:=hx.f 0 (by decide);have f1:=hx.f 1 (by decide);go_simp;refine hK.out _ _ (by simp only[hp];rfl) (hS.fill hl hp hp0 (by simpa using hp1) ((hS.1.setCell hp0 _).setCell hp0 _) ((hx.set (i:=0) (by simp) _).set (i:=1) (by simp) _) rfl);simp only[Act.put]);(apply AU.z rfl;intro V L w1 _ _ _ z hK;go_simp;exact hK (z.s.keep rfl rfl);intros;rfl);refine AU.nil fun V w5 hS=>?_;obtain⟨pb,hpb,hp0,hp1,hxb⟩:=hS.done rfl rfl;have hb5:=hS.1;simp only[hpb];have x1:=hxb.c 1 _ rfl;have hv5:=hv.same (fun b hb=>hb5.block b (hv.fp b hb).2);clear hS hpb g0 g1 g2 g3 g4 hLk i2' hv;obtain⟨i0,hi,hz0,hz1,hz2⟩:=Cq VW;go_wp2;go_loopw[4,29] (fun u i wr=>∃(q:Nat) (fp:List Nat),q<=c.fs.length/\i=.int .i64 (q:Int)/\AZ wr W.heap.size 34 2 (((c.fs.take q).map (fun v=>Ap v.t)).map C9) u fp/\fp.Nodup/\AA6 W wr) (fun _ i _=>c.fs.length-(intOf i).toNat);exact⟨0,fp,AY,rfl,hv5,hnd,AB hb2 hb5⟩;clear hv5 hnd fp;obtain⟨q,fp,hq,rfl,hv,hnd,hb⟩:=hrel;by_cases hend:q=c.fs.length
   ·subst hend;rw[List.take_length]at hv;go_wp2;go_meet;exact⟨fp,by rw[hm0.out];exact hv,hnd,hb⟩
   ·have hlt:q<c.fs.length:=(by omega);have A8:(q:Int)<c.fs.length:=(by omega);obtain⟨a,rfl,⟨v0,-⟩,v1,-⟩:=hcs q c.fs[q] (by simp[hlt]);have hbw:=AB hw0 hb;replace v0:=AA hbw v0;replace v1:=AA hbw v1;obtain⟨xs,PU⟩:=hv.owns;have hlen:(((c.fs.take q).map (fun v=>Ap v.t)).map C9).length=q:=(by simp;omega);rw[hlen]at PU;have hn:=fun w=>Ju c.fs[q].t w;rw[show∀t:ByteArray,Ending.returned (Value.agg #[.string (F9 t),.int .i64 0])=.returned (Kn (Ap t))from fun t=>by rw[<-I7]]at hn;have hlq:c.fs.take (q+1)=c.fs.take q++[c.fs[q]]:=List.take_succ_eq_append_getElem hlt;generalize hcq:c.fs[q]=cq at*;go_wp2_with fail;refine(hn _).mono ?_;rintro e w7 ⟨rfl,BJ⟩;obtain⟨-,Bp⟩:=BR (w:=wr) (c1:=[.string cq.n,.string cq.t]) (t1:=71) BJ;generalize hvq:Ap cq.t=vq at*;have hx2:=Dh PU Bp (AQ);have hv2:AZ w7 W.heap.size 34 2 (((c.fs.take q).map (fun v=>Ap v.t)).map C9) u4 fp:=hv.same (fun b hb=>Bp.block b (hv.fp b hb).2);have hbz:AA6 W w7:=hb.trans (Bp.mono hb.size);have hB2:=Ae.alloc w7 [.string vq.1,.int .i64 vq.2] 34;have hWz:W.heap.size<=w7.heap.size:=hbz.size;(go_wp2_with(at_builtin;refine wpList_append_own' rfl _ _ 37 rfl W.heap.size 34 i0 _ 2 24 underlying37 hi hz0 hz1 hz2 rfl (by decide) _ q xs rfl (World.ownsRow.alloc hx2 _) ⟨w7.heap.size,0,none⟩ 1 1 [.string vq.1,.int .i64 vq.2] rfl rfl (fun j u hu=>by rw[Dk,Nat.zero_add];exact hB2.c j u hu) (by simp[Value.oneCell']) (by unfold maxLen;omega) (by omega) (by simp;omega) ?_;intro v' w3 ho hg hf));have hv3:AZ (w7.alloc (Obj.cells #[.string vq.1,.int .i64 vq.2] 34)) W.heap.size 34 2 (((c.fs.take q).map (fun v=>Ap v.t)).map C9) u4 fp:=hv2.same (fun b hb=>Below.heap_alloc _ _ _ (hv2.fp b hb).2);obtain⟨fp',k1,k2,-⟩:=AZ.app1 (d:=C9 vq) (w2:=w3) (v':=v') hv3 hnd (by rw[hlen];exact World.ownsRow.alloc hx2 _) hB2 (Tw hB2) (by simp) (by simp) rfl rfl (by rw[hlen];exact ho) hg hf;have hbf:AA6 W w3:=(hbz.alloc hbz.size _).grown hg (by have:=hbz.size;simp;omega) (fun k hk=>(hx2.lt k hk).1);have hfin:(((c.fs.take (q+1)).map (fun v=>Ap v.t)).map C9)=((c.fs.take q).map (fun v=>Ap v.t)).map C9++[C9 vq]:=(by rw[hlq,List.map_append,List.map_append,List.map_singleton,List.map_singleton,hvq]);rw[<-hfin]at k1;go_roundw;exact⟨q+1,fp',by omega,by go_num,k1,k2,hbf⟩;simp[intOf];omega
  ·have hz:((nl:Int)==0)=false:=by
    have:nl≠0:=fun e=>hn0 (hnn.1 e);simp;omega
   have hm0:Em p nm vs=vs:=(by rw[OI.out,if_neg hn0]);replace hm0:=Wx hm0;go_wp2;go_meet;exact⟨fp,by rw[hm0.out];exact hv,hnd,hb2⟩
 obtain⟨fp2,hv2,xk,hb3⟩:=hcut;obtain⟨pu,ku,rfl⟩:=hv2.slice;rw[List.length_map]at hv2⊢;generalize hmv:Em p nm vs=ms at*;clear hvs hb2 hmv;have hw3:=AB hw0 hb3;replace hM:=hM.kp (hb3.mono TQ);replace hI:=hI.nx hb3;replace i2:=hI.c 2 _ rfl;replace Db:=Db.trans (hb3.mono (by have:=Db.size;omega));have hNc:N<=wc.heap.size:=hM.own.sz;have s0:=hM.st;unfold Eh at s0;have s1:=s0.nth 4 rfl (n:=5) (by simp[Dt.DF,Dt.wd,C9,dN,dS]);obtain⟨vt,xs,ct,PU,pt,kt,rfl⟩:=s1.owns;rw[List.length_map]at ct PU;have IW:=s1.OE ct;have hot:=fun k hk=>s1.JI (k:=k) ct hk;have hfz:=hM.Bw 10;have Pk:=hM.own.lt;have A8:=hI.lt;have hsd:wc.drew.heap.size=wc.heap.size:=rfl;generalize hnt:s.heap.length=nt at*;generalize hnm:ms.length=nms at*;have hxd:=Dh PU (Al (w:=wc) 1) (AQ);go_wp2;refine AV (S:=Ad wc.drew B 119 2 10 11 15 [.string nm,.slice pu nms ku] nt xs (.slice pt nt kt) ⟨M,10,none⟩) rfl (by kernel_rfl) (Ad.start (AL)) ?_;iterate 5((apply AU.z rfl;intro V L w1 _ _ _ z hK;go_simp;exact hK (z.s.keep rfl rfl rfl);intros;rfl))
 (apply AU.z rfl;intro V L w1 _ _ _ z hK;(have hI:=z.s.below (z.o 11 (by kernel_rfl));(have c9:=AA hI (show wc.drew.cell? ⟨M,10,none⟩=some (.slice pt nt kt)from ct)));go_simp;exact hK (z.s.keep rfl rfl rfl);intros;rfl);(apply AU.z rfl;intro V L w1 _ _ _ z hK;go_simp;exact hK (z.s.keep rfl rfl rfl);intros;rfl);(apply AU.z rfl;intro V L w1 _ _ _ z hK;((have Fq:=z.s.below (z.r 11 10 (by kernel_rfl) (z.r 10 9 (by kernel_rfl) (z.r 9 7 (by kernel_rfl) z.i)));have hBx:=(hI.drew).below A8 Fq;have b2:=hBx.c 2 _ rfl));go_simp;exact hK (z.s.keep rfl rfl rfl);intros;rfl);iterate 2((apply AU.z rfl;intro V L w1 _ _ _ z hK;go_simp;exact hK (z.s.keep rfl rfl rfl);intros;rfl))
 (apply AU.w rfl;intro V L w1 _ _ _ z hK;go_simp;exact hK rfl (z.s.made (z.o 11 (by kernel_rfl)) rfl _);(try simp only[pE]));(refine AU.free (fun _=>rfl) (fun V L w1 _ _ hS hi hR hd hK=>hS.go hi (hR.out (15) _ (by kernel_rfl) hi) (hd.out (10) (by kernel_rfl)) (aK) (underlying36) (hxd) rfl rfl rfl rfl rfl rfl (by decide) (by simp[Value.oneCell']) (by unfold maxLen;omega) fun v' w' h=>hK.out _ _ rfl h) ?_;(try simp only[pE]));iterate 3((apply AU.z rfl;intro V L w1 _ _ _ z hK;go_simp;exact hK (z.s.keep rfl rfl rfl);intros;rfl))
 (apply AU.val undef (fun _=>rfl);intro V L w1 _ _ hS hi hR hd hK;have ha:=hd.out (11) (by kernel_rfl);(have cs:=hS.cellOf hi (show wc.drew.cell? ⟨M,10,none⟩=some (.slice pt nt kt)from ct) IW;have fs:=hS.EA hi (o:=10) (show M<wc.drew.heap.size from A9 Pk hNc) hfz IW);have hS2:=hS.stored ha hi rfl;obtain⟨pu,ku,CX⟩:=hS.val ha;rw[CX]at hS2;simp only[CX];go_simp;exact hK.out _ _ (by simp only[CX];rfl) hS2;simp only[Act.put]);refine AU.nil fun V w1 hS=>?_;obtain⟨⟨N1,ho⟩,hbel,-,w9,u9,rfl,Y9⟩:=hS.done rfl rfl (s1.kp ((Al (w:=wc) 1).mono hNc)) (AL) ct hxd (by rw[List.length_map,hnt]) (d:=Ld ⟨nm,ms⟩)
  (fun w1 pb b1 _ _ hx=>⟨fp2++[],Af.of (AP.cc (hx.c 0 _ rfl) rfl (AP.cr (hx.c 1 _ rfl) (AZ.mono TQ (hnm▸hv2.same (fun b hb=>b1.block b (hv2.fp b hb).2))) AP.cn)),by simpa using xk⟩) rfl rfl
 have hI1:Ae (w9.setCell ⟨M,5+5,none⟩ u9) w.heap.size [.int .i64 25,.string dst,.string nm,.slice p1 nl c1,.slice p2 l2 c2,.slice p3 l3 c3]:=by
  refine hI.same (hS.far rfl rfl (by omega) (fun e=>?_) A8);have:=hot _ e;omega
 have hH:(w9.setCell ⟨M,5+5,none⟩ u9).heap.size=(w9.setCell ⟨M,5+5,none⟩ u9).heap.size:=rfl;have h1:Am (w9.setCell ⟨M,5+5,none⟩ u9) B N1 M k {s with heap:=s.heap++[⟨nm,ms⟩]} j:=by
  obtain⟨cur,T,e1⟩:=hM.typ;refine⟨?_,Iq (Y9.trans e1) _ _⟩;unfold dM Eh;simpa using ho
 generalize w9.setCell ⟨M,5+5,none⟩ u9=W2 at*;replace Db:Below B w W2:=Db.trans ((Al (w:=wc) 1|>.mono (by omega)).trans hbel);clear hS ho hbel Y9 PU hxd ct s0 s1 hfz IW hI hM hv2 hot xk hH hw3 hb3 hb1 hw0 i2 Cr;obtain⟨-,-,-,-,n14,-⟩:=h1.ns;have fz:=h1.Bw 14;have nE:=h1.UZ (s.allocs+1);have hb1:=Db.trans (h1.low 14 (.int .i64 (s.allocs+1)));have hMI:M≠w.heap.size:=by omega
 have hI2:=hI1.far (q:=⟨M,14,none⟩) hMI (.int .i64 (s.allocs+1));replace n14:W2.cell? ⟨M,14,none⟩=some (.int .i64 s.allocs):=n14;generalize hAl:s.allocs=al at*;go_wp2;generalize W2.setCell ⟨M,14,none⟩ (.int .i64 (al+1))=W3 at*;have Nr:=hb1.size;have AEb:N1<=W3.heap.size:=nE.own.sz;have AGg:=hI2.lt;obtain⟨i0,i1,i2,i3,i4,i5⟩:=hI2.c6;have s0:=nE.st;unfold Eh at s0;have s1:=s0.nth 4 rfl (n:=5) (by simp[Dt.DF,Dt.wd,C9,dN,dS]);obtain⟨vt,xs2,ct,PU,pt2,kt2,rfl⟩:=s1.owns;have hln:((s.heap++[Ob.mk nm ms]).map Ld).length=nt+1:=by simp[hnt]
 rw[hln]at ct;replace ct:W3.cell? ⟨M,10,none⟩=some (.slice pt2 (nt+1) kt2):=ct;have hset:=fun u (hu:AA6 W3 u)=>Co (nE.kp (hu.mono AEb)) (rest:=rest) (x:=x) hfr hl hx 25 dst nm p1 p2 p3 nl l2 l3 c1 c2 c3 (E9,(nt:Int)+1);have AEi:B<=W3.heap.size:=by omega
 refine AO (S:=Ah 9 (fun v=>AA6 W3 v) (fun v=>BI B M k (BP {s with heap:=s.heap++[⟨nm,ms⟩],allocs:=al+1} rest x dst (E9,(nt:Int)+1)) j W3 (.returned (.tuple #[])) v)) rfl (by kernel_rfl) (Ah.start Ac) ?_;(apply Ab.z rfl;intro L w1 _ _ _ z hK;go_simp;exact hK (z.s.pass rfl);rfl);(apply Ab.z rfl;intro L w1 _ _ _ z hK;(have hI:=z.s.1 (z.r 9 1 (by kernel_rfl) z.i);have m0:=AA hI i0;have m1:=AA hI i1;have m2:=AA hI i2;have m3:=AA hI i3;have m4:=AA hI i4;have m5:=AA hI i5);go_simp;exact hK (z.s.pass rfl);rfl);iterate 4((apply Ab.z rfl;intro L w1 _ _ _ z hK;go_simp;exact hK (z.s.pass rfl);rfl))
 (apply Ab.z rfl;intro L w1 _ _ _ z hK;(have hI:=z.s.1 (z.r 9 8 (by kernel_rfl) (z.r 8 7 (by kernel_rfl) (z.r 7 6 (by kernel_rfl) z.i)));have m0:=AA hI ct);go_simp;exact hK (z.s.pass rfl);rfl);iterate 2((apply Ab.z rfl;intro L w1 _ _ _ z hK;go_simp;exact hK (z.s.pass rfl);rfl))
 (apply Ab.y rfl;intro L w1 _ _ z hK;go_simp;go_wp2_with((refine(hset _ (z.s.1 z.i)).mono ?_;rintro e w8 ⟨rfl,hm,hb⟩));(try simp only[pE]);exact hK.out _ (Ah.done ⟨rfl,⟨_,hm⟩,(z.s.1 z.i).mono AEi|>.trans hb⟩);rfl);refine Ab.nil fun w6 H6=>?_;obtain⟨-,hm,hb⟩:=H6.2 rfl;go_wp2;go_end0;exact⟨rfl,hm,hb1.trans hb⟩
def AtU(w:World)(a:Addr)(x:Vu):Prop:=w.cell? a=some (.string x.1)/\At w a 1 (.int .i64 x.2)
theorem vU{g o:Nat}{x:Vu}(h:Af w B (C9 x) g o F):AtU w ⟨g,o,none⟩ x:=by
 obtain⟨_,_,h1,h2⟩:=h.l.hd;obtain⟨_,_,h3,_⟩:=h2.hd;exact⟨h1.c,h3.c⟩
theorem AZ.vus{l:List Vu}{e:TypeId}(h:AZ w B e 2 (l.map C9) v F)(hl:l.length<=140737488351232):Row AtU 2 w v l:=
 h.view (ok:=fun _=>True) (fun _=>rfl) (fun _ _ _ _ _ h=>vU h) hl (fun _ _=>trivial)
theorem AZ.ptr{s n c:Nat}{l:List Dt}{e:TypeId}(h:AZ w B e s l (.slice (some a) n c) F):B<=a.block/\a.block<w.heap.size:=by
 rcases h with⟨h,-⟩|⟨g',cap,cur,f',h,h2,h3,-⟩
 ·simp at h
 grind
structure Apart(w w':World)(m:Nat):Prop where
 b:Below m w w'
 k:∀r,r≠m->r<w.heap.size->w'.heap[r]? =w.heap[r]?
theorem Apart.refl(w:World)(m:Nat):Apart w w m:=⟨AL,fun _ _ _=>rfl⟩
theorem Apart.trans{w2:World}(h:Apart w w1 m)(h2:Apart w1 w2 m):Apart w w2 m:=⟨h.b.trans h2.b,fun r h1 h3=>(h2.k r h1 (A9 h3 h.b.size)).trans (h.k r h1 h3)⟩
theorem Apart.of(hb:AA6 w w')(hm:m<=w.heap.size):Apart w w' m:=⟨hb.mono hm,fun r _ h=>hb.block r h⟩
theorem Apart.set(i:Nat)(v:Value):Apart w (w.setCell ⟨m,i,none⟩ v) m:=⟨(AL).setCell (p:=⟨m,i,none⟩) (AQ) v,fun r h1 _=>Below.heap_setCell _ _ _ _ h1⟩
theorem Apart.cell(h:Apart w w' m)(hc:w.cell? a=some v)(hne:a.block≠m):w'.cell? a=some v:=by
 have:=h.k a.block hne (World.block_lt_of_cell? w _ hc);exact(World.cell?_of_block (w:=w) (w':=w') (a:=a) this).trans hc
theorem ah(a:Addr)(n:Nat):(a.add n).block=a.block:=by unfold Addr.add;split<;>rfl
theorem mP(h:Qd w0 w B N M k s j rest x i p1 c1)(hop:i.op=32)(ha:Row Nj 1 w0 k.av ans)(hsk:0<=s.asked/\s.asked<=1000000) (htr:s.trace.length<=1000000) (hmk:s.marks.length<=1000000):Calls prog 83 #[.pointer (some ⟨M,0,none⟩),.agg #[.int .i64 i.op,.string i.d,.string i.n,.slice p1 i.as.length c1,.slice p2 l2 c2,.slice p3 l3 c3]] w (BI B M k (BP {JN s ⟨i.n,i.as.map (fun a=>(Ar x.vars a).2),(ans[s.asked.toNat]?).getD 0,false⟩with asked:=s.asked+1} rest x i.d (BA,(ans[s.asked.toNat]?).getD 0)) j w):=by
 obtain⟨h0,hA,hM,hfr,hl,hx,hin,hk⟩:=h;rw[hop];generalize hres:(ans[s.asked.toNat]?).getD 0=res at*;replace hres:=Wx hres;obtain⟨hI,hE,hb1⟩:=Ch (w:=w) (c1:=[.int .i64 32,.string i.d,.string i.n,.slice p1 i.as.length c1,.slice p2 l2 c2,.slice p3 l3 c3]) (c2:=[.string i.n,.slice none 0 0,.int .i64 0,.bool false]) (t1:=133) (t2:=59) (AL);have Df:N<=w.heap.size:=hM.own.sz;have hBN:B<=N:=by have:=hM.own.ge;have:=hM.own.lt;omega
 have hal:i.as.map (fun a=>(Ar x.vars a).2)=(i.as.map (Ar x.vars)).map (·.2):=by simp
 rw[hal];generalize i.d=dst at*;generalize i.n=nm at*;go_enter func83,ntmps83;go_wp2_with fail;generalize Cr:World.alloc _ _=W at*;replace hM:=hM.kp (hb1.mono Df);obtain⟨FB,cap,bm,hT,-⟩:=hM.top hfr hl;have hw0:=AB h0 hb1;have i3:=hI.c 3 _ rfl;have TQ:N<=W.heap.size:=hM.own.sz;have Db:Below B w W:=hb1.mono (by omega);have qV:=hE.lt;have hva:=Md hw0 hT hA hk (by omega);refine hva.mono ?_;rintro e w2 ⟨hb2,v,fp,rfl,hv,hnd⟩;obtain⟨pv,kv,rfl⟩:=hv.slice;rw[List.length_map,List.length_map]at hv⊢;generalize hvs:i.as.map (Ar x.vars)=vs at*;have hvl:vs.length=i.as.length:=by rw[<-hvs,List.length_map]
 generalize hnl:i.as.length=nl at*;have hw2:=AB hw0 hb2;have hrow:=hv.vus (by omega);have qP:∀a,pv=some a->W.heap.size<=a.block:=fun a e=>by subst e;exact hv.ptr.1
 obtain⟨pr,cr,he,-,-,hat⟩:=hrow;obtain⟨rfl,rfl,rfl⟩:pv=pr/\nl=vs.length/\kv=cr:=by simpa using he
 have hE2:=hE.nx hb2;obtain⟨i0,hi,hz0,hz1,hz2⟩:=Cq Zx;generalize hpe:w.heap.size+1=pe at*;have hn8:vs.length<=8:=hin;go_wp2;go_loopw[15] (fun i wr=>∃(q:Nat) (u:Value) (fq:List Nat),q<=vs.length/\i=.int .i64 (q:Int)/\Ae wr pe [.string nm,u,.int .i64 0,.bool false]/\AZ wr w2.heap.size 2 1 (((vs.take q).map (·.2)).map dN) u fq/\fq.Nodup/\Apart w2 wr pe) (fun i _=>vs.length-(intOf i).toNat);exact⟨0,_,[],AY,rfl,hE2,.nil,by simp,Apart.refl _ _⟩;obtain⟨q,u,fq,hq,rfl,hEr,hu,hnd,hap⟩:=hrel;have AJO:pe<w2.heap.size:=A9 qV hb2.size;have hbig:=hap.b.size;by_cases hend:q=vs.length
 ·subst hend;rw[List.take_length]at hu;have rC:N<=pe:=by omega
  have Nn:=hM.kp ((hb2.mono TQ).trans (hap.b.mono rC));have gL:Ae wr w.heap.size [.int .i64 32,.string dst,.string nm,.slice p1 vs.length c1,.slice p2 l2 c2,.slice p3 l3 c3]:=(hI.nx hb2).same (hap.k _ (by omega) (hI.nx hb2).lt);have h0r:AA6 w0 wr:=(h0.trans ((hb1.trans (hb2.mono hb1.size)).mono h0.size)).trans (hap.b.mono (by have:=h0.size;omega));have hbr:Below B w wr:=Db.trans ((hb2.mono (by omega)).trans (hap.b.mono (by omega)));obtain⟨pa,ca,hav,-,hln,hai⟩:=ha;obtain⟨-,-,-,-,-,c18,-,-⟩:=Nn.hd;obtain⟨-,-,-,-,-,-,-,c17⟩:=Nn.ns;rw[hav]at c18;obtain⟨na,hna⟩:=Int.eq_ofNat_of_zero_le hsk.1;rw[hna,Int.toNat_natCast]at hres;rw[hna]at c17 hsk;replace hna:=Wx hna;have hqq:∀q,AA6 wr (wr.drewN q):=Al;go_wp2_with fail;go_quiet (fail);go_upto_if 37 with fail;have WK:=hqq nq;replace Nn:=Nn.kp (WK.mono Nn.own.sz);replace gL:=gL.nx WK;replace hEr:=hEr.nx WK;replace hu:AZ (wr.drewN nq) w2.heap.size 2 1 ((vs.map (·.2)).map dN) u fq:=hu.same (fun b hb=>WK.block b (hu.fp b hb).2);replace h0r:=AB h0r WK;replace hbr:=hbr.trans (WK.mono (by have:=hbr.size;omega));replace c17:=AA WK c17;replace c18:=AA WK c18;have hzz:wr.heap.size<=(wr.drewN nq).heap.size:=WK.size;generalize wr.drewN nq=wz at*;obtain⟨pu,cu,rfl⟩:=hu.slice;rw[List.length_map,List.length_map]at hu hEr;go_cut[37]from 38 to 49 (fun _ wx=>Am wx B N M k s j/\Ae wx w.heap.size [.int .i64 32,.string dst,.string nm,.slice p1 vs.length c1,.slice p2 l2 c2,.slice p3 l3 c3]/\Ae wx pe [.string nm,.slice pu vs.length cu,.int .i64 res,.bool false]/\AZ wx w2.heap.size 2 1 ((vs.map (·.2)).map dN) (.slice pu vs.length cu) fq/\Below B w wx)
  ·have wH:=fun(v:World) (hv:∀b,w2.heap.size<=b->b<wz.heap.size->v.heap[b]? =wz.heap[b]?)=>hu.same (w':=v) (fun b hb=>hv b (hu.fp b hb).1 (hu.fp b hb).2);have e2:=hEr.c 2 _ rfl;have f2:=hEr.f 2 (by simp);have hltz:=hEr.lt;by_cases hlt:na<ans.length
   ·have A8:(na:Int)<ans.length:=(by omega);obtain⟨ad,rfl,hz⟩:=hai na ans[na] (by simp[hlt]);have hr2:ans[na]=res:=by
     have:=hres.out;rw[List.getElem?_eq_getElem hlt]at this;exact this
    rw[hr2]at hz;unfold Nj at hz;rw[Nat.mul_one]at hz;replace hz:=AA h0r hz;go_wp2_with fail;rw[decide_eq_true hlt];refine AO (S:=Ah 12 (fun v=>AA6 wz v) (fun v=>∃v0,AA6 wz v0/\v=v0.setCell ⟨pe,2,none⟩ (.int .i64 res))) rfl (by kernel_rfl) (Ah.start Ac) ?_;(iterate 3((apply Ab.z rfl;intro L w1 _ _ _ z hK;go_simp;exact hK (z.s.pass rfl);rfl)));(apply Ab.z rfl;intro L w1 _ _ _ z hK;(have hI:=z.s.1 (z.r 12 3 (by kernel_rfl) z.i);have m0:=AA hI c18);go_simp;exact hK (z.s.pass rfl);rfl);(iterate 4((apply Ab.z rfl;intro L w1 _ _ _ z hK;go_simp;exact hK (z.s.pass rfl);rfl)));(apply Ab.z rfl;intro L w1 _ _ _ z hK;(have hI:=z.s.1 (z.r 12 8 (by kernel_rfl) z.i);have m0:=AA hI c17);go_simp;exact hK (z.s.pass rfl);rfl);(apply Ab.z rfl;intro L w1 _ _ _ z hK;go_simp;exact hK (z.s.pass rfl);rfl);(apply Ab.z rfl;intro L w1 _ _ _ z hK;(have hI:=z.s.1 (z.r 12 10 (by kernel_rfl) z.i);have m0:=AA hI hz);go_simp;exact hK (z.s.pass rfl);rfl);(apply Ab.z rfl;intro L w1 _ _ _ z hK;go_simp;exact hK (z.s.pass rfl);rfl);(refine Ab.step (a1:=?_) rfl (fun L w1 K' Q' hS hi hR hd hK=>?_) ?_ ?_;rotate_left)
    ·have hI:=hS.1 hi;have m2:=AA hI e2;have z2:=(hEr.nx hI).f 2 (by simp);go_simp;exact hK.out _ (Ah.done ⟨_,hI,rfl⟩)
    ·rfl
    refine Ab.nil fun w5 hS5=>?_;obtain⟨v0,hI,rfl⟩:=hS5.2 rfl;go_wp2;go_meet;have jC:∀r,r≠pe->r<wz.heap.size->(v0.setCell ⟨pe,2,none⟩ (.int .i64 res)).heap[r]? =wz.heap[r]? :=fun r h1 h2=>(Below.heap_setCell _ _ _ _ h1).trans (hI.block r h2);have JE:Apart wz (v0.setCell ⟨pe,2,none⟩ (.int .i64 res)) pe:=(Apart.of hI (by omega)).trans (Apart.set 2 _);exact⟨Nn.kp (JE.b.mono rC),gL.same (jC _ (by omega) gL.lt),(hEr.nx hI).set (i:=2) (by simp) _,wH _ (fun b h1 h2=>jC b (by omega) h2),hbr.trans (JE.b.mono (by omega))⟩
   ·have A8:¬(na:Int)<ans.length:=(by omega);have hr2:res=0:=by
     have:=hres.out;rw[List.getElem?_eq_none (by omega)]at this;exact this.symm
    subst hr2;go_wp2;go_meet;exact⟨Nn,gL,hEr,hu,hbr⟩
  obtain⟨Nn,gL,hEr,hu,hbr⟩:=hcut;obtain⟨-,-,-,-,-,-,-,n17⟩:=Nn.ns;rw[hna.out]at n17;have fz:=Nn.Bw 17;have nE:=Nn.Xc ((na:Int)+1);have hb1:=hbr.trans (Nn.low 17 (.int .i64 ((na:Int)+1)));have hMI:M≠w.heap.size:=by have:=Nn.own.lt;omega
  have hMP:M≠pe:=by have:=Nn.own.lt;omega
  have hI2:=gL.far (q:=⟨M,17,none⟩) hMI (.int .i64 ((na:Int)+1));have hE2:=hEr.far (q:=⟨M,17,none⟩) hMP (.int .i64 ((na:Int)+1));have hu2:=hu.same (w':=wc.setCell ⟨M,17,none⟩ (.int .i64 ((na:Int)+1))) (fun b hb=>Below.heap_setCell _ _ _ _ (by have:=(hu.fp b hb).1;have:=Nn.own.lt;show b≠M;omega));obtain⟨e0,e1,e2,e3⟩:=hE2.c4;go_wp2_with fail;have hNh:N<=w2.heap.size:=by omega
  have hse:=Vh nE ⟨nm,vs.map (·.2),res,false⟩ (AZ.mono hNh hu2) hnd htr hmk;refine hse.mono ?_;rintro e w5 ⟨rfl,⟨N5,Yw⟩,BJ,Pn⟩;have TA:=hI2.same (Pn _ Df hI2.lt);have hE5:=hE2.same (Pn _ rC hE2.lt);obtain⟨i0,i1,i2,i3,i4,i5⟩:=TA.c6;replace e2:=hE5.c 2 _ rfl;have Nf:=hb1.trans BJ;have hset:=Co Yw (rest:=rest) (x:=x) hfr hl hx 32 dst nm p1 p2 p3 vs.length l2 l3 c1 c2 c3 (BA,res);have hst:BP (JN {s with asked:=(na:Int)+1} ⟨nm,vs.map (·.2),res,false⟩) rest x dst (BA,res)=BP {JN s ⟨nm,vs.map (·.2),res,false⟩with asked:=s.asked+1} rest x dst (BA,res):=by rw[hna.out];rfl
  rw[hst]at hset;go_wp2_with fail;refine hset.mono ?_;rintro e w6 ⟨rfl,hm,Bp⟩;go_wp2;go_end0;exact⟨rfl,⟨_,by rw[hvs];exact hm⟩,Nf.trans Bp⟩
 ·have hlt:q<vs.length:=by omega
  have A8:(q:Int)<vs.length:=by omega
  obtain⟨a,rfl,v0,v1⟩:=hat q vs[q] (by simp[hlt]);have hab:=qP a rfl;have hne:(a.add (q*2)).block≠pe:=by rw[ah];omega
  replace v0:=hap.cell v0 hne;replace v1:wr.cell? ⟨(a.add (q*2)).block,(a.add (q*2)).off+1,none⟩=_:=hap.cell v1 hne;obtain⟨xs,PU⟩:=hu.owns;have hlen:(((vs.take q).map (·.2)).map dN).length=q:=by simp;omega
  rw[hlen]at PU;have hlq:vs.take (q+1)=vs.take q++[vs[q]]:=List.take_succ_eq_append_getElem hlt;generalize vs[q]=vq at*;obtain⟨e0,e1,e2,e3⟩:(∀o,(wr.alloc o).cell? ⟨pe,0,none⟩=some (.string nm))/\(∀o,(wr.alloc o).cell? ⟨pe,1,none⟩=some u)/\(∀o,(wr.alloc o).cell? ⟨pe,2,none⟩=some (.int .i64 0))/\(∀o,(wr.alloc o).cell? ⟨pe,3,none⟩=some (.bool false)):=⟨fun o=>(hEr.al o).c 0 _ rfl,fun o=>(hEr.al o).c 1 _ rfl,fun o=>(hEr.al o).c 2 _ rfl,fun o=>(hEr.al o).c 3 _ rfl⟩;obtain⟨pu,cu,rfl⟩:=hu.slice;rw[hlen]at hu PU e1 hEr;have AET:=hap.trans (Apart.of (AJ _ (.cells #[.string vq.1,.int .i64 vq.2] 34)) (by omega));have AEh:=hEr.al (.cells #[.string vq.1,.int .i64 vq.2] 34);have hx2:=World.ownsRow.alloc PU (.cells #[.string vq.1,.int .i64 vq.2] 34);have hu2:AZ (wr.alloc (.cells #[.string vq.1,.int .i64 vq.2] 34)) _ _ _ _ _ _:=hu.same (fun b hb=>Below.heap_alloc _ _ _ (hu.fp b hb).2);have xY:(wr.alloc (.cells #[.string vq.1,.int .i64 vq.2] 34)).heap.size=wr.heap.size+1:=by simp
  have hB2:=Ae.alloc (wr.alloc (.cells #[.string vq.1,.int .i64 vq.2] 34)) [.int .i64 vq.2] 2;rw[xY]at hB2;go_wp2_with(at_builtin;refine wpList_append_own' rfl _ _ 28 rfl w2.heap.size 2 i0 _ 1 8 underlying28 hi hz0 hz1 hz2 rfl (by decide) _ q xs rfl (World.ownsRow.alloc hx2 _) ⟨_,0,none⟩ 1 1 [.int .i64 vq.2] rfl rfl (fun j u hu=>by rw[Dk,Nat.zero_add];exact hB2.c j u hu) (by simp[Value.oneCell']) (by unfold maxLen;omega) (by omega) (by simp;omega) ?_;intro v' w3 ho hg hf;obtain⟨N7,Nh,rfl⟩:=Bf ho;(have rD:=(AEh.al (.cells #[.int .i64 vq.2] 2)).same (hg.block pe (by simp;omega) (fun e=>by have:=(hx2.lt pe e.symm).1;omega));have j1:=rD.c 1 _ rfl;have z1:=rD.f 1 (by simp)))
  have hu3:AZ ((wr.alloc (.cells #[.string vq.1,.int .i64 vq.2] 34)).alloc (.cells #[.int .i64 vq.2] 2)) w2.heap.size 2 1 (((vs.take q).map (·.2)).map dN) (.slice pu q cu) fq:=hu2.same (fun b hb=>Below.heap_alloc _ _ _ (hu2.fp b hb).2);obtain⟨fp',k1,k2,-⟩:=AZ.app1 (d:=dN vq.2) (w2:=w3) hu3 hnd (by rw[hlen];exact World.ownsRow.alloc hx2 _) hB2 (fd:=[]) (by unfold dN Af;exact⟨hB2.c 0 _ rfl,rfl,rfl⟩) (by simp) (by simp) rfl rfl (by rw[hlen];exact ho) hg hf;have Zd:Apart w2 w3 pe:=by
   have h1:=AET.trans (Apart.of (AJ _ (.cells #[.int .i64 vq.2] 2)) (by omega));refine⟨h1.b.grown hg (by simp;omega) (fun k hk=>by have:=(hx2.lt k hk).1;omega),fun r h2 h3=>(hg.block r (by simp;omega) (fun e=>?_)).trans (h1.k r h2 h3)⟩;have:=(hx2.lt r e.symm).1;omega
  have AES:=Zd.trans (Apart.set 1 (.slice N7 (q+1) Nh));have AEg:=rD.set (i:=1) (by simp) (.slice N7 (q+1) Nh);have k3:=k1.same (w':=w3.setCell ⟨pe,1,none⟩ (.slice N7 (q+1) Nh)) (fun b hb=>Below.heap_setCell _ _ _ _ (by have:=(k1.fp b hb).1;show b≠pe;omega));have hfin:(((vs.take (q+1)).map (·.2)).map dN)=((vs.take q).map (·.2)).map dN++[dN vq.2]:=by rw[hlq,List.map_append,List.map_append,List.map_singleton,List.map_singleton]
  rw[<-hfin]at k3;go_wp2;go_roundw;exact⟨q+1,_,fp',by omega,by go_num,AEg,k3,k2,AES⟩;simp[intOf];omega
theorem aL:(prog.info? 84).map (fun i=>(i.zero,i.size,i.bytes))=some (some (.agg #[.string .empty,.string .empty,.int .i64 0,.map none]),4,48):=by kernel_rfl
theorem Apart.blk(hm:m<w.heap.size)(o:Obj):Apart w (Dx w m o) m:=
 ⟨(Below.refl m w).grown (Hz w m o) (Nat.le_of_lt hm) (fun k hk=>by cases hk;exact AQ),fun _ h _=>I4 o h⟩
theorem Apart.box{p:Nat}{cs:List Value}(h:Apart w w' m)(hb:Ae w p (v::cs))(hne:p≠m):Ae w' p (v::cs):=hb.same (h.k p hne hb.lt)
theorem fZ(h:Qd w0 w B N M k s j rest x i p1 c1)(hop:i.op=31)(hp:Cj w0 (.agg #[k.u0,k.u1,k.u2,k.u3,k.u4]) p k.u1 k.u2 k.u3 k.u4){g:Fn} {f1 f2 f3:Value} (hsel:Zo w0 k.u4 p.fs i.n g f1 f2 f3) (hvf:EL w0 (.agg #[.string g.n,.string g.r,f1,f2,f3]) g f1 f2 f3) {b0:Bk} {br:List Bk} (hbs:g.bs=b0::br) {m1:Vm} (hbind:bindM g.ps (i.as.map (Ar x.vars)) []=some m1) (hfl:s.frames.length<=1000000):Calls prog 82 #[.pointer (some ⟨M,0,none⟩),.agg #[.int .i64 i.op,.string i.d,.string i.n,.slice p1 i.as.length c1,.slice p2 l2 c2,.slice p3 l3 c3]] w (BI B M k {s with frames:=rest++[x]++[⟨i.n,b0.n,0,m1⟩]} j w):=by
 obtain⟨h0,hA,hM,hfr,hl,hx,hin,hk⟩:=h;rw[hop];obtain⟨hI,hb1⟩:=BR (w:=w) (c1:=[.int .i64 31,.string i.d,.string i.n,.slice p1 i.as.length c1,.slice p2 l2 c2,.slice p3 l3 c3]) (t1:=133) (AL);have Df:N<=w.heap.size:=hM.own.sz;have hBN:B<=N:=by have:=hM.own.ge;have:=hM.own.lt;omega
 have hLk:=fun v (hw:AA6 w0 v)=>Kh hw hp i.n hsel hvf;obtain⟨NY,Nb,rfl,-,hn1,hps⟩:=hvf.p;obtain⟨NW,Na,rfl⟩:=hvf.v.slice;obtain⟨uq,Yr,rfl,-,QY,hbk⟩:=hvf.b;obtain⟨a3,rfl,⟨d0,-⟩,-⟩:=hbk 0 b0 (by rw[hbs];rfl);obtain⟨n3,qR,ADm,ADn⟩:∃n3:Nat,g.bs.length=n3/\0<n3/\(0:Int)<n3:=⟨_,rfl,by rw[hbs];simp,by rw[hbs];simp⟩;rw[qR]at hLk;generalize i.d=dst at*;generalize i.n=nm at*;obtain⟨g0,g1,g2,g3,g4,-⟩:=(hM.kp (hb1.mono Df)).hd;replace hbind:=Wx hbind;replace d0:w0.cell? a3=some (.string b0.n):=d0;generalize hgn:g.n=gn at*;generalize hgr:g.r=gr at*;obtain⟨np,hnp⟩:∃np:Nat,Hid (g.ps.length=np):=⟨_,Wx rfl⟩;rw[hnp.out]at hn1 hLk;generalize nC:g.vs.length=nv at*;generalize hbn:b0.n=bn at*;go_enter func82,ntmps82;generalize Cr:w.alloc (.cells #[.int .i64 31,.string dst,.string nm,.slice p1 i.as.length c1,.slice p2 l2 c2,.slice p3 l3 c3] 133)=W at*;replace hM:=hM.kp (hb1.mono Df);obtain⟨FB,cap,bm,hT,-⟩:=hM.top hfr hl;have hw0:=AB h0 hb1;obtain⟨-,-,i2,i3⟩:=hI.c4;have TQ:N<=W.heap.size:=hM.own.sz;have Db:Below B w W:=hb1.mono (by omega);go_wp2;refine AV (S:=Ck W 10 11 [.string ⟨#[]⟩,.string ⟨#[]⟩,.slice none 0 0,.slice none 0 0,.slice none 0 0] [.string gn,.string gr,.slice NY np Nb,.slice NW nv Na,.slice (some a3) n3 Yr]) rfl (by kernel_rfl) (Ck.start Ac) ?_;iterate 6((apply AU.z rfl;intro V L w1 _ _ _ z hK;(replace g0:=AA z.s.1 g0;replace g1:=AA z.s.1 g1;replace g2:=AA z.s.1 g2;replace g3:=AA z.s.1 g3;replace g4:=AA z.s.1 g4;have m2:=AA z.s.1 i2);go_simp;exact hK (z.s.keep rfl rfl);intros;rfl))
 (apply AU.y rfl;intro V L w1 _ _ z hK;go_simp;go_wp2_with((refine(hLk _ (AB hw0 z.s.1)).mono ?_;rintro e w2 ⟨hb,rfl⟩));(try simp only[pE]);exact hK.out _ (z.s.call hb rfl rfl);intros;rfl);iterate 3((apply AU.z rfl;intro V L w1 _ _ _ z hK;go_simp;exact hK (z.s.keep rfl rfl);intros;rfl))
 (apply AU.w rfl;intro V L w1 _ _ _ z hK;go_simp;exact hK rfl (z.s.made rfl z.i _);(try simp only[pE]));refine AU.val undef (fun _=>rfl) (fun V L w1 K' Q' hS hi hR' hd hK=>?_) ?_
 ·have hl:=hd.out 10 (by kernel_rfl);obtain⟨pb,hp,hp0,hp1,hx⟩:=hS.at hl hi;obtain⟨k0,k1,k2,k3,k4⟩:=hx.c5;obtain⟨f0,f1,f2,f3,f4⟩:=hx.f5;go_simp;exact hK.out _ _ (by simp only[hp];rfl) (hS.fill hl hp hp0 (by first|(rw[DK];exact hp1)|simpa using hp1) (hS.1.trans (Ay hp0 [.string gn,.string gr,.slice NY np Nb,.slice NW nv Na,.slice (some a3) n3 Yr] 0 w1)) (CK [.string gn,.string gr,.slice NY np Nb,.slice NW nv Na,.slice (some a3) n3 Yr] _ 0 w1 hx rfl) rfl)
 simp only[Act.put];(apply AU.z rfl;intro V L w1 _ _ _ z hK;go_simp;exact hK (z.s.keep rfl rfl);intros;rfl);refine AU.nil fun V w2 hS=>?_;obtain⟨pb,hpb,hp0,hp1,hxb⟩:=hS.done rfl rfl;have hb2:=hS.1;simp only[hpb];have hmm:= @run_makeMap prog;have Wo:=CQ.made (w:=w2) (clock:=0);have pO:=AJ w2 (.map #[] 0);have ADh:(w2.alloc (.map #[] 0)).heap.size=w2.heap.size+1:=by simp
 generalize hW3:w2.alloc (.map #[] 0)=W3 at*;have hb3:=AB hb2 pO;have gN:=AB hw0 hb3;replace i3:=AA hb3 i3;have hva:=Md gN (hT.kp hb3) hA hk (by omega);replace hxb:=hxb.nx pO;go_wp2_with fail;refine hva.mono ?_;rintro e w4 ⟨hb4,v,fp,rfl,hv,hnd⟩;obtain⟨pv,kv,rfl⟩:=hv.slice;rw[List.length_map,List.length_map]at hv⊢;generalize hvs:i.as.map (Ar x.vars)=vs at*;have hvl:vs.length=i.as.length:=by rw[<-hvs,List.length_map]
 generalize hnl:i.as.length=nl at*;have TB:=AB gN hb4;have qP:∀a,pv=some a->W3.heap.size<=a.block:=fun a e=>by subst e;exact hv.ptr.1
 obtain⟨pr,cr,he,-,-,hat⟩:=hv.vus (by omega);obtain⟨rfl,rfl,rfl⟩:pv=pr/\nl=vs.length/\kv=cr:=by simpa using he
 have hn8:vs.length<=8:=hin;have t1:=underlying69;have t2:=underlying9;replace hxb:=hxb.nx hb4;have hI4:=hI.nx (AB hb3 hb4);have hM4:=hM.kp ((AB hb3 hb4).mono TQ);have Po:=Db.trans ((AB hb3 hb4).mono (by omega));replace Wo:=Wo.other (hb4.block w2.heap.size (by omega));have hbb:w2.heap.size<w4.heap.size:=Wo.lt;have AJn:w2.heap.size<W3.heap.size:=by omega
 have hpb:pb≠w2.heap.size:=by omega
 have Fq:w.heap.size≠w2.heap.size:=by have:=hb2.size;have:=hI.lt;omega
 have yO:W.heap.size<=w2.heap.size:=hb2.size;have h0b:w0.heap.size<=w2.heap.size:=AX hw0.size yO;generalize hbe:w2.heap.size=b at*;replace hvs:=Wx hvs;go_wp2;go_loopw[25] (fun i wr=>∃(q:Nat) (mq:Vm),q<=vs.length/\i=.int .i64 (q:Int)/\CQ wr b mq/\Hid (bindM (g.ps.drop q) (vs.drop q) mq=some m1)/\Apart w4 wr b) (fun i _=>vs.length-(intOf i).toNat);exact⟨0,[],AY,rfl,Wo,hbind,Apart.refl _ _⟩;obtain⟨q,mq,hq,rfl,Yu,hbi,hap⟩:=hrel;have hbig:=hap.b.size;by_cases hend:q=vs.length
 ·subst hend;obtain rfl:m1=mq:=by
   have:=hbi.out;rw[List.drop_length]at this;unfold bindM at this;injection this with this;exact this.symm
  have hNb:N<=b:=by omega
  have Nn:=hM4.kp (hap.b.mono hNb);have gL:=hap.box hI4 Fq;have Kq:=hap.box hxb hpb;have hbr:=Po.trans (hap.b.mono (by omega));have hd0:=hap.cell (AA TB d0) (show a3.block≠b by have:=World.block_lt_of_cell? w0 _ d0;omega);generalize wr=wc at*;have hNc:N<=wc.heap.size:=Nn.own.sz;have s0:=Nn.st;unfold Eh at s0;have s1:=s0.nth 3 rfl (n:=4) (by simp[Dt.DF,Dt.wd,C9,dN,dS]);obtain⟨vt,xs,ct,PU,pt,kt,rfl⟩:=s1.owns;rw[List.length_map]at ct PU;have IW:=s1.OE ct;have hot:=fun k hk=>s1.JI (k:=k) ct hk;have hfz:=Nn.Bw 9;have Pk:=Nn.own.lt;have A8:=gL.lt;have yB:=Kq.lt;have hsd:wc.drew.heap.size=wc.heap.size:=rfl;generalize hnt:s.frames.length=nt at*;have hxd:=Dh PU (Al (w:=wc) 1) (AQ);go_wp2;refine AV (S:=Ad wc.drew B 84 4 15 16 20 [.string nm,.string bn,.int .i64 0,.map (some b)] nt xs (.slice pt nt kt) ⟨M,9,none⟩) rfl (by kernel_rfl) (Ad.start (AL)) ?_;iterate 5((apply AU.z rfl;intro V L w1 _ _ _ z hK;go_simp;exact hK (z.s.keep rfl rfl rfl);intros;rfl))
  (apply AU.z rfl;intro V L w1 _ _ _ z hK;(have hI:=z.s.below (z.o 16 (by kernel_rfl));(have c9:=AA hI (show wc.drew.cell? ⟨M,9,none⟩=some (.slice pt nt kt)from ct)));go_simp;exact hK (z.s.keep rfl rfl rfl);intros;rfl);(apply AU.z rfl;intro V L w1 _ _ _ z hK;go_simp;exact hK (z.s.keep rfl rfl rfl);intros;rfl);(apply AU.z rfl;intro V L w1 _ _ _ z hK;((have Fq:=z.s.below (z.r 16 15 (by kernel_rfl) (z.r 15 14 (by kernel_rfl) (z.r 14 7 (by kernel_rfl) z.i)));have hBx:=(gL.drew).below A8 Fq;have b2:=hBx.c 2 _ rfl));go_simp;exact hK (z.s.keep rfl rfl rfl);intros;rfl);(apply AU.z rfl;intro V L w1 _ _ _ z hK;go_simp;exact hK (z.s.keep rfl rfl rfl);intros;rfl);(apply AU.z rfl;intro V L w1 _ _ _ z hK;((have Fq:=z.s.below (z.r 16 15 (by kernel_rfl) (z.r 15 14 (by kernel_rfl) (z.r 14 12 (by kernel_rfl) (z.r 12 11 (by kernel_rfl) (z.r 11 10 (by kernel_rfl) (z.r 10 9 (by kernel_rfl) z.i))))));have hBx:=(Kq.drew).below yB Fq;have b4:=hBx.c 4 _ rfl));go_simp;exact hK (z.s.keep rfl rfl rfl);intros;rfl);iterate 2((apply AU.z rfl;intro V L w1 _ _ _ z hK;go_simp;exact hK (z.s.keep rfl rfl rfl);intros;rfl))
  (apply AU.z rfl;intro V L w1 _ _ _ z hK;((have Fq:=z.s.below (z.r 16 15 (by kernel_rfl) (z.r 15 14 (by kernel_rfl) (z.r 14 12 (by kernel_rfl) z.i)));have b4:=AA Fq (show wc.drew.cell? a3=some (.string bn)from hd0)));go_simp;exact hK (z.s.keep rfl rfl rfl);intros;rfl);iterate 2((apply AU.z rfl;intro V L w1 _ _ _ z hK;go_simp;exact hK (z.s.keep rfl rfl rfl);intros;rfl))
  (apply AU.w rfl;intro V L w1 _ _ _ z hK;go_simp;exact hK rfl (z.s.made (z.o 16 (by kernel_rfl)) rfl _);(try simp only[pE]));(refine AU.free (fun _=>rfl) (fun V L w1 _ _ hS hi hR hd hK=>hS.go hi (hR.out (20) _ (by kernel_rfl) hi) (hd.out (15) (by kernel_rfl)) (aL) (underlying35) (hxd) rfl rfl rfl rfl rfl rfl (by decide) (by simp[Value.oneCell']) (by unfold maxLen;omega) fun v' w' h=>hK.out _ _ rfl h) ?_;(try simp only[pE]));iterate 3((apply AU.z rfl;intro V L w1 _ _ _ z hK;go_simp;exact hK (z.s.keep rfl rfl rfl);intros;rfl))
  (apply AU.val undef (fun _=>rfl);intro V L w1 _ _ hS hi hR hd hK;have ha:=hd.out (16) (by kernel_rfl);(have cs:=hS.cellOf hi (show wc.drew.cell? ⟨M,9,none⟩=some (.slice pt nt kt)from ct) IW;have fs:=hS.EA hi (o:=9) (show M<wc.drew.heap.size from A9 Pk hNc) hfz IW);have hS2:=hS.stored ha hi rfl;obtain⟨pu,ku,CX⟩:=hS.val ha;rw[CX]at hS2;simp only[CX];go_simp;exact hK.out _ _ (by simp only[CX];rfl) hS2;simp only[Act.put]);refine AU.nil fun V w1 hS=>?_;obtain⟨⟨N1,ho⟩,hbel,-,w9,u9,rfl,Y9⟩:=hS.done rfl rfl (s1.kp ((Al (w:=wc) 1).mono hNc)) (AL) ct hxd (by rw[List.length_map,hnt]) (d:=Kw ⟨nm,bn,0,m1⟩)
   (fun w1 pb b1 _ _ hx=>⟨[b]++[],Af.of (AP.cc (hx.c 0 _ rfl) rfl (AP.cc (hx.c 1 _ rfl) rfl (AP.cc (hx.c 2 _ rfl) rfl (AP.cm (hx.c 3 _ rfl) hNb (Yu.other (b1.block b Yu.lt)) AP.cn)))),by simp⟩) rfl rfl
  have h1:Am (w9.setCell ⟨M,5+4,none⟩ u9) B N1 M k {s with frames:=rest++[x]++[⟨nm,bn,0,m1⟩]} j:=by
   obtain⟨cur,T,e1⟩:=Nn.typ;refine⟨?_,Iq (Y9.trans e1) _ _⟩;unfold dM Eh;rw[<-hfr];simpa using ho
  generalize w9.setCell ⟨M,5+4,none⟩ u9=W2 at*;have Nf:=hbr.trans ((Al (w:=wc) 1|>.mono (by omega)).trans hbel);go_wp2;go_end0;exact⟨rfl,⟨_,h1⟩,Nf⟩
 ·have hlt:q<vs.length:=by omega
  have A8:(q:Int)<vs.length:=by omega
  obtain⟨a,rfl,v0,v1⟩:=hat q vs[q] (by simp[hlt]);have hab:=qP a rfl;have hne:(a.add (q*2)).block≠b:=by rw[ah];omega
  replace v0:=hap.cell v0 hne;replace v1:wr.cell? ⟨(a.add (q*2)).block,(a.add (q*2)).off+1,none⟩=_:=hap.cell v1 hne;have Qg:=hbi.out;rw[List.drop_eq_getElem_cons hlt]at Qg;have hqp:q<g.ps.length:=by
   rcases Nat.lt_or_ge q g.ps.length with h|h
   ·exact h
   ·rw[List.drop_eq_nil_of_le h]at Qg;unfold bindM at Qg;cases Qg
  rw[List.drop_eq_getElem_cons hqp]at Qg;unfold bindM at Qg;obtain⟨ap,rfl,⟨d1,-⟩,-⟩:=hps q g.ps[q] (by simp[hqp]);have hbp:=World.block_lt_of_cell? w0 _ d1;have hne2:(ap.add (q*2)).block≠b:=fun e=>by rw[e]at hbp;omega
  replace d1:=hap.cell (AA TB d1) hne2;have nA:(q:Int)<np:=by have:=hnp.out;omega
  replace Qg:=Wx Qg;have Kq:=hap.box hxb hpb;have hltx:=Kq.lt;generalize vs[q]=vq at*;generalize g.ps[q]=pq at*;have xY:∀o,(wr.alloc o).heap.size=wr.heap.size+1:=fun o=>by simp
  obtain⟨vK,hb5⟩:=BR (w:=wr) (c1:=[.string vq.1,.int .i64 vq.2]) (t1:=34) (AL);have ADb:=Kq.nx hb5;have yA:=Yu.other (hb5.block b Yu.lt);have JE:=hap.trans (Apart.of hb5 (by omega));have d5:=AA hb5 d1;go_wp2;generalize pR:wr.alloc (.cells #[.string vq.1,.int .i64 vq.2] 34)=W5 at*;have x2:=ADb.c 2 _ rfl;obtain⟨v0',v1'⟩:=vK.c2;refine AO (S:=Ah 8 (fun v'=>AA6 W5 v') (fun v'=>∃v0 o2,AA6 W5 v0/\v'=Dx v0 b o2/\CQ v' b (Ei mq pq.n vq))) rfl (by kernel_rfl) (Ah.start Ac) ?_;iterate 2((apply Ab.z rfl;intro L w1 _ _ _ z hK;go_simp;exact hK (z.s.pass rfl);rfl))
  (apply Ab.z rfl;intro L w1 _ _ _ z hK;(have hI:=z.s.1 (z.r 8 2 (by kernel_rfl) z.i);have m0:=AA hI x2);go_simp;exact hK (z.s.pass rfl);rfl);iterate 3((apply Ab.z rfl;intro L w1 _ _ _ z hK;go_simp;exact hK (z.s.pass rfl);rfl))
  (apply Ab.z rfl;intro L w1 _ _ _ z hK;(have hI:=z.s.1 (z.r 8 6 (by kernel_rfl) z.i);have m0:=AA hI d5);go_simp;exact hK (z.s.pass rfl);rfl);(apply Ab.z rfl;intro L w1 _ _ _ z hK;(have hI:=z.s.1 (z.r 8 7 (by kernel_rfl) z.i);have m0:=AA hI v0';have m1:=AA hI v1');go_simp;exact hK (z.s.pass rfl);rfl);(refine Ab.step (a1:=?_) rfl (fun L w1 K' Q' hS hi hR hd hK=>?_) ?_ ?_;rotate_left)
  ·have hI:=hS.1 hi;obtain⟨o2,ho,hm2⟩:=Mi t1 t2 (yA.other (hI.block b yA.lt)) pq.n vq;go_simp;exact hK.out _ (Ah.done ⟨_,o2,hI,rfl,hm2⟩)
  ·rfl
  refine Ab.nil fun w6 H6=>?_;obtain⟨v0,o2,hI,rfl,hm2⟩:=H6.2 rfl;have AER:=(JE.trans (Apart.of hI (by have:=JE.b.size;omega))).trans (Apart.blk (m:=b) (by have:=hI.size;have:=JE.b.size;omega) o2);go_wp2;go_roundw;exact⟨q+1,_,by omega,by go_num,hm2,Qg,AER⟩;simp[intOf];omega
section
open Num Dp
structure Env(w0:World)(B:Nat)(k:Hd)(p:Pg)(ans fails:List Int):Prop where
 vp:Cj w0 (.agg #[k.u0,k.u1,k.u2,k.u3,k.u4]) p k.u1 k.u2 k.u3 k.u4
 an:Row Nj 1 w0 k.av ans
 fa:Row Nj 1 w0 k.fv fails
 b0:w0.heap.size<=B
 good:DJ p
 nx:KO p
 rng:Zp p
 ra:∀n∈ans,Bo n
 cl:∀c∈p.cs,c.fs.length<=4000
 gl:p.gs.length<=4000
 bl:∀f∈p.fs,∀b∈f.bs,b.cs.length<=100000
structure Small(s:St):Prop where
 fr:s.frames.length<=1000000
 hp:s.heap.length<=1000000
 gl:s.globals.length<=4000
 tr:s.trace.length<=1000000
 Lc:s.marks.length<=1000000
 al:0<=s.allocs/\s.allocs<=1000000
 gu:0<=s.guards/\s.guards<=1000000
 ak:0<=s.asked/\s.asked<=1000000
theorem Qd.up(h:Qd w0 w B N M k s j rest x i p1 c1)(hb:AA6 w w1):Qd w0 w1 B N M k s j rest x i p1 c1:=
 ⟨AB h.h0 hb,h.a,h.m.kp (hb.mono h.m.own.sz),h.fr,h.l,h.x,h.n,h.k⟩
theorem BI.of{e:Ending}(hb:Below B w w1)(h:BI B M k s j w1 e w'):e=.returned (.tuple #[])/\((∃N',Am w' B N' M k s j)/\Below B w w'):=⟨h.1,h.2.1,hb.trans h.2.2⟩
theorem OT{a:Ag}{t:ByteArray}(h:GJ f a=some t):NZ a:=by
 unfold GJ at h;grind
theorem SC:∀{l:List Ag} {ts:List ByteArray},DU f l=some ts->∀a∈l,NZ a:=fun h a ha=>by
 obtain⟨k,hk⟩:=List.mem_iff_getElem?.1 ha;obtain⟨t,-,ht⟩:=Gh h k a hk;exact OT ht
theorem YK(hE:Env w0 B k p ans fails)(h:Qd w0 w B N M k s j rest x i p1 c1)(hz:Small s)(hw:WT p s)(hr:Ga s) (hib:Di p f i=true) (hdst:RP i) (wI:rP i) (hs:Bq p ans fails s rest x i=some t):Calls prog 53 #[.pointer (some ⟨M,0,none⟩),.agg #[.int .i64 i.op,.string i.d,.string i.n,.slice p1 i.as.length c1,.slice p2 l2 c2,.slice p3 l3 c3]] w (BI B M k t j w):=by
 have hb1:=AJ w (.cells #[.int .i64 i.op,.string i.d,.string i.n,.slice p1 i.as.length c1,.slice p2 l2 c2,.slice p3 l3 c3] 133);have hu:=h.up hb1;have hBw:Below B w (w.alloc (.cells #[.int .i64 i.op,.string i.d,.string i.n,.slice p1 i.as.length c1,.slice p2 l2 c2,.slice p3 l3 c3] 133)):=hb1.mono (by have:=h.m.own.ge;have:=h.m.own.lt;have:=h.m.own.sz;omega);obtain⟨fm,d,l,hfo,hlen,hd,xW,hll,hq⟩:=Gx hib;have hx0:=hr.fr x (by rw[h.fr];simp);have hvl:∀{o:Vu} {y:ByteArray} {fr:Nat×ByteArray×List Vu×Nat×Vu},fieldAt p s o y=some fr->fr.2.2.1.length<=1000000:=fun hf=>by
  obtain⟨ob,cl,-,-,Nc,-,hov,hcl,-,-⟩:=GR hf;obtain⟨c,h1,h2,-⟩:=hw.heap ob (List.mem_of_getElem? Nc);rw[<-hov,h2];have:=hE.cl c (Ak h1).1;omega
 unfold Bq at hs;by_cases ZG:i.op=25
 ·rw[if_pos ZG]at hs;injection hs with hs;subst hs;have hmd:Kz p i d l=true:=by
   unfold Av BX at hq;rw[ZG]at hq;simpa using hq
  unfold Kz at hmd
  cases hc:Ai Cl.n i.n p.cs with
  |none=>rw[hc]at hmd;cases hmd
  |some c=>
   obtain⟨uc,hsel,Sw⟩:=Vf hE.vp.c hc;have:=dX (p2:=p2) (p3:=p3) (l2:=l2) (c2:=c2) (l3:=l3) (c3:=c3) hu ZG hE.vp hc hsel Sw (hE.cl c (Ak hc).1) hz.hp hz.al;rw[ZG]at this hBw⊢;exact jh (this.mono fun _ _ h=>BI.of hBw h)
 rw[if_neg ZG]at hs;by_cases iM:i.op=29
 ·rw[if_pos iM]at hs;split at hs
  ·cases hs
  rename_i q hq2
  split at hs
  ·cases hs
  rename_i v hv
  injection hs with hs;subst hs;have:=YT (i:=i) (p1:=p1) (p2:=p2) (p3:=p3) (l1:=i.as.length) (c1:=c1) (l2:=l2) (c2:=c2) (l3:=l3) (c3:=c3) hu.h0 hu.m hu.fr hu.l hu.x (by omega) hE.vp hq2 hv (by have:=hz.gl;omega);rw[iM]at this hBw⊢;exact AB1 (this.mono fun _ _ h=>BI.of hBw h)
 rw[if_neg iM]at hs;by_cases c31:i.op=31
 ·rw[if_pos c31]at hs;split at hs
  ·cases hs
  rename_i g hg
  split at hs
  ·cases hs
  rename_i b0 br hbs
  split at hs
  ·cases hs
  rename_i m1 hm1
  injection hs with hs;subst hs;obtain⟨f1,f2,f3,hsel,hvf⟩:=QD hE.vp.f hg;have:=fZ (p2:=p2) (p3:=p3) (l2:=l2) (c2:=c2) (l3:=l3) (c3:=c3) hu c31 hE.vp hsel hvf hbs hm1 hz.fr;rw[c31]at this hBw⊢;exact ji (this.mono fun _ _ h=>BI.of hBw h)
 rw[if_neg c31]at hs;by_cases c32:i.op=32
 ·rw[if_pos c32]at hs;injection hs with hs;subst hs;have:=mP (p2:=p2) (p3:=p3) (l2:=l2) (c2:=c2) (l3:=l3) (c3:=c3) hu c32 hE.an hz.ak hz.tr hz.Lc;rw[c32]at this hBw⊢;exact rX (this.mono fun _ _ h=>BI.of hBw h)
 rw[if_neg c32]at hs;have iy:fm.d=false->i.d=Bv:=fun h=>Jl hdst hfo h;have FJ:=Mx hfo;by_cases c34:i.op=34
 ·rw[if_pos c34]at hs;have hd0:i.d=Bv:=iy (by rw[FJ,c34];decide);have:=YR (i:=i) (p1:=p1) (p2:=p2) (p3:=p3) (l1:=i.as.length) (c1:=c1) (l2:=l2) (c2:=c2) (l3:=l3) (c3:=c3) hu.h0 hu.m hu.fr hu.l hu.x hd0 hE.fa (by have:=hz.gu;omega) hE.b0;have ht:(if s.guards∈fails then{s with guards:=s.guards+1,status:=4}else BP {s with guards:=s.guards+1} rest x i.d (Bv,0))=t:=by
   unfold TU at hs;rw[if_pos hd0]at hs;split at hs<;>(injection hs with hs)
   ·rw[if_pos ‹_›];exact hs
   ·rw[if_neg ‹_›];exact hs
  rw[ht]at this;rw[c34]at this hBw⊢;exact AB0 (this.mono fun _ _ h=>BI.of hBw h)
 rw[if_neg c34]at hs;split at hs
 ·cases hs
 rename_i a r has
 have goT:∀{s':St},i.d=Bv->TU s' rest x i.d=some t->BP s' rest x i.d (Bv,0)=t:=fun hd h=>by
  unfold TU at h;rw[if_pos hd]at h;injection h
 by_cases iN:i.op=22
 ·rw[if_pos iN]at hs;injection hs with hs;subst hs;exact Yi h has iN
 rw[if_neg iN]at hs;by_cases c23:i.op=23
 ·rw[if_pos c23]at hs;injection hs with hs;subst hs;exact Yj h has c23 (Me hx0 (wI a (by rw[has];simp)))
 rw[if_neg c23]at hs;by_cases c24:i.op=24
 ·rw[if_pos c24]at hs;injection hs with hs;subst hs;exact fV h has c24
 rw[if_neg c24]at hs;by_cases gT:i.op=26
 ·rw[if_pos gT]at hs;split at hs
  ·rename_i h0
   injection hs with hs;subst hs;have:=LK (p2:=p2) (p3:=p3) (l2:=l2) (c2:=c2) (l3:=l3) (c3:=c3) hu has h0 hz.hp;rw[gT]at this hBw⊢;exact Vb (this.mono fun _ _ h=>BI.of hBw h)
  split at hs
  ·cases hs
  rename_i q hq2
  injection hs with hs;subst hs;have:=Sv (p2:=p2) (p3:=p3) (l2:=l2) (c2:=c2) (l3:=l3) (c3:=c3) hu has (by omega) hE.vp hq2 hz.hp (hvl hq2);rw[gT]at this hBw⊢;exact Vb (this.mono fun _ _ h=>BI.of hBw h)
 rw[if_neg gT]at hs;by_cases ZF:i.op=30
 ·rw[if_pos ZF]at hs;split at hs
  ·cases hs
  rename_i q hq2
  split at hs
  ·cases hs
  rename_i v hv
  have hd0:i.d=Bv:=iy (by rw[FJ,ZF];decide);have ht:=goT hd0 hs;have:=U4 (p2:=p2) (p3:=p3) (l2:=l2) (c2:=c2) (l3:=l3) (c3:=c3) hu has ZF hd0 hE.vp hq2 hv (by have:=hz.gl;omega);rw[ht]at this;rw[ZF]at this hBw⊢;exact XM (this.mono fun _ _ h=>BI.of hBw h)
 rw[if_neg ZF]at hs;by_cases gQ:i.op=33
 ·rw[if_pos gQ]at hs;have hd0:i.d=Bv:=iy (by rw[FJ,gQ];decide);have ht:=goT hd0 hs;rw[<-ht];exact fU h has gQ hd0 hz.tr hz.Lc
 rw[if_neg gQ]at hs;split at hs
 ·cases hs
 rename_i x0 x1 b r2
 by_cases Yy:i.op=27
 ·rw[if_pos Yy]at hs;split at hs
  ·rename_i h0
   injection hs with hs;subst hs;have:=LK (p2:=p2) (p3:=p3) (l2:=l2) (c2:=c2) (l3:=l3) (c3:=c3) hu has h0 hz.hp;rw[Yy]at this hBw⊢;exact RS (this.mono fun _ _ h=>BI.of hBw h)
  split at hs
  ·cases hs
  rename_i q hq2
  have hd0:i.d=Bv:=iy (by rw[FJ,Yy];decide);have ht:=goT hd0 hs;have:=QU (p2:=p2) (p3:=p3) (l2:=l2) (c2:=c2) (l3:=l3) (c3:=c3) hu has Yy hd0 hE.vp hq2 hz.hp (hvl hq2);rw[ht]at this;rw[Yy]at this hBw⊢;exact RS (this.mono fun _ _ h=>BI.of hBw h)
 rw[if_neg Yy]at hs;by_cases c28:i.op=28
 ·rw[if_pos c28]at hs;injection hs with hs;subst hs;exact Yh h has c28
 rw[if_neg c28]at hs;have h21:1<=i.op/\i.op<=21:=by
  have:=I6 hfo;omega
 have h2:i.as.length=2:=by
  unfold BH at hfo;rw[if_pos h21]at hfo;injection hfo with hfo;subst hfo;dsimp only at hlen;omega
 have hab:i.as=[a,b]:=by
  rw[has]at h2⊢;have:r2=[]:=List.eq_nil_of_length_eq_zero (by simpa using h2);rw[this]
 have:=Um (p2:=p2) (p3:=p3) (l2:=l2) (c2:=c2) (l3:=l3) (c3:=c3) (t:=t) hu hab h21 (by
  by_cases VO:1<=i.op/\i.op<=14
  ·rw[if_pos VO]at hs;rw[if_pos VO.2];split at hs<;>(injection hs with hs)
   ·rw[if_pos ‹_›];exact hs
   ·rw[if_neg ‹_›];exact hs
  ·rw[if_neg VO,if_pos (by omega)]at hs;injection hs with hs;rw[if_neg (by omega)]
   exact hs)
 exact XL h21 (this.mono fun _ _ h=>BI.of hBw h)
end
section
open Num Dp
theorem Xe{l:List Bk}(hl:Row Jf 9 w0 v l){y:ByteArray}{b:Bk}(h:Ai Bk.n y l=some b)(hp:b.ps=[]):∃p0 c0 b2 b3 q a,jS w0 v l y b (.slice p0 0 c0) b2 b3 q a:=by
 obtain⟨u1,u2,u3,q,a,h1,h2⟩:=Vg hl h;obtain⟨p0,c0,rfl⟩:=h2.p.slice;grind
theorem WA(hE:Env w0 B k p ans fails)(h0:AA6 w0 w)(hM:Am w B N M k s j)(hfr:s.frames=rest++[x])(hz:Small s) {b:Bk} {f1 f2 f3 b1 b2 b3:Value} {q:Nat}  (hh:Here w0 p k x f b f1 f2 f3 b1 b2 b3 q a) (hgb:oV p f b) (hf:∀b∈f.bs,b.ps=[]) (hs:La p f s rest x b.e=some t):Calls prog 54 #[.pointer (some ⟨M,0,none⟩),.agg #[.string f.n,.string f.r,f1,f2,f3],.agg #[.int .i64 b.e.k,.int .i64 b.e.a.k,.string b.e.a.s,.int .i64 b.e.a.n,b3,.int .i64 b.e.n]] w (BI B M k t j w):=by
 obtain⟨-,-,hvf,-,hvb⟩:=hh;have hl:rest.length+1<=1000000:=by have:=hz.fr;rw[hfr]at this;simpa using this
 have htake:∀{y:ByteArray} {t:St},H7 f s rest x y=some t->∀v,AA6 w v->Calls prog 87 #[.pointer (some ⟨M,0,none⟩),.agg #[.string f.n,.string f.r,f1,f2,f3],.string y] v (BI B M k t j v):=by
  intro y t ht v hv;have hform:=KS ht;unfold H7 at ht;split at ht
  ·cases ht
  rename_i b' hb'
  obtain⟨p0,c0,u2,u3,q',a',hsel⟩:=Xe hvf.b hb' (hf b' (Ak hb').1);rw[hform];exact bI (hM.kp (hv.mono hM.own.sz)) hfr (by omega) (AB h0 hv) hvf hsel
 have hft:=hvf;obtain⟨NY,Nb,rfl⟩:=hvf.p.slice;obtain⟨NW,Na,rfl⟩:=hvf.v.slice;obtain⟨uq,Yr,rfl⟩:=hvf.b.slice;unfold La at hs;by_cases k1:b.e.k=1
 ·rw[if_pos k1]at hs;split at hs
  ·cases hs
  rename_i y r hto
  obtain⟨pt,ct,rfl,-,-,hts⟩:=hvb.t;obtain⟨t0,rfl,c0,-⟩:=hts 0 y (by rw[hto];rfl);exact fM h0 hM _ _ _ _ _ t0 _ _ _ _ _ _ _ _ _ _ _ _ _ k1 (by rw[hto];simp) c0 (htake hs)
 rw[if_neg k1]at hs;have hka:b.e.k=2\/b.e.k=3->NZ b.e.a:=fun h=>by
  have he:=hgb.e;unfold Pq at he
  cases ht:GJ f b.e.a with
  |some ty=>exact OT ht
  |none=>
   rw[ht]at he;unfold Zl at he;rcases h with h|h<;>(rw[h]at he;simp at he)
 by_cases k2:b.e.k=2
 ·rw[if_pos k2]at hs;split at hs
  ·rename_i y0 y1 r hto
   obtain⟨pt,ct,rfl,-,-,hts⟩:=hvb.t;obtain⟨t0,rfl,c0,-⟩:=hts 0 y0 (by rw[hto];rfl);obtain⟨t1,e,c1,-⟩:=hts 1 y1 (by rw[hto];rfl);obtain rfl:t0=t1:=(by simpa using e);exact U7 h0 hM hfr (by omega) _ _ _ _ _ t0 _ _ _ _ _ _ _ _ _ _ b.e.a (hka (.inl k2)) k2 (by rw[hto];simp) c0 c1 (htake hs)
  ·cases hs
 rw[if_neg k2]at hs;obtain⟨pt,ct,rfl⟩:=hvb.t.slice;by_cases k3:b.e.k=3
 ·rw[if_pos k3]at hs;refine l6 hM hfr (by omega) _ _ _ _ _ _ _ _ _ _ _ _ _ _ _ _ b.e.a (hka (.inr k3)) k3 fun v hv=>?_;have hMv:=hM.kp (hv.mono hM.own.sz);unfold K4 at hs;split at hs
  ·rename_i hlast
   have:rest=[]:=List.getLast?_eq_none_iff.1 hlast;subst this;injection hs with hs;subst hs;exact eZ hMv hfr _
  rename_i y hlast
  obtain⟨r2,hr2⟩:∃r2,rest=r2++[y]:=⟨_,(List.getLast?_eq_some_iff.1 hlast).choose_spec⟩;subst hr2;split at hs
  ·cases hs
  rename_i g hg
  split at hs
  ·cases hs
  rename_i bb hbb
  split at hs
  ·cases hs
  rename_i i hi
  split at hs
  ·cases hs
  injection hs with hs;subst hs;obtain⟨g1,g2,g3,e1,e2,e3,qq,aa,hhy⟩:=V3 hE.vp hg hbb;have hyl:=(List.getElem?_eq_some_iff.1 hi).1;have:=hE.bl g (Ak hg).1 bb (Ak hbb).1;rw[List.dropLast_concat];exact YU (AB h0 hv) hE.b0 hMv hfr hl (by omega) _ hhy hi
 rw[if_neg k3]at hs;by_cases k4:b.e.k=4
 ·rw[if_pos k4]at hs;injection hs with hs;subst hs;exact fK hM _ _ _ _ _ _ _ _ _ _ _ _ _ _ _ _ _ _ _ k4
 ·rw[if_neg k4]at hs;cases hs
end
section
open Num Dp
def VU(w:World)(b o:Nat):Int:=match w.cell? ⟨b,o,none⟩with
 |some (.int _ n)=>n
 |_=>0
theorem Rl{b o:Nat}{n:Int}(h:w.cell? ⟨b,o,none⟩=some (.int .i64 n)):VU w b o=n:=by
 unfold VU;rw[h]
def Zw(fuel:Int)(M:Nat)(w:World):Nat:=(fuel-VU w M 15).toNat*257+(257-VU w M 20).toNat
theorem Jw(h:Am w B N M k s j)(fuel:Int):Zw fuel M w=(fuel-s.steps).toNat*257+(257-j).toNat:=by
 obtain⟨-,-,-,-,-,n15,-,-⟩:=h.ns;obtain⟨-,-,-,-,-,-,-,c20⟩:=h.hd;unfold Zw;rw[Rl n15,Rl c20]
structure Way(p:Pg)(s:St)(fuel:Int):Prop where
 wt:WT p s
 ct:ZH s
 rg:Ga s
 st:s.steps<=100000
 fu:fuel<=100000
 gl:s.globals.length<=4000
theorem Way.small{fuel:Int}(h:Way p s fuel):Small s:=by
 obtain⟨-,ct,-,st,-,gl⟩:=h;have h1:=ct.al;have h2:=ct.gu;have h3:=ct.tr;have h4:=ct.o8;have h5:=ct.fr;obtain⟨h6,h7⟩:=ct.asks;have h8:=List.length_filter_le (fun e:Ev=>decide (e.n≠Bv)) s.trace;exact⟨by omega,by omega,gl,by omega,by omega,by omega,by omega,by omega⟩
theorem Way.round{fuel:Int}{j k:Nat}{kk:Hd}(hE:Env w0 B kk p ans fails)(h:Way p s fuel)(hst:s.status=0)(hr:EP p ans fails fuel s j=some (t,k)):Way p t fuel:=by
 obtain⟨t',k',e,hw⟩:=Ml hE.good h.wt hst ans fails fuel j;rw[hr]at e;injection e with e;injection e with e1 e2;subst e1;obtain⟨c1,-,-,-,c5,c6⟩:=Oa hE.good hE.nx h.wt h.ct hst hr;have:=h.fu;have:=h.st;exact⟨hw,c1,Xj hE.good hE.rng h.rg h.wt hst hE.ra h.small.hp hr,by rcases c5 with c5|c5<;>omega,h.fu,by rw[c6];exact h.gl⟩
theorem jq{j:Nat}(hE:Env w0 B k p ans fails)(h0:AA6 w0 w)(hM:Am w B N M k s j)(hj:j<=256)(fuel:Int)(hy:Way p s fuel):Calls prog 26 #[.pointer (some ⟨M,0,none⟩),.int .i64 fuel] w fun e w'=>e=.returned (.tuple #[])/\∃t j' N',Am w' B N' M k t j'/\Runs p ans fails fuel s j t/\Way p t fuel/\Below B w w':=by
 go_enter func26,ntmps26;go_wp2;go_loopw[] (fun wr=>∃(s1:St) (j1 N1:Nat),Am wr B N1 M k s1 j1/\j1<=256/\Reach p ans fails fuel s j s1 j1/\Way p s1 fuel/\Below B w wr) (fun wr=>Zw fuel M wr);exact⟨s,j,N,hM,hj,.refl _ _,hy,AL⟩;obtain⟨s1,j1,N1,hM,hj,hre,hy,hb⟩:=hrel;have hMl:=Jw hM fuel;obtain⟨n5,-⟩:=hM.ns;by_cases hst:s1.status=0
 ·have hsb:(s1.status==(0:Int))=true:=by simp[hst]
  obtain⟨x,f,b,h1,h2,h3⟩:=Z8 hy.wt hst;obtain⟨f1,f2,f3,b1,b2,b3,q,a,hh⟩:=V3 hE.vp h3.1 h3.2.1;have hz:=hy.small;generalize hrest:s1.frames.dropLast=rest at*;have hl:rest.length+1<=1000000:=by have:=hz.fr;rw[h2]at this;simpa using this
  obtain⟨t,kk,hrd,hwt⟩:=Ml hE.good hy.wt hst ans fails fuel j1;have h0r:AA6 w0 wr:=h0.trans (hb.mono hE.b0);have hBl:=PN hM h2 (by omega) h0r hh;replace hst:=Wx hst;go_wp2_with fail;refine hBl.mono ?_;rintro e w2 ⟨rfl,hb2⟩;have hh2:=hh;obtain⟨-,-,hvf,-,hvb⟩:=hh2;obtain⟨NY,Nb,rfl⟩:=hvf.p.slice;obtain⟨NW,Na,rfl⟩:=hvf.v.slice;obtain⟨uq,Yr,rfl⟩:=hvf.b.slice;obtain⟨gy,iE,rfl⟩:=hvb.p.slice;obtain⟨gZ,iD,rfl⟩:=hvb.t.slice;obtain⟨pc,cc,rfl,-,hnc,hcs⟩:=hvb.c;have hxl:=h3.2.2.1;have hbl:=hE.bl f (Ak h3.1).1 b (Ak h3.2.1).1;obtain⟨hF,hBx,hb5⟩:=Ch (w:=w2) (c1:=[.string f.n,.string f.r,.slice NY f.ps.length Nb,.slice NW f.vs.length Na,.slice uq f.bs.length Yr]) (c2:=[.string b.n,.slice gy b.ps.length iE,.slice pc b.cs.length cc,.int .i64 b.e.k,.int .i64 b.e.a.k,.string b.e.a.s,.int .i64 b.e.a.n,.slice gZ b.e.to.length iD,.int .i64 b.e.n]) (t1:=66) (t2:=82) (AL);have Zb:=AB hb2 hb5;unfold vk;go_wp2_with fail;generalize pR:World.alloc _ _=W5 at*;have Yw:=hM.kp (Zb.mono hM.own.sz);obtain⟨FB,cap,bm,hT,-⟩:=Yw.top h2 (by omega);refine(He hT.sl hT.l).mono ?_;rintro e w6 ⟨rfl,qq,rfl⟩;have vE:=Al (w:=W5) qq;have ZA:=Yw.kp (vE.mono Yw.own.sz);have vL:=hT.kp vE;have nL:=hF.nx vE;have nM:=hBx.nx vE;have PX:=AB h0r (AB Zb vE);have hb6:Below B w (W5.drewN qq):=hb.trans ((AB Zb vE).mono (by have:=hM.own.sz;have:=hM.own.ge;have:=hM.own.lt;omega));have AJi:N1<=w2.heap.size:=AX hM.own.sz hb2.size;have Pk:=hM.own.lt;have t2:=vL.i;have AJj:=ZA.Bw 5;have hgb:=(hE.good.fs f (Ak h3.1).1).b b (Ak h3.2.1).1;have aN:∀b'∈f.bs,b'.ps=[]:=fun b' hb'=>((hE.good.fs f (Ak h3.1).1).b b' hb').ps;have hms:∀{t:St} {k':Nat},EP p ans fails fuel s1 j1=some (t,k')->Way p t fuel:=fun h=>hy.round hE hst.out h;generalize hW6:W5.drewN qq=W6 at*;rcases Il hE.good hy.wt hst.out hrd with⟨x',f',b',g1,g2,g3,g4⟩;rw[h1]at g1;injection g1 with g1;injection g1 with e1 g1;injection g1 with e2 e3;subst e1 e2 e3;obtain⟨-,-,b2c,b3c⟩:=nM.c4;rcases g4 with⟨hfr,hj256,rfl,rfl⟩|⟨hfr,hj256,rfl,hstep⟩|⟨hfr,hle,rfl,rfl⟩|⟨hfr,hlt,rfl,hstep⟩
  ·
   obtain⟨p1,p2⟩:=JX hfr;have wM:((x.i:Int)==(b.cs.length:Int))=true:=(by simp[p1]);have hek:(b.e.k==(1:Int))=true:=(by simp[p2]);replace p1:=Wx p1;replace p2:=Wx p2;go_wp2_with fail;refine(M9 ZA fuel ⟨by omega,by omega⟩).mono ?_;rintro e w7 ⟨rfl,N9,BJ,JH⟩;rw[show decide ((256:Int)<(_:Int)+1)=true by simp;omega];obtain⟨m5,-⟩:=N9.ns;have vW:=N9.Bw 5;have VN:=N9.ER 3;have Bp:=(hb6.trans BJ).trans (N9.low 5 (.int .i64 3));have MB:=hms hrd;have hrun:Runs p ans fails fuel s j {s1 with status:=3}:=⟨_,hre.trans (Reach.step hst.out hrd (.refl _ _)),show(3:Int)≠0 by decide⟩;go_wp2;((try simp only[Exit.inBlock,Exit.then]);refine bodyPost_ret (results_none rfl _ _ _) rfl ?_);exact⟨rfl,_,_,_,VN,hrun,MB,Bp⟩
  ·
   obtain⟨p1,p2⟩:=JX hfr;have wM:((x.i:Int)==(b.cs.length:Int))=true:=(by simp[p1]);have hek:(b.e.k==(1:Int))=true:=(by simp[p2]);have hlt:decide (x.i<b.cs.length)=false:=(by simp;omega);have hsteps:t.steps=s1.steps:=by
    obtain⟨y,b',-,-,rfl⟩:=O9 hE.good h3 hfr hstep;rfl
   unfold El at hstep;rw[if_pos p1,hrest]at hstep;replace p1:=Wx p1;replace p2:=Wx p2;go_wp2_with fail;refine(M9 ZA fuel ⟨by omega,by omega⟩).mono ?_;rintro e w7 ⟨rfl,N9,BJ,JH⟩;have hdd:decide ((256:Int)<(j1:Int)+1)=false:=(by simp;omega);rw[hdd];have ZE:=PX.trans (BJ.mono hE.b0);have hF7:=nL.same (JH _ (by omega));have wm:=nM.same (JH _ (by omega));obtain⟨q0,q1,q2,q3,q4⟩:=hF7.c5;obtain⟨-,-,z2,z3,z4,z5,z6,z7,z8⟩:=wm.c9;have hend:=WA hE ZE N9 h2 hz hh hgb aN hstep;have MB:=hms hrd;have ZN:=hre.trans (Reach.step hst.out hrd (.refl _ _));go_wp2_with fail;refine hend.mono ?_;rintro e w8 ⟨rfl,⟨N8,VN⟩,Bp⟩;have Zi:=Jw VN fuel;have Nf:=(hb6.trans BJ).trans Bp;go_wp2;go_roundw;exact⟨t,j1+1,N8,by exact_mod_cast VN,by omega,ZN,MB,Nf⟩;rw[Zi,hMl,hsteps];omega
  ·
   by_cases p1:x.i=b.cs.length
   ·have hek:(b.e.k==(1:Int))=false:=by
     unfold H8 at hfr;rw[decide_eq_true p1,Bool.true_and]at hfr;simpa using hfr
    have wM:((x.i:Int)==(b.cs.length:Int))=true:=(by simp[p1]);replace p1:=Wx p1;go_wp2_with fail;refine(OX ZA fuel hle).mono ?_;rintro e w7 ⟨rfl,N9,BJ,JH⟩;obtain⟨m5,-⟩:=N9.ns;have vW:=N9.Bw 5;have VN:=N9.ER 3;have Bp:=(hb6.trans BJ).trans (N9.low 5 (.int .i64 3));have MB:=hms hrd;have hrun:Runs p ans fails fuel s j {s1 with status:=3}:=⟨_,hre.trans (Reach.step hst.out hrd (.refl _ _)),show(3:Int)≠0 by decide⟩;go_wp2;((try simp only[Exit.inBlock,Exit.then]);refine bodyPost_ret (results_none rfl _ _ _) rfl ?_);exact⟨rfl,_,_,_,VN,hrun,MB,Bp⟩
   ·have wM:((x.i:Int)==(b.cs.length:Int))=false:=(by simp;omega);replace p1:=Wx p1;go_wp2_with fail;refine(OX ZA fuel hle).mono ?_;rintro e w7 ⟨rfl,N9,BJ,JH⟩;obtain⟨m5,-⟩:=N9.ns;have vW:=N9.Bw 5;have VN:=N9.ER 3;have Bp:=(hb6.trans BJ).trans (N9.low 5 (.int .i64 3));have MB:=hms hrd;have hrun:Runs p ans fails fuel s j {s1 with status:=3}:=⟨_,hre.trans (Reach.step hst.out hrd (.refl _ _)),show(3:Int)≠0 by decide⟩;go_wp2;((try simp only[Exit.inBlock,Exit.then]);refine bodyPost_ret (results_none rfl _ _ _) rfl ?_);exact⟨rfl,_,_,_,VN,hrun,MB,Bp⟩
  ·
   have hsteps:t.steps=s1.steps+1:=SE (s:={s1 with steps:=s1.steps+1}) hstep;have xZ:0<=s1.steps/\s1.steps<=1000000000:=(by have:=hy.ct.st;have:=hy.st;omega);have hfl:s1.steps<fuel:=hlt;have hw2:WT p {s1 with steps:=s1.steps+1}:=⟨hy.wt.heap,hy.wt.glob,hy.wt.frames,hy.wt.live⟩;have hr2:Ga {s1 with steps:=s1.steps+1}:=⟨hy.rg.fr,hy.rg.hp,hy.rg.gl⟩;have hz2:Small {s1 with steps:=s1.steps+1}:=⟨hz.fr,hz.hp,hz.gl,hz.tr,hz.Lc,hz.al,hz.gu,hz.ak⟩;unfold El at hstep;dsimp only at hstep;by_cases p1:x.i=b.cs.length
   ·have hek:(b.e.k==(1:Int))=false:=by
     unfold H8 at hfr;rw[decide_eq_true p1,Bool.true_and]at hfr;simpa using hfr
    have wM:((x.i:Int)==(b.cs.length:Int))=true:=(by simp[p1]);have hlt:decide (x.i<b.cs.length)=false:=(by simp;omega);rw[if_pos p1,hrest]at hstep;replace p1:=Wx p1;go_wp2_with fail;refine(RZ ZA fuel (by omega) xZ).mono ?_;rintro e w7 ⟨rfl,N9,BJ,JH⟩;have ZE:=PX.trans (BJ.mono hE.b0);have hF7:=nL.same (JH _ (by omega));have wm:=nM.same (JH _ (by omega));obtain⟨q0,q1,q2,q3,q4⟩:=hF7.c5;obtain⟨-,-,z2,z3,z4,z5,z6,z7,z8⟩:=wm.c9;have hend:=WA hE ZE N9 h2 hz2 hh hgb aN hstep;have MB:=hms hrd;have ZN:=hre.trans (Reach.step hst.out hrd (.refl _ _));go_wp2_with fail;refine hend.mono ?_;rintro e w8 ⟨rfl,⟨N8,VN⟩,Bp⟩;have Zi:=Jw VN fuel;have Nf:=(hb6.trans BJ).trans Bp;go_wp2;go_roundw;exact⟨t,0,N8,by exact_mod_cast VN,by omega,ZN,MB,Nf⟩;rw[Zi,hMl,hsteps];omega
   ·have wM:((x.i:Int)==(b.cs.length:Int))=false:=(by simp;omega);have hlt:decide (x.i<b.cs.length)=true:=(by simp;omega);have yC:x.i<b.cs.length:=(by omega);rw[if_neg p1]at hstep;have hib:=hgb.cs b.cs[x.i] (by simp);have wI:=(hE.rng f (Ak h3.1).1 b (Ak h3.2.1).1).1 b.cs[x.i] (by simp);obtain⟨ai,e0,hAi⟩:=hcs x.i b.cs[x.i] (by simp[yC]);rw[List.getElem?_eq_getElem yC,hrest]at hstep;dsimp only at hstep;replace p1:=Wx p1;generalize b.cs[x.i]=ii at*;obtain⟨pi1,ci1,pi2,li2,ci2,pi3,li3,ci3,d0,d1,d2,d3,d4,d5,hrow⟩:=hAi.parts;subst e0;have hkk:(∀a∈ii.as,NZ a)/\ii.as.length<=8:=by
     obtain⟨fm,d,l,hfo,hlen,-,xW,-⟩:=Gx hib.1;have:=PD hfo;exact⟨SC xW,by omega⟩
    go_wp2_with fail;refine(RZ ZA fuel (by omega) xZ).mono ?_;rintro e w7 ⟨rfl,N9,BJ,JH⟩;have ZE:=PX.trans (BJ.mono hE.b0);have wm:=nM.same (JH _ (by omega));have z2:=wm.c 2 _ rfl;replace d0:=AA ZE d0;replace d1:=AA ZE d1;replace d2:=AA ZE d2;replace d3:=AA ZE d3;replace d4:=AA ZE d4;replace d5:=AA ZE d5;have hin:Qd w0 w7 B N1 M k {s1 with steps:=s1.steps+1} 0 rest x ii pi1 ci1:=⟨ZE,hrow,N9,h2,by omega,by omega,hkk.2,hkk.1⟩;have hend:=YK (p2:=pi2) (p3:=pi3) (l2:=li2) (c2:=ci2) (l3:=li3) (c3:=ci3) hE hin hz2 hw2 hr2 hib.1 hib.2 wI hstep;have MB:=hms hrd;have ZN:=hre.trans (Reach.step hst.out hrd (.refl _ _));go_wp2_with fail;refine hend.mono ?_;rintro e w8 ⟨rfl,⟨N8,VN⟩,Bp⟩;have Zi:=Jw VN fuel;have Nf:=(hb6.trans BJ).trans Bp;go_wp2;go_roundw;exact⟨t,0,N8,by exact_mod_cast VN,by omega,ZN,MB,Nf⟩;rw[Zi,hMl,hsteps];omega
 ·have hsb:(s1.status==(0:Int))=false:=by simp[hst]
  go_wp2;go_end0;exact⟨rfl,s1,j1,N1,hM,⟨j1,hre,hst⟩,hy,hb⟩
end
end Go.Proofs.YtlffomedflegdaaGreatDoor
