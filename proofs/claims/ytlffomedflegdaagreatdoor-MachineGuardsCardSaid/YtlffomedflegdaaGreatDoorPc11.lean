/- Part 11 of the proof: Np, Mex, Tp, Knp, Oa, FloP, FloRP, FloRG, FloG, NumP, NumRP, NumG, NumRG, Word, WordW, WordR, WordB. -/
import Derived.Lib.AppendStr
import Derived.Test.YtlffomedflegdaaGreatDoorPc10
set_option linter.all false
set_option maxHeartbeats 16000000
set_option maxRecDepth 100000
namespace Go.Proofs.YtlffomedflegdaaGreatDoor
open Go.Proofs.Tryz
open Go.RowKit
variable {B k n s:Nat}{args:List Int}{bs l:List UInt8}{e t:TypeId}{p:Pg}{v:Value}{w:World}{xs:List Value}
section
open Num Dp
theorem Ad.call{W w2:World}{bs ap st:Nat}{one:List Value}{dst:Addr}{V:Nat->Value}{L:Nat->Bool}(h:Ad W B e s bs ap st one n xs v dst V L w)(ha:L ap=false)(hbs:L bs=false)(hb:AA6 w w2){i:Nat}(h1:(bs==i)=false)(h2:(ap==i)=false):Ad W B e s bs ap st one n xs v dst V (upd L i) w2:=by
 refine⟨fun _=>⟨AB (h.below ha) hb,fun e=>?_⟩,fun e=>?_⟩
 ·rw[upd_ne h1,hbs]at e;cases e
 ·rw[upd_ne h2,ha]at e;cases e
abbrev mY(x bn:ByteArray)(m:Vm)(g:List Vu):St:=⟨0,(Bv,0),0,[⟨x,bn,0,m⟩],[],g,[],[],0,0,0,0⟩
abbrev vv(fr gl:Value):List Value:=[.int .i64 0,.string ⟨#[]⟩,.int .i64 0,.int .i64 0,fr,.slice none 0 0,gl,.slice none 0 0,.slice none 0 0,.int .i64 0,.int .i64 0,.int .i64 0,.int .i64 0]
theorem Us{v:Vr}{r:List Vr}{l:List Int}{m:Vm}:ET (v::r) l m=ET r l.tail (Ei m v.n (Lx v.t l.head?)):=rfl
theorem OW{w0:World}(h0:AA6 w0 w){u1 u2 u3 u4:Value}(hp:Cj w0 (.agg #[.bool p.ssa,u1,u2,u3,u4]) p u1 u2 u3 u4)(x:ByteArray){f:Fn}(hf:Ai Fn.n x p.fs=some f){b0:Bk}{br:List Bk}(hbs:f.bs=b0::br){av:Value}(ha:Row Nj 1 w0 av args)(hgl:p.gs.length<=4000)(hpl:f.ps.length<=100000):Calls prog 10 #[.agg #[.bool p.ssa,u1,u2,u3,u4],.string x,av] w fun e w'=>∃fr hp gl tr mk,e=.returned (.tuple #[Ko (mY x b0.n (ET f.ps args []) (p.gs.map fun g=>Ap g.t)) fr hp gl tr mk,.int .i64 0])/\Bt w' w.heap.size (mY x b0.n (ET f.ps args []) (p.gs.map fun g=>Ap g.t)) fr hp gl tr mk/\AA6 w w':=by
 obtain⟨f1,f2,f3,hsel,hvf⟩:=QD hp.f hf;have hL:=fun v (hv:AA6 w0 v)=>Kh hv hp x hsel hvf;obtain⟨pc,cc,rfl⟩:=hp.c.slice;obtain⟨px,cx,rfl⟩:=hp.xt.slice;obtain⟨pf,cf,rfl⟩:=hp.f.slice;obtain⟨pg,cg,rfl,-,-,hgs⟩:=hp.g;obtain⟨pa,ca,rfl,-,hla,has⟩:=ha;obtain⟨NY,Nb,rfl,-,hn1,hps⟩:=hvf.p;obtain⟨NW,Na,rfl⟩:=hvf.v.slice;obtain⟨uq,Yr,rfl,-,QY,hbk⟩:=hvf.b;obtain⟨a3,rfl,⟨d0,-⟩,-⟩:=hbk 0 b0 (by rw[hbs];rfl);replace d0:w0.cell? a3=some (.string b0.n):=d0;obtain⟨n3,qR,ADm,ADn,AJT⟩:∃n3:Nat,f.bs.length=n3/\0<n3/\(0:Int)<n3/\((n3:Int)==0)=false:=⟨_,rfl,by rw[hbs];simp,by rw[hbs];simp,by rw[hbs];simp;omega⟩;rw[qR]at hL;generalize f.n=fn at*;generalize f.r=fr at*;generalize f.vs.length=nv at*;generalize b0.n=bn at*;generalize p.cs.length=n1 at*;generalize p.xs.length=nx at*;generalize p.fs.length=n4 at*;generalize p.ssa=ssa at*;obtain⟨hP,hZ,hb1⟩:=Ch (w:=w) (c1:=[.bool ssa,.slice pc n1 cc,.slice pg p.gs.length cg,.slice px nx cx,.slice pf n4 cf]) (c2:=gF) (t1:=27) (t2:=40) (AL);have t1:=underlying69;have t2:=underlying9;go_enter func10,ntmps10;go_wp2_with fail;generalize hW:World.alloc _ _=W at*;have hWz:W.heap.size=w.heap.size+1+1:=by rw[<-hW];simp
 refine(hL _ (AB h0 hb1)).mono ?_;rintro e w2 ⟨hb2,rfl⟩;have hPZ:=And.intro (hP.nx hb2) (hZ.nx hb2);have hb3:=AB hb1 hb2;have hFB:=Ae.alloc w2 [.string fn,.string fr,.slice NY f.ps.length Nb,.slice NW nv Na,.slice (some a3) n3 Yr] 66;have hA:=AJ w2 (.cells #[.string fn,.string fr,.slice NY f.ps.length Nb,.slice NW nv Na,.slice (some a3) n3 Yr] 66);have hP3:=hPZ.1.nx hA;have hZ3:=hPZ.2.nx hA;have hb4:=AB hb3 hA;have hFz:w2.heap.size<(w2.alloc (.cells #[.string fn,.string fr,.slice NY f.ps.length Nb,.slice NW nv Na,.slice (some a3) n3 Yr] 66)).heap.size:=by simp
 have hsz2:=hb2.size;generalize hF:w2.heap.size=FA at*;go_upto_region 2 with fail;generalize hW3:w2.alloc _=W3 at*;obtain⟨-,-,c2,-,c4⟩:=hFB.c5;have hmm:= @run_makeMap prog;have Wo:=CQ.made (w:=W3) (clock:=0);have pO:=AJ W3 (.map #[] 0);have ADh:(W3.alloc (.map #[] 0)).heap.size=W3.heap.size+1:=by simp
 go_wp2_with fail;have wV:=hP3.nx pO;have hZ4:=hZ3.nx pO;have gM:=hFB.nx pO;have hb5:=AB hb4 pO;generalize hW4:W3.alloc (.map #[] 0)=W4 at*;generalize hbe:W3.heap.size=b at*;have Ku:=AB h0 hb5;have hbb:b<W4.heap.size:=by omega
 have hb0:w0.heap.size<=b:=by have:=h0.size;have:=hb4.size;omega
 have AEf:FA≠b:=by omega
 have hwb:w.heap.size+1<b:=by omega
 go_loopw[36] (fun i wr=>∃(q:Nat) (mq:Vm),q<=f.ps.length/\i=.int .i64 (q:Int)/\CQ wr b mq/\Hid (ET (f.ps.drop q) (args.drop q) mq=ET f.ps args [])/\Apart W4 wr b) (fun i _=>f.ps.length-(intOf i).toNat);exact⟨0,[],AY,rfl,Wo,Wx rfl,Apart.refl _ _⟩;obtain⟨q,mq,hq,rfl,Yu,hbi,hap⟩:=hrel;have hbig:=hap.b.size;by_cases hend:q=f.ps.length
 ·subst hend;obtain⟨wo,rfl⟩:=again wr;have hmf:mq=ET f.ps args []:=by
   have:=hbi.out;rw[List.drop_length]at this;exact this
  rw[hmf]at Yu;generalize hpv:ET f.ps args []=m1 at*;replace hpv:=Wx hpv;have hPo:=hap.box wV (by omega);have hZo:=hap.box hZ4 (by omega);have hFo:=hap.box gM AEf;have Qg:AA6 w wo:=hb5.trans (hap.b.mono (by omega));have h0o:=Ku.trans (hap.b.mono (by omega));replace d0:=hap.cell (AA Ku d0) (show a3.block≠b by have:=World.block_lt_of_cell? w0 _ d0;omega);have AJm:b<wo.heap.size:=Yu.lt;have hWo:W.heap.size<=b:=by omega
  clear wV hZ4 gM hb5 Ku hap;have o4:=hFo.c 4 _ rfl;have hLB:=Ae.alloc wo [.string x,.string bn,.int .i64 0,.map (some b)] 84;have hLh:=(MapKept.heap_alloc wo (.cells #[.string x,.string bn,.int .i64 0,.map (some b)] 84)).1;have hA1:=AJ wo (.cells #[.string x,.string bn,.int .i64 0,.map (some b)] 84);have hmL:=Yu.other (hA1.block b Yu.lt);have hzL:(wo.alloc (.cells #[.string x,.string bn,.int .i64 0,.map (some b)] 84)).heap.size=wo.heap.size+1:=by simp
  have hPL:=hPo.nx hA1;have hZL:=hZo.nx hA1;have hbL:=AB Qg hA1;go_upto_region 18 with fail;generalize hWL:wo.alloc (.cells #[.string x,.string bn,.int .i64 0,.map (some b)] 84)=WL at*;have TM:=Ae.alloc WL (vv (.slice (some ⟨wo.heap.size,0,none⟩) 1 1) (.slice none 0 0)) 40;have TL:=(MapKept.heap_alloc WL (.cells (vv (.slice (some ⟨wo.heap.size,0,none⟩) 1 1) (.slice none 0 0)).toArray 40)).1;have hA2:=AJ WL (.cells (vv (.slice (some ⟨wo.heap.size,0,none⟩) 1 1) (.slice none 0 0)).toArray 40);have hzS:(WL.alloc (.cells (vv (.slice (some ⟨wo.heap.size,0,none⟩) 1 1) (.slice none 0 0)).toArray 40)).heap.size=wo.heap.size+1+1:=by simp[hzL]
  rw[hzL]at TM TL;have hPS:=hPL.nx hA2;have hZS:=hZL.nx hA2;have hbS:=AB hbL hA2;have Zj:=hLB.nx hA2;have hmS:=hmL.other (hA2.block b hmL.lt);have yV:=(hA2.block wo.heap.size (by omega)).trans hLh;generalize hWS:WL.alloc (.cells (vv (.slice (some ⟨wo.heap.size,0,none⟩) 1 1) (.slice none 0 0)).toArray 40)=WS at*;have hFr:AZ WS b 84 4 ([(⟨x,bn,0,m1⟩:Lv)].map Kw) (.slice (some ⟨wo.heap.size,0,none⟩) 1 1) (wo.heap.size::([b]++[]++[])):=by
   refine .inr ⟨wo.heap.size,1,_,_,rfl,by omega,yV,by simp,by unfold maxLen;omega,rfl,rfl,fun d hd=>?_,?_⟩
   ·obtain rfl:d=Kw ⟨x,bn,0,m1⟩:=(by simpa using hd);rfl
   ·show AP WS b [Kw ⟨x,bn,0,m1⟩] wo.heap.size 0 _;unfold Kw;exact AP.ca (AP.cc (Zj.c 0 _ rfl) rfl (AP.cc (Zj.c 1 _ rfl) rfl (AP.cc (Zj.c 2 _ rfl) rfl (AP.cm (Zj.c 3 _ rfl) (AQ) hmS AP.cn)))) AP.cn
  have hLi:=jk (s:=mY x bn m1 []) (fr:=.slice (some ⟨wo.heap.size,0,none⟩) 1 1) (hp:=.slice none 0 0) (gl:=.slice none 0 0) (tr:=.slice none 0 0) (mk:=.slice none 0 0) TM hFr .nil .nil .nil .nil;have hown:Own WS b WS.heap.size (Eh (mY x bn m1 [])) (wo.heap.size+1) 0:=by
   refine⟨by omega,by omega,AQ,_,hLi,?_,fun c hc=>?_⟩
   ·have h1:b≠wo.heap.size:=(by omega);have h2:b≠wo.heap.size+1:=(by omega);simp;omega
   ·simp at hc;omega
  have hty:∃cur T,WS.heap[wo.heap.size+1]? =some (.cells cur T (0,0)):=⟨_,_,TL⟩;have j2:=hPS.c 2 _ rfl;clear hWS hWL hLB hLh hA1 hmL hPL hZL hbL TM TL hA2 Zj hmS yV hFr hLi hPo hZo hFo Qg o4 Yu d0 h0o;go_wp2_with fail;have h0S:=AB h0 hbS;generalize hSb:wo.heap.size+1=Sb at*;have AJo:b<Sb:=by omega
  go_loopw[83] (fun i wr=>∃(q N':Nat),q<=p.gs.length/\i=.int .i64 (q:Int)/\Own wr b N' (Eh (mY x bn m1 ((p.gs.take q).map fun g=>Ap g.t))) Sb 0/\(∃cur T,wr.heap[Sb]? =some (.cells cur T (0,0)))/\Below b WS wr) (fun i _=>p.gs.length-(intOf i).toNat);exact⟨0,_,AY,rfl,hown,hty,AL⟩;clear hown hty j2;obtain⟨q,N',hq,rfl,hown,hty,hb⟩:=hrel;by_cases hend:q=p.gs.length
  ·subst hend;rw[List.take_length]at hown;obtain⟨wy,rfl⟩:=again wr;obtain⟨hge,AJa,AJK,fp,hl5,hn5,-⟩:=hown;generalize ht:mY x bn m1 (p.gs.map fun g=>Ap g.t)=t at*;obtain⟨fr,hp,gl,tr,mk,ho,hcells⟩:=rZ hl5 (BN.1 hn5).2;obtain⟨a1,b1,a2,b2,a3,b3,a4,b4,a5,b5,rfl,rfl,rfl,rfl,rfl⟩:=ho.shape;have KA:=hZS.below (show w.heap.size+1<b by omega) hb;have hof:=(ho.run (R:=w.heap.size+1) (by omega) (WG t (.slice a1 t.frames.length b1) (.slice a2 t.heap.length b2) (.slice a3 t.globals.length b3) (.slice a4 t.trace.length b4) (.slice a5 t.marks.length b5))).mono (show w.heap.size<=b by omega);have hbf:=(hbS.trans (hb.mono (by omega))).trans (Ay (B:=w.heap.size) (p:=w.heap.size+1) (by omega) (WG t (.slice a1 t.frames.length b1) (.slice a2 t.heap.length b2) (.slice a3 t.globals.length b3) (.slice a4 t.trace.length b4) (.slice a5 t.marks.length b5)) 0 wy);replace ht:=Wx ht;have y0:=hcells 0 _ rfl;have y1:=hcells 1 _ rfl;have y2:=hcells 2 _ rfl;have y3:=hcells 3 _ rfl;have y4:=hcells 4 _ rfl;have y5:=hcells 5 _ rfl;have y6:=hcells 6 _ rfl;have y7:=hcells 7 _ rfl;have y8:=hcells 8 _ rfl;have y9:=hcells 9 _ rfl;have y10:=hcells 10 _ rfl;have y11:=hcells 11 _ rfl;have y12:=hcells 12 _ rfl;obtain⟨r0,r1,r2,r3,r4,r5,r6,r7,r8,r9,r10,r11,r12⟩:=KA.c13;obtain⟨s0,s1,s2,s3,s4,s5,s6,s7,s8,s9,s10,s11,s12⟩:=KA.f13;clear hcells KA hl5 hn5 ho hZS hPS hb hty hgs;go_wp2_with fail;(refine rB rfl (by go_simp;try rfl) rfl ?_);rw[hpv.out,ht.out];exact⟨_,_,_,_,_,rfl,hof,hbf⟩
  ·have hlt:q<p.gs.length:=(by omega);have A8:(q:Int)<p.gs.length:=(by omega);obtain⟨ap,rfl,⟨v0,-⟩,v1,-⟩:=hgs q p.gs[q] (by simp[hlt]);have h0r:=h0S.trans (hb.mono (by omega));replace v0:=AA h0r v0;replace v1:wr.cell? ⟨(ap.add (q*2)).block,(ap.add (q*2)).off+1,none⟩=_:=AA h0r v1;have htk:(p.gs.take (q+1)).map (fun g=>Ap g.t)=(p.gs.take q).map (fun g=>Ap g.t)++[Ap p.gs[q].t]:=by
    rw[List.take_succ_eq_append_getElem hlt,List.map_append,List.map_singleton]
   have hlenq:((p.gs.take q).map (fun g=>Ap g.t)).length=q:=(by simp;omega);generalize(p.gs.take q).map (fun g=>Ap g.t)=gq at*;generalize p.gs[q]=pq at*;have hn:=fun w=>Ju pq.t w;rw[show∀t:ByteArray,Ending.returned (Value.agg #[.string (F9 t),.int .i64 0])=.returned (Kn (Ap t))from fun t=>by rw[<-I7]]at hn;generalize hvq:Ap pq.t=vq at*;obtain⟨S9,wN⟩:=BR (w:=wr) (c1:=[.string pq.n,.string pq.t]) (t1:=71) (AL);have Zy:=hown.kp (wN.mono hown.sz);have xX:∃cur T,(wr.alloc (.cells #[.string pq.n,.string pq.t] 71)).heap[Sb]? =some (.cells cur T (0,0)):=by
    obtain⟨cur,T,e⟩:=hty;exact⟨cur,T,(wN.block Sb (by have:=hown.lt;have:=hown.sz;omega)).trans e⟩
   have AEM:=hb.trans (wN.mono (by have:=hown.lt;have:=hown.sz;omega));go_upto_region 21 with fail;generalize hWV:wr.alloc _=WV at*;have s0:=Zy.spot;unfold Eh at s0;have s1:=s0.nth 5 rfl (n:=6) (by simp[Dt.DF,Dt.wd,C9,dN,dS]);obtain⟨vt,xs,ct,PU,pt,kt,rfl⟩:=s1.owns;rw[List.length_map,hlenq]at ct PU;have IW:=s1.OE ct;have hfz:WV.frozen? ⟨Sb,6,none⟩=false:=by
    obtain⟨cur,T,e⟩:=xX;unfold World.frozen?;dsimp only;rw[e];rfl
   have AJZ:=Zy.lt;have ADj:=Zy.sz;have ADs:=S9.lt;have hsd:WV.drew.heap.size=WV.heap.size:=rfl;have hxd:=Dh PU (Al (w:=WV) 1) (AQ);refine AV (S:=Ad WV.drew b 34 2 5 6 8 [.string vq.1,.int .i64 vq.2] q xs (.slice pt q kt) ⟨Sb,6,none⟩) rfl (by kernel_rfl) (Ad.start (AL)) ?_;(apply AU.z rfl;intro V L w1 _ _ _ z hK;go_simp;exact hK (z.s.keep rfl rfl rfl);intros;rfl);(apply AU.z rfl;intro V L w1 _ _ _ z hK;(have hI:=z.s.below (z.o 6 (by kernel_rfl));(have c9:=AA hI (show WV.drew.cell? ⟨Sb,6,none⟩=some (.slice pt q kt)from ct)));go_simp;exact hK (z.s.keep rfl rfl rfl);intros;rfl);(apply AU.z rfl;intro V L w1 _ _ _ z hK;go_simp;exact hK (z.s.keep rfl rfl rfl);intros;rfl);(apply AU.z rfl;intro V L w1 _ _ _ z hK;((have Fq:=z.s.below (z.r 6 4 (by kernel_rfl) (z.r 4 3 (by kernel_rfl) z.i));have hBx:=(S9.drew).below ADs Fq;have b1:=hBx.c 1 _ rfl));go_simp;exact hK (z.s.keep rfl rfl rfl);intros;rfl);(apply AU.y rfl;intro V L w1 _ _ z hK;go_simp;go_wp2_with((refine(hn _).mono ?_;rintro e w2 ⟨rfl,hb⟩));(try simp only[pE]);exact hK.out _ (z.s.call (z.r 6 4 (by kernel_rfl) z.i) (z.r 5 4 (by kernel_rfl) z.i) hb rfl rfl);intros;rfl);(apply AU.w rfl;intro V L w1 _ _ _ z hK;go_simp;exact hK rfl (z.s.made (z.o 6 (by kernel_rfl)) rfl _);(try simp only[pE]));(refine AU.free (fun _=>rfl) (fun V L w1 _ _ hS hi hR hd hK=>hS.go hi (hR.out (8) _ (by kernel_rfl) hi) (hd.out (5) (by kernel_rfl)) (VW) (underlying37) (hxd) rfl rfl rfl rfl rfl rfl (by decide) (by simp[Value.oneCell']) (by unfold maxLen;omega) fun v' w' h=>hK.out _ _ rfl h) ?_;(try simp only[pE]));(apply AU.z rfl;intro V L w1 _ _ _ z hK;go_simp;exact hK (z.s.keep rfl rfl rfl);intros;rfl);(apply AU.val undef (fun _=>rfl);intro V L w1 _ _ hS hi hR hd hK;have ha:=hd.out (6) (by kernel_rfl);(have cs:=hS.cellOf hi (show WV.drew.cell? ⟨Sb,6,none⟩=some (.slice pt q kt)from ct) IW;have fs:=hS.EA hi (o:=6) (show Sb<WV.drew.heap.size by omega) hfz IW);have hS2:=hS.stored ha hi rfl;obtain⟨pu,ku,CX⟩:=hS.val ha;rw[CX]at hS2;simp only[CX];go_simp;exact hK.out _ _ (by simp only[CX];rfl) hS2;simp only[Act.put]);refine AU.nil fun V w1 hS=>?_;obtain⟨⟨N1,ho⟩,hbel,-,w9,u9,rfl,Y9⟩:=hS.done rfl rfl (s1.kp ((Al (w:=WV) 1).mono ADj)) (AL) ct hxd (by rw[List.length_map,hlenq]) (d:=C9 vq)
    (fun w1 pb b1 _ _ hx=>⟨[],Tw hx,by simp⟩) rfl rfl
   have RG:Own (w9.setCell ⟨Sb,0+6,none⟩ u9) b N1 (Eh (mY x bn m1 ((p.gs.take (q+1)).map fun g=>Ap g.t))) Sb 0:=by
    rw[htk];refine sI ho ?_;unfold Eh;simp
   have ADe:∃cur T,(w9.setCell ⟨Sb,0+6,none⟩ u9).heap[Sb]? =some (.cells cur T (0,0)):=by
    obtain⟨cur,T,e⟩:=xX;exact Iq (Y9.trans e) _ _
   have Nf:Below b WS (w9.setCell ⟨Sb,0+6,none⟩ u9):=AEM.trans ((Al (w:=WV) 1|>.mono (by omega)).trans hbel);generalize w9.setCell ⟨Sb,0+6,none⟩ u9=W9 at*;go_wp2;go_roundw;exact⟨q+1,_,by omega,by go_num,RG,ADe,Nf⟩;simp[intOf];omega
 ·have hlt:q<f.ps.length:=by omega
  have A8:(q:Int)<f.ps.length:=by omega
  obtain⟨ap,rfl,⟨v0,-⟩,v1,-⟩:=hps q f.ps[q] (by simp[hlt]);have hbp:=World.block_lt_of_cell? w0 _ v0;have hne:(ap.add (q*2)).block≠b:=fun e=>by rw[e]at hbp;omega
  replace v0:=hap.cell (AA Ku v0) hne;replace v1:wr.cell? ⟨(ap.add (q*2)).block,(ap.add (q*2)).off+1,none⟩=_:=hap.cell (AA Ku v1) hne;have Qg:=hbi.out;rw[List.drop_eq_getElem_cons hlt,Us,List.tail_drop,List.head?_drop]at Qg;replace Qg:=Wx Qg;generalize f.ps[q]=pq at*;have hn:=fun w=>Ju pq.t w;rw[show∀t:ByteArray,Ending.returned (Value.agg #[.string (F9 t),.int .i64 0])=.returned (Kn (Ap t))from fun t=>by rw[<-I7]]at hn;obtain⟨S9,wN⟩:=BR (w:=wr) (c1:=[.string pq.n,.string pq.t]) (t1:=71) (AL);go_wp2_with fail;refine(hn _).mono ?_;rintro e w5 ⟨rfl,hb6⟩;have yQ:=S9.nx hb6;have AEL:=AB wN hb6;have Y6:=Ae.alloc w5 [.string (Ap pq.t).1,.int .i64 (Ap pq.t).2] 34;have hA:=AJ w5 (.cells #[.string (Ap pq.t).1,.int .i64 (Ap pq.t).2] 34);have yP:=yQ.nx hA;have BJ:=AB AEL hA;have xw:=Yu.other (BJ.block b Yu.lt);have jK:=hap.trans (Apart.of BJ (by omega));have hsz5:wr.heap.size<w5.heap.size:=yQ.lt;generalize hX:w5.heap.size=XB at*;go_upto_if 47 with fail;generalize hW6:w5.alloc _=W6 at*;have yB:=Y6.lt;generalize hv:Lx pq.t args[q]? =v at*;replace hv:=Wx hv;go_cut[47]from 48 to 64 (fun _ wx=>Ae wx XB [.string v.1,.int .i64 v.2]/\Apart W6 wx XB)
  ·have vb1:=yP.c 1 _ rfl;have x1:=Y6.c 1 _ rfl;have z1:=Y6.f 1 (by simp);by_cases hqa:q<args.length
   ·have hqN:decide (q<args.length)=true:=decide_eq_true hqa;have nA:(q:Int)<args.length:=(by omega);obtain⟨aa,rfl,hz⟩:=has q args[q] (by simp[hqa]);unfold Nj at hz;rw[Nat.mul_one]at hz;have hza:=World.block_lt_of_cell? w0 _ hz;have hze:(aa.add q).block≠b:=fun e=>(by rw[e]at hza;omega);replace hz:=jK.cell (AA Ku hz) hze;have hvv:v=Lx pq.t (some args[q]):=(by rw[<-hv.out,List.getElem?_eq_getElem hqa]);generalize args[q]=n at*;by_cases hti:pq.t=BA
    ·have hs1:(pq.t.toList==[105,110,116])=true:=FE hti;have hn1:Ap pq.t=(pq.t,0):=(by unfold Ap;rw[if_pos (.inl hti)]);have hv1:v=(pq.t,n):=(by rw[hvv];unfold Lx;dsimp only;rw[if_pos hti]);rw[hn1]at Y6 x1;subst hv1;clear hvv hti hn1 hv;go_wp2;go_meet;exact⟨Y6.set (i:=1) (by simp) _,Apart.set 1 _⟩
    ·have hs1:(pq.t.toList==[105,110,116])=false:=D9 hti;by_cases uz:pq.t=Ao
     ·have hs2:(pq.t.toList==[102,108,111,97,116])=true:=FE uz;have hn1:Ap pq.t=(pq.t,0):=(by unfold Ap;rw[if_pos (.inr uz)]);have hv1:v=(pq.t,Ba n):=(by rw[hvv];unfold Lx;dsimp only;rw[if_neg hti,if_pos uz]);rw[hn1]at Y6 x1;subst hv1;clear hvv hti hn1 hv uz;have hpl:=fun w=>Ka n w;generalize Ba n=pn at*;(go_wp2_with(refine(hpl _).mono ?_;rintro e w9 ⟨rfl,rfl⟩));go_meet;exact⟨Y6.set (i:=1) (by simp) _,Apart.set 1 _⟩
     ·have hs2:(pq.t.toList==[102,108,111,97,116])=false:=D9 uz;have hv1:v=Ap pq.t:=by
       rw[hvv];unfold Lx Ap;dsimp only;rw[if_neg hti,if_neg uz,if_neg (by rintro(h|h)<;>contradiction)]
      rw[<-hv1]at Y6;go_wp2;go_meet;exact⟨Y6,Apart.refl _ _⟩
   ·have hqN:decide (q<args.length)=false:=decide_eq_false hqa;have nA:¬(q:Int)<args.length:=(by omega);have hv1:v=Ap pq.t:=by
     rw[<-hv.out,List.getElem?_eq_none (by omega)];rfl
    rw[<-hv1]at Y6;go_wp2;go_meet;exact⟨Y6,Apart.refl _ _⟩
  obtain⟨hX2,jJ⟩:=hcut;have AJp:=jK.b.size;have hbX:b<XB:=by omega
  have hVc:=jJ.box yP (by omega);have xu:=xw.other (jJ.k b (by omega) xw.lt);have AEQ:Apart W4 wc b:=⟨jK.b.trans (jJ.b.mono (by omega)),fun r h1 h2=>(jJ.k r (by omega) (by omega)).trans (jK.k r h1 h2)⟩;have vb0:=hVc.c 0 _ rfl;obtain⟨x0,x1⟩:=hX2.c2;obtain⟨o2,ho,hm2⟩:=Mi t1 t2 xu pq.n v;have AEP:=AEQ.trans (Apart.blk (m:=b) (by have:=xu.lt;omega) o2);have hbn:Hid (ET (f.ps.drop (q+1)) (args.drop (q+1)) (Ei mq pq.n v)=ET f.ps args []):=Qg;go_wp2;go_roundw;exact⟨q+1,_,by omega,by go_num,hm2,hbn,AEP⟩;simp[intOf];omega
end
section
open Num Dp
abbrev fS:ByteArray:=⟨#[102]⟩
abbrev kS:ByteArray:=⟨#[107]⟩
abbrev aS:ByteArray:=⟨#[97]⟩
def RI:Is:=⟨33,Bv,Bv,[⟨1,kS,0⟩],[],[]⟩
def Pp:Bk:=⟨aS,[],[RI],⟨3,⟨1,kS,0⟩,[],0⟩⟩
def Nu:Fn:=⟨fS,BA,[⟨kS,BA⟩],[],[Pp]⟩
def FN:Pg:=⟨false,[],[],[],[Nu]⟩
def IY:St:={st0 with frames:=[⟨fS,aS,0,[(kS,(BA,5))]⟩]}
def yx:Ev:=⟨Bv,[5],0,false⟩
def jO:St:={st0 with frames:=[⟨fS,aS,1,[(kS,(BA,5))]⟩],trace:=[yx],marks:=[0],steps:=1}
def yw:St:={st0 with status:=1,result:=(BA,5),frames:=[],trace:=[yx],marks:=[0],steps:=2}
def yu:St:={jO with status:=3}
theorem fG:GK FN fS [5]=some IY:=by rfl
theorem oK(fuel:Int)(h:0<fuel):EP FN [] [] fuel IY 0=some (jO,0):=by
 unfold EP;rw[show xH FN IY=some (⟨fS,aS,0,[(kS,(BA,5))]⟩,Nu,Pp)from rfl];dsimp only;rw[if_neg (by decide),if_neg (show¬fuel<=IY.steps by show¬fuel<=0;omega)];rfl
theorem AAh:EP FN [] [] 9 jO 0=some (yw,0):=by rfl
theorem AAg:EP FN [] [] 1 jO 0=some (yu,0):=by rfl
theorem lW:Runs FN [] [] 9 IY 0 yw:=.step rfl (oK 9 (by decide)) (.step rfl AAh (.stop (by decide)))
theorem tT:Runs FN [] [] 1 IY 0 yu:=.step rfl (oK 1 (by decide)) (.step rfl AAg (.stop (by decide)))
theorem V9:DJ FN where
 names:=fun c hc=>by simp[FN]at hc
 heads:=by rfl
 fs:=fun f hf=>by
  obtain rfl:f=Nu:=by simpa[FN]using hf
  refine⟨by simp[Nu],fun b hb=>?_⟩;obtain rfl:b=Pp:=by simpa[Nu]using hb
  refine⟨rfl,fun i hi=>?_,rfl,fun h=>absurd h (by decide),fun h=>absurd h (by decide),fun y hy=>by simp[Pp]at hy⟩;obtain rfl:i=RI:=by simpa[Pp]using hi
  exact⟨rfl,fun fm hf=>by
   have:fm=⟨false,false,1,1⟩:=by
    have h2:BH RI.op=some ⟨false,false,1,1⟩:=rfl;rw[h2]at hf;injection hf with hf;exact hf.symm
   subst this
   rfl⟩
end
section
open Num Dp
theorem sQ{l:List Vr}(h:(l.map Vr.n).Nodup){u v:Vr}(hu:u∈l)(hv:v∈l)(e:u.n=v.n):u=v:=by
 induction l with
 |nil=>cases hu
 |cons a r ih=>
  rw[List.map_cons,List.nodup_cons]at h;rcases List.mem_cons.1 hu with e1|hu1
  ·rcases List.mem_cons.1 hv with e2|hv1
   ·rw[e1,e2]
   ·exact absurd (List.mem_map.2 ⟨v,hv1,by rw[<-e,e1]⟩) h.1
  ·rcases List.mem_cons.1 hv with e2|hv1
   ·exact absurd (List.mem_map.2 ⟨u,hu1,by rw[e,e2]⟩) h.1
   ·exact ih h.2 hu1 hv1
theorem kG(h:List Ob)(t:ByteArray)(a:Option Int):okV h (Lx t a) t:=by
 unfold Lx
 cases a with
 |none=>exact Ke h t t
 |some n=>
  dsimp only;by_cases e:t=BA
  ·exact .plain (by rw[e];exact JR)
  ·by_cases e2:t=Ao
   ·exact .plain (by rw[e2];exact Jr)
   ·rw[if_neg e,if_neg e2];exact .zero rfl
theorem Rk(hg:DJ p){f:Fn}(hf:f∈p.fs)(h:List Ob):∀(ps:List Vr) (l:List Int) (m:Vm),(∀v∈ps,v∈f.ps)->EO f h m->EO f h (ET ps l m)
 | [],_,_,_,hm=>hm
 |v::r,l,m,hp,hm=>by
  unfold ET;refine Rk hg hf h r l.tail _ (fun u hu=>hp u (by simp[hu])) (hm.put fun u hu=>?_);obtain⟨h1,h2⟩:=KP hu;obtain rfl:v=u:=sQ (hg.hp.n f hf) (by simp[hp v (by simp)]) h1 h2.symm;exact kG h _ _
theorem bP(hg:DJ p){x:ByteArray}{s:St}(hs:GK p x args=some s):WT p s:=by
 unfold GK at hs;split at hs
 ·cases hs
 ·rename_i f hf
  split at hs
  ·cases hs
  ·rename_i b0 br hbs
   injection hs with hs;subst hs;obtain⟨hm,hn⟩:=Ak hf;refine⟨(fun ob h=>by cases h),⟨by simp,fun k v y hv hy=>?_⟩,⟨f,b0,?_,?_,AY,?_⟩,fun _=>by simp⟩
   ·simp only[List.getElem?_map,hy,Option.map_some,Option.some.injEq]at hv;subst hv;exact Ke _ _ _
   ·exact hf
   ·rw[hbs];unfold Ai;rw[if_pos rfl]
   ·exact Rk hg hm [] f.ps args [] (fun _ h=>h) fun x v _=> .zero rfl
theorem dJ(t:ByteArray){a:Option Int}(h:∀n,a=some n->Bo n):Bo (Lx t a).2:=by
 unfold Lx
 cases a with
 |none=>exact JW t
 |some n=>
  dsimp only;by_cases e:t=BA
  ·rw[if_pos e];exact h n rfl
  ·by_cases e2:t=Ao
   ·rw[if_neg e,if_pos e2];exact Ki (h n rfl)
   ·rw[if_neg e,if_neg e2];exact⟨by decide,by decide⟩
theorem Oh:∀(ps:List Vr) (l:List Int) (m:Vm),(∀n∈l,Bo n)->JG m->JG (ET ps l m)
 | [],_,_,_,hm=>hm
 |v::r,l,m,hl,hm=>by
  unfold ET;refine Oh r l.tail _ (fun n hn=>hl n (List.mem_of_mem_tail hn)) (Jt hm _ (dJ _ fun n hn=>hl n ?_))
  cases l with
  |nil=>cases hn
  |cons a t=>
   obtain rfl:a=n:=(by simpa using hn);simp
theorem KT(hg:DJ p)(hgl:p.gs.length<=4000){x:ByteArray}(ha:∀n∈args,Bo n){s:St}(hs:GK p x args=some s){fuel:Int}(hfu:fuel<=100000):Way p s fuel/\jW s:=by
 have hw:=bP hg hs;unfold GK at hs;split at hs
 ·cases hs
 ·rename_i f hf
  split at hs
  ·cases hs
  ·rename_i b0 br hbs
   injection hs with hs;subst hs;have hc:ZH ({st0 with frames:=[⟨x,b0.n,0,ET f.ps args []⟩],globals:=p.gs.map fun g=>Ap g.t}:St):=
    ⟨Int.le_refl 0,⟨Int.le_refl 0,Int.le_refl 0,rfl⟩,⟨Int.le_refl 0,Int.le_refl 0⟩,⟨Int.le_refl 0,rfl⟩,Int.le_refl 0,rfl,(fun m h=>by cases h),(fun k a b h=>by simp[st0]at h),(fun e h=>by cases h),(show((1:Nat):Int)<=0+1 by decide),⟨(fun h=>absurd (show(0:Int)=1 from h) (by decide)),(fun h=>by cases h)⟩⟩
   have hr:Ga ({st0 with frames:=[⟨x,b0.n,0,ET f.ps args []⟩],globals:=p.gs.map fun g=>Ap g.t}:St):=
    ⟨(fun y hy=>by
     obtain rfl:=List.mem_singleton.1 hy
     exact Oh f.ps args [] ha (fun y hy=>by cases hy)),(fun ob h=>by cases h),fun v hv=>by
     obtain⟨g,-,rfl⟩:=List.mem_map.1 hv
     exact JW _⟩
   have hy:Way p ({st0 with frames:=[⟨x,b0.n,0,ET f.ps args []⟩],globals:=p.gs.map fun g=>Ap g.t}:St) fuel:=⟨hw,hc,hr,(show(0:Int)<=100000 by decide),hfu,by simpa using hgl⟩;exact⟨hy,{toSmall:=hy.small,vs:=(fun ob h=>by cases h),ar:=(fun e h=>by cases h)}⟩
end
def DV(c:Cl):Nat:=c.n.size+CY c.fs
def Fe(x:Ex):Nat:=1+x.n.size
def Ww(p:Pg):Nat:=CY p.gs+Aj DV p.cs+Aj Fe p.xs+Aj cntF p.fs
structure Q0(p:Pg):Prop where
 c:p.cs.length<=50
 x:p.xs.length<=50
 f:p.fs.length<=50
 n:Ww p<=4000
def uZ(p:Pg)(e:Ending):Prop:=∃b:Bool,e=.returned (.bool b)/\(b=true->Q0 p)
theorem uO{k:Int}{A q:Nat}{l:List Cl}(h:q<l.length)(he:GV k (A+Aj DV (l.take q)+l[q].n.size+CY l[q].fs)):GV k (A+Aj DV (l.take (q+1))):=
 he.cast (by rw[BD DV h];unfold DV;omega)
theorem tO{k:Int}{A q:Nat}{l:List Fn}(h:q<l.length)(he:GV k (A+Aj cntF (l.take q)+cntF l[q])):GV k (A+Aj cntF (l.take (q+1))):=
 he.cast (by rw[BD cntF h];omega)
theorem fF{w0:World}(h0:AA6 w0 w){u1 u2 u3 u4:Value}(hv:Cj w0 v p u1 u2 u3 u4):Calls prog 40 #[v,.int .i64 4000] w fun e w'=>AA6 w w'/\uZ p e:=by
 obtain⟨rfl,hc,hg,hx,hf⟩:=hv;obtain⟨p1,k1,rfl,-,hn1,hc⟩:=hc;obtain⟨p2,k2,rfl⟩:=hg.slice;obtain⟨p3,k3,rfl,-,QY,hx⟩:=hx;obtain⟨p4,k4,rfl,-,iH,hf⟩:=hf;have hb1:=AJ w (.cells #[.bool p.ssa,.slice p1 p.cs.length k1,.slice p2 p.gs.length k2,.slice p3 p.xs.length k3,.slice p4 p.fs.length k4] 27);have hB:=Ae.alloc w [.bool p.ssa,.slice p1 p.cs.length k1,.slice p2 p.gs.length k2,.slice p3 p.xs.length k3,.slice p4 p.fs.length k4] 27;have h1:=AB h0 hb1;have hG:=JC h1 hg;clear hg;go_enter func40,ntmps40;by_cases c1:50<p.cs.length
 ·have c1:(50:Int)<p.cs.length:=by omega
  clear h1 hG hc hx hf;go_wp2;go_ret;exact⟨hb1,_,rfl,fun h=>by cases h⟩
 have c1I:¬(50:Int)<p.cs.length:=by omega
 by_cases c2:50<p.xs.length
 ·have c2:(50:Int)<p.xs.length:=by omega
  clear h1 hG hc hx hf;go_wp2;go_ret;exact⟨hb1,_,rfl,fun h=>by cases h⟩
 have c2I:¬(50:Int)<p.xs.length:=by omega
 by_cases c3:50<p.fs.length
 ·have c3:(50:Int)<p.fs.length:=by omega
  clear h1 hG hc hx hf;go_wp2;go_ret;exact⟨hb1,_,rfl,fun h=>by cases h⟩
 have c3I:¬(50:Int)<p.fs.length:=by omega
 go_wp2_with fail;refine hG.mono ?_;rintro e w2 ⟨hw2,k,rfl,⟨hk0,hk1⟩,he⟩;rw[<-hw2];obtain⟨W,hW⟩:∃W,W=w.alloc (.cells #[.bool p.ssa,.slice p1 p.cs.length k1,.slice p2 p.gs.length k2,.slice p3 p.xs.length k3,.slice p4 p.fs.length k4] 27):=⟨_,rfl⟩;rw[<-hW]at hb1 hB h1⊢;clear hW hw2 hG;go_upto_block 0 with fail;go_cut[5,6]from 29 to 62 (fun n _ wx=>WX n 4503599627370496 (CY p.gs+Aj DV p.cs)/\wx=W)
 ·have b1:=hB.c 1 _ rfl;clear hx hf;go_wp2;go_loopw[5,6] (fun n i wr=>∃q:Nat,∃k:Int,q<=p.cs.length/\i=.int .i64 (q:Int)/\n=.int .i64 k/\Cn k 4503599627370496/\GV k (CY p.gs+Aj DV (p.cs.take q))/\wr=W) (fun _ i _=>p.cs.length-(intOf i).toNat);exact⟨0,_,AY,rfl,rfl,⟨hk0,by omega⟩,he,rfl⟩;clear hk0 hk1 he;obtain⟨q,k,hq,rfl,rfl,⟨hk0,hk1⟩,he,rfl⟩:=hrel;by_cases hend:q=p.cs.length
  ·subst hend;rw[DY]at he;go_wp2;go_meet;exact⟨⟨_,rfl,⟨hk0,hk1⟩,he⟩,rfl⟩
  ·have hlt:q<p.cs.length:=(by omega);have A8:(q:Int)<p.cs.length:=(by omega);by_cases hk2:k<=4000
   ·obtain⟨a,rfl,⟨g1,g2⟩,u,g5,hr⟩:=hc q p.cs[q] (by simp[hlt]);have g1:=AA h1 g1;have g5:=AA h1 g5;have g2:=Qe g2;have hA:=JC h1 hr;obtain⟨pa,ka,rfl⟩:=hr.slice;have hS:=fun k:Int=>uO (k:=k) (A:=CY p.gs) hlt;generalize p.cs[q]=y at*;by_cases hk3:k+y.n.size<=4000
    ·go_wp2_with fail;refine hA.mono ?_;rintro e w2 ⟨rfl,n,rfl,⟨hn0,hn1⟩,he2⟩;have pJ:=hS _ ((he.add (.of (n:=y.n.size)) hk0 (by omega)).add he2 (by omega) hn0);go_wp2;go_roundw;exact⟨q+1,k+y.n.size+n,by omega,by go_num,by go_num,⟨by omega,by omega⟩,pJ,trivial⟩;simp[intOf];omega
    ·clear hA hS;go_wp2;go_roundw;exact⟨q+1,k+y.n.size,by omega,by go_num,by go_num,⟨by omega,by omega⟩,.big (by omega),trivial⟩;simp[intOf];omega
   ·clear hc;go_wp2;go_meet;exact⟨⟨_,rfl,⟨hk0,hk1⟩,.big (by omega)⟩,rfl⟩
 obtain⟨⟨k,rfl,⟨hk0,hk1⟩,he⟩,rfl⟩:=hcut;go_upto_block 2 with fail;go_cut[5,7]from 63 to 84 (fun n _ wx=>WX n 4503599627370496 (CY p.gs+Aj DV p.cs+Aj Fe p.xs)/\wx=wc)
 ·have b3:=hB.c 3 _ rfl;go_wp2;go_loopw[5,7] (fun n i wr=>∃q:Nat,∃k:Int,q<=p.xs.length/\i=.int .i64 (q:Int)/\n=.int .i64 k/\Cn k 4503599627370496/\GV k (CY p.gs+Aj DV p.cs+Aj Fe (p.xs.take q))/\wr=wc) (fun _ i _=>p.xs.length-(intOf i).toNat);exact⟨0,_,AY,rfl,rfl,⟨hk0,hk1⟩,he,rfl⟩;obtain⟨q,k,hq,rfl,rfl,⟨hk0,hk1⟩,he,rfl⟩:=hrel;by_cases hend:q=p.xs.length
  ·subst hend;rw[DY]at he;go_wp2;go_meet;exact⟨⟨_,rfl,⟨hk0,hk1⟩,he⟩,rfl⟩
  ·have hlt:q<p.xs.length:=(by omega);have A8:(q:Int)<p.xs.length:=(by omega);by_cases hk2:k<=4000
   ·obtain⟨a,rfl,⟨g1,g2⟩,-⟩:=hx q p.xs[q] (by simp[hlt]);have g1:=AA h1 g1;have g2:=Qe g2;have hnx:=BD Fe hlt;change _=_+(1+p.xs[q].n.size)at hnx;clear hx;generalize p.xs[q]=y at*;go_wp2;go_roundw;exact⟨q+1,k+1+y.n.size,by omega,by go_num,by go_num,⟨by omega,by omega⟩,((he.add (.of (n:=1)) hk0 (by omega)).add (.of (n:=y.n.size)) (by omega) (by omega)).cast (by omega),trivial⟩;simp[intOf];omega
   ·clear hx;go_wp2;go_meet;exact⟨⟨_,rfl,⟨hk0,hk1⟩,.big (by omega)⟩,rfl⟩
 clear hk0 hk1 he hx;obtain⟨⟨k,rfl,⟨hk0,hk1⟩,he⟩,rfl⟩:=hcut;go_upto_block 4 with fail;go_cut[5,8]from 85 to 105 (fun n _ wx=>WX n 4503599627370496 (Ww p)/\AA6 wc wx)
 ·go_wp2;go_loopw[5,8] (fun n i wr=>∃q:Nat,∃k:Int,q<=p.fs.length/\i=.int .i64 (q:Int)/\n=.int .i64 k/\Cn k 4503599627370496/\GV k (CY p.gs+Aj DV p.cs+Aj Fe p.xs+Aj cntF (p.fs.take q))/\AA6 wc wr) (fun _ i _=>p.fs.length-(intOf i).toNat);exact⟨0,_,AY,rfl,rfl,⟨hk0,hk1⟩,he,AL⟩;clear hk0 hk1 he;obtain⟨q,k,hq,rfl,rfl,⟨hk0,hk1⟩,he,hbw⟩:=hrel;have hB1:=hB.nx hbw;have b4:=hB1.c 4 _ rfl;by_cases hend:q=p.fs.length
  ·subst hend;rw[DY]at he;go_wp2;go_meet;exact⟨⟨_,rfl,⟨hk0,hk1⟩,he⟩,hbw⟩
  ·have hlt:q<p.fs.length:=(by omega);have A8:(q:Int)<p.fs.length:=(by omega);by_cases hk2:k<=4000
   ·obtain⟨a,rfl,⟨g0,y1⟩,⟨g1,y2⟩,⟨v2,g2,r2⟩,⟨v3,g3,r3⟩,v4,g4,r4⟩:=hf q p.fs[q] (by simp[hlt]);have hw:=AB h1 hbw;have hV:EL w0 (.agg #[.string p.fs[q].n,.string p.fs[q].r,v2,v3,v4]) p.fs[q] v2 v3 v4:=⟨rfl,⟨y1,y2⟩,r2,r3,r4⟩;have hA:=Sm hw hV;have g0:=AA hw g0;have g1:=AA hw g1;have g2:=AA hw g2;have g3:=AA hw g3;have g4:=AA hw g4;obtain⟨p2',k2',rfl⟩:=r2.slice;obtain⟨uw,k3',rfl⟩:=r3.slice;obtain⟨p4',k4',rfl⟩:=r4.slice;have hS:=fun k:Int=>tO (k:=k) (A:=CY p.gs+Aj DV p.cs+Aj Fe p.xs) hlt;generalize p.fs[q]=y at*;go_wp2_with fail;refine hA.mono ?_;rintro e w2 ⟨hb2,n,rfl,⟨hn0,hn1⟩,hn2⟩;have hbw2:=AB hbw hb2;have pJ:=hS _ (he.add hn2 hk0 hn0);go_wp2;go_roundw;exact⟨q+1,k+n,by omega,by go_num,by go_num,⟨by omega,by omega⟩,pJ,hbw2⟩;simp[intOf];omega
   ·clear hf hB hB1;go_wp2;go_meet;exact⟨⟨_,rfl,⟨hk0,hk1⟩,.big (by omega)⟩,hbw⟩
 obtain⟨⟨k,rfl,⟨hk0,hk1⟩,he⟩,hbw⟩:=hcut;have hbf:=AB hb1 hbw;have hfin:k<=4000->Q0 p:=fun h=>⟨by omega,by omega,by omega,by have:=he h;omega⟩;by_cases hk2:k<=4000
 ·have hfin:=Wx (hfin hk2);go_wp2;go_ret;exact⟨hbf,_,rfl,fun _=>hfin.out⟩
 ·clear he hB hb1 hfin;go_wp2;go_ret;exact⟨hbf,_,rfl,fun h=>by cases h⟩
section
structure Kp(e:TypeId)(B:Nat)(w w':World):Prop where
 b:Below B w w'
 k:∀r,r<w.heap.size->(∀cur m,w.heap[r]?≠some (.cells cur e m))->w'.heap[r]? =w.heap[r]?
section
variable {e : TypeId} {B : Nat} {w w1 w2 : World}
theorem Kp.refl:Kp e B w w:=⟨AL,fun _ _ _=>rfl⟩
theorem Kp.of(h:AA6 w w1)(hB:B<=w.heap.size):Kp e B w w1:=⟨h.mono hB,fun r hr _=>h.block r hr⟩
theorem Kp.trans(h:Kp e B w w1)(k:Kp e B w1 w2):Kp e B w w2:=⟨h.b.trans k.b,fun r hr hn=>by
 have e1:=h.k r hr hn
 exact(k.k r (A9 hr h.b.size) (by rw[e1];exact hn)).trans e1⟩
theorem Kp.nx(h:Kp e B w w1)(hB:B<=w.heap.size)(hb:AA6 w1 w2):Kp e B w w2:=h.trans (.of hb (AX hB h.b.size))
theorem Kp.grown(hx:w.ownsRow B e s v n xs)(hg:w.grownBy w1 v.ownBlock)(hB:B<=w.heap.size):Kp e B w w1:=
 ⟨(Below.refl B w).grown hg hB (fun k hk=>(hx.lt k hk).1),fun r hr hn=>hg.block r hr fun h=>by
  rcases hx.2 with⟨rfl,_⟩|⟨g,cap,cur,rfl,_,hh,_⟩
  ·cases h
  ·obtain rfl:r=g:=by simpa[Value.ownBlock]using h
   exact hn _ _ hh⟩
theorem Kp.typ{p:Nat}(h:Kp e B w w1)(hT:TG w p t)(hne:t≠e):w1.heap[p]? =w.heap[p]? :=by grind [TG,cases Kp]
theorem Kp.row{B':Nat}{e':TypeId}(h:Kp e B w w1)(hx:w.ownsRow B' e' s v n xs)(hne:e'≠e):w1.ownsRow B' e' s v n xs:=by
 refine⟨hx.1,hx.2.imp id ?_⟩;rintro⟨g,cap,cur,h1,h2,h3,h4⟩;exact⟨g,cap,cur,h1,h2,(h.typ ⟨_,_,h3⟩ hne).trans h3,h4⟩
theorem TG.al{p:Nat}(h:TG w p t)(hb:AA6 w w1):TG w1 p t:=by
 have hl:=h.lt;obtain⟨cur,m,h⟩:=h;exact⟨cur,m,(hb.block p hl).trans h⟩
theorem TG.new(w:World)(cs:Array Value)(t:TypeId):TG (w.alloc (Obj.cells cs t)) w.heap.size t:=⟨cs,_,heap_alloc_new w _⟩
theorem TG.kp{p:Nat}(hT:TG w p t)(h:Kp e B w w1)(hne:t≠e):TG w1 p t:=by grind [TG,cases Kp]
def Ws(w:World)(v:Value)(l:List ByteArray):Prop:=∃B,w.ownsRow B 9 1 v l.length (l.map .string)
theorem Ws.kp{l:List ByteArray}(h:Ws w v l)(hk:Kp e B w w1)(hne:9≠e):Ws w1 v l:=by
 obtain⟨C,h⟩:=h;exact⟨C,hk.row h hne⟩
theorem Ws.at{l:List ByteArray}(h:Ws w v l):∃p c,v=.slice p l.length c/\∀(q:Nat) s,l[q]? =some s->∃g,p=some ⟨g,0,none⟩/\w.cell? ⟨g,q,none⟩=some (.string s):=by
 obtain⟨C,h⟩:=h;obtain⟨p,c,rfl⟩:=Bf h;refine⟨p,c,rfl,fun q s hq=>?_⟩;have hl:q<l.length:=(List.getElem?_eq_some_iff.1 hq).1;rcases h.2 with⟨h1,h2⟩|⟨g,cap,cur,h1,-⟩
 ·omega
 ·obtain⟨rfl,rfl⟩:p=some ⟨g,0,none⟩/\c=cap:=by simpa using h1
  refine⟨g,rfl,?_⟩;rw[h.cellAt q (by omega),List.getElem?_map,hq];rfl
theorem Ws.new(w:World)(l:List ByteArray)(hl:l.length<=maxLen):Ws (w.alloc (Obj.cells (l.map Value.string).toArray 9)) (.slice (some ⟨w.heap.size,0,none⟩) l.length l.length) l:=by
 refine⟨0,?_⟩;have:=World.ownsRow_lit (base:=0) (e:=9) (size:=1) w (l.map Value.string).toArray l.length (AY) hl (by simp);simpa using this
end
def lens(l:List ByteArray):Nat:=Aj (fun s=>s.size+1) l
theorem Iu:∀l:List ByteArray,l.length<=lens l
 | []=>AQ
 |x::r=>by
  have:=Iu r;unfold lens at this⊢;simp only[List.length_cons,Aj];omega
abbrev TF(b:UInt8):Value:=.int .u8 b.toNat
def BU(w:World)(B:Nat)(v:Value)(n:Nat):Prop:=∃bs:List UInt8,bs.length<=n/\w.ownsRow B 5 1 v bs.length (bs.map TF)
theorem BU.up(h:BU w B v n)(hk:n<=k):BU w B v k:=by grind [BU]
theorem BU.nx{w1:World}(h:BU w B v n)(hb:AA6 w w1):BU w1 B v n:=by grind [BU,Dh]
theorem BU.one(hn:bs.length<=n)(c:UInt8)(h:w.ownsRow B 5 1 v (bs.length+1) (bs.map TF++[TF c])):BU w B v (n+1):=
 ⟨bs++[c],by simp;omega,by rw[List.length_append,List.map_append];exact h⟩
theorem BU.str1(hn:bs.length<=n)(s:ByteArray)(h:w.ownsRow B 5 1 v (bs.length+s.size) (bs.map TF++Lib.strCells s)):BU w B v (n+s.size):=
 ⟨bs++s.data.toList,by simp;omega,by rw[List.length_append,List.map_append,Array.length_toList];exact h⟩
theorem BU.two(hn:bs.length<=n)(s:ByteArray)(h:w.ownsRow B 5 1 v (bs.length+1+s.size) (bs.map TF++[TF 32]++Lib.strCells s)):BU w B v (n+1+s.size):=
 ⟨bs++[32]++s.data.toList,by simp;omega,by rw[List.length_append,List.length_append,List.map_append,List.map_append,Array.length_toList];exact h⟩
theorem BU.sl(h:BU w B v n):∃p m c,v=.slice p m c:=by grind [BU,Bf]
theorem Cx{lv:Value}{l:List ByteArray}(hv:BU w B v n)(hl:Ws w lv l)(hB:B<=w.heap.size)(hn:n+lens l<=100000000):Calls prog 170 #[v,lv] w fun e w'=>∃v',e=.returned v'/\BU w' B v' (n+lens l+1)/\Kp 5 B w w':=by
 obtain⟨i0,hi,hz0,hz1,hz2⟩:=Cq (P:=prog) (t:=5) (z:=.int .u8 0) (s:=1) (b:=1) (by kernel_rfl);obtain⟨p0,m0,c0,rfl⟩:=hv.sl;obtain⟨p,c,rfl,-⟩:=hl.at;have hll:=Iu l;go_enter func170,ntmps170;go_wp2;go_loopw[0,5] (fun v i wr=>∃(q:Nat),q<=l.length/\i=.int .i64 (q:Int)/\BU wr B v (n+lens (l.take q))/\Kp 5 B w wr) (fun _ i _=>l.length-(intOf i).toNat);exact⟨0,AY,rfl,hv.up (by omega),.refl⟩;obtain⟨q,hq,rfl,⟨bs,hm,hv⟩,hk⟩:=hrel;obtain⟨p0,c0,rfl⟩:=Bf hv;have hBr:B<=wr.heap.size:=AX hB hk.b.size;by_cases hend:q=l.length
 ·subst hend;rw[List.take_length]at hm;have hm:bs.length<=n+lens l:=hm;have hB2:=Ae.alloc wr [.int .u8 10] 5;go_wp2_with(at_builtin;refine wpList_append_own' rfl _ _ 250 rfl B 5 i0 _ 1 1 underlying250 hi hz0 hz1 hz2 rfl (by decide) _ bs.length (bs.map TF) rfl (World.ownsRow.alloc hv _) ⟨wr.heap.size,0,none⟩ 1 1 [.int .u8 10] rfl rfl (fun j u hu=>by rw[Dk,Nat.zero_add];exact hB2.c j u hu) (by simp[Value.oneCell']) (by unfold maxLen;omega) (by omega) (by simp;omega) ?_;intro v' w3 ho hg hf;obtain⟨N7,Nh,rfl⟩:=Bf ho)
  go_ret;exact⟨_,rfl,BU.one hm 10 ho,(hk.nx hB (AJ _ _)).trans (.grown (World.ownsRow.alloc hv _) hg (by simp;omega))⟩
 ·have hlt:q<l.length:=by omega
  have A8:(q:Int)<l.length:=by omega
  obtain⟨g,rfl,hg0⟩:∃g,p=some ⟨g,0,none⟩/\wr.cell? ⟨g,q,none⟩=some (.string l[q]):=by
   obtain⟨p',c',h1,h2⟩:=(hl.kp hk (by decide)).at;obtain⟨rfl,rfl⟩:p=p'/\c=c':=(by simpa using h1);exact h2 q l[q] (by simp[hlt])
  have hs:=BD (fun s:ByteArray=>s.size+1) hlt;have hall:lens (l.take (q+1))<=lens l:=by
   have:=D5 (fun s:ByteArray=>s.size+1) (l.take (q+1)) (l.drop (q+1));rw[List.take_append_drop]at this;unfold lens;omega
  change lens (l.take (q+1))=lens (l.take q)+(l[q].size+1)at hs;have hT:TG wr g 9:=by
   obtain⟨C,hx⟩:=hl.kp hk (by decide);rcases hx.2 with⟨h1,-⟩|⟨g',cap,cur,h1,-,h3,-⟩
   ·cases h1
   ·obtain rfl:g=g':=(by simpa using(Value.slice.inj h1).1);exact⟨_,_,h3⟩
  generalize l[q]=s at*;by_cases h0:q=0
  ·subst h0;simp only[Nat.zero_add]at hs hall;(go_wp2_with(at_builtin;refine Lib.wpList_append_own_string _ rfl _ _ 250 9 rfl B 5 i0 underlying250 underlying9 hi hz0 hz1 hz2 _ bs.length (bs.map TF) rfl hv s rfl (by unfold maxLen;omega) (by omega) hBr ?_;intro v' w3 ho hg hf;obtain⟨N7,Nh,rfl⟩:=Bf ho));go_roundw;exact⟨1,by omega,rfl,(BU.str1 hm s ho).up (by omega),hk.trans (.grown hv hg hBr)⟩;simp[intOf];omega
  ·have vR:(0:Int)<q:=(by omega);have hB2:=Ae.alloc wr [.int .u8 32] 5;have hg1:=AA (AJ wr (Obj.cells #[.int .u8 32] 5)) hg0;have hT1:=hT.al (AJ wr (Obj.cells #[.int .u8 32] 5))
   go_wp2_with first
    |(at_builtin;refine wpList_append_own' rfl _ _ 250 rfl B 5 i0 _ 1 1 underlying250 hi hz0 hz1 hz2 rfl (by decide) _ bs.length (bs.map TF) rfl (World.ownsRow.alloc hv _) ⟨wr.heap.size,0,none⟩ 1 1 [.int .u8 32] rfl rfl (fun j u hu=>by rw[Dk,Nat.zero_add];exact hB2.c j u hu) (by simp[Value.oneCell']) (by unfold maxLen;omega) (by omega) (by simp;omega) ?_;intro v2 w2 ho2 AD6 hf2;obtain⟨pu2,cu2,rfl⟩:=Bf ho2;have hk2:=Kp.grown (World.ownsRow.alloc hv _) AD6 (by simp;omega);have hg2:=(BM (hk2.typ hT1 (by decide)) q).trans hg1)
    |(at_builtin;refine Lib.wpList_append_own_string _ rfl _ _ 250 9 rfl B 5 i0 underlying250 underlying9 hi hz0 hz1 hz2 _ (bs.length+1) _ rfl ho2 s rfl (by unfold maxLen;omega) (by omega) (AX (by simp;omega) hk2.b.size) ?_;intro v3 w3 ho3 AD5 hf3;obtain⟨pu3,cu3,rfl⟩:=Bf ho3;have hk3:=Kp.grown ho2 AD5 (AX (by simp;omega) hk2.b.size))
   go_roundw;exact⟨q+1,by omega,by go_num,(BU.two hm s ho3).up (by omega),((hk.nx hB (AJ _ _)).trans hk2).trans hk3⟩;simp[intOf];omega
end
section
open Dp
theorem Tryz.tC:(prog.info? 5).map (fun i=>(i.zero,i.size,i.bytes))=some (some (.int .u8 0),1,1):=by kernel_rfl
end
section
open Dp
theorem kH(w:World)(d:UInt8)(n:Int)(hn:n=(d.toNat:Int)):(w.alloc (.cells #[.int .u8 n] 5)).ownsRow w.heap.size 5 1 (.slice (some ⟨w.heap.size,0,none⟩) 1 1) 1 [Gg d]:=by
 subst hn;exact⟨rfl,.inr ⟨w.heap.size,1,_,rfl,AQ,heap_alloc_new w _,by omega,by unfold maxLen;omega,rfl,rfl⟩⟩
theorem dO{b b':Nat}{size:Nat}(h:b<=b')(ho:w.ownsRow b' e size v n xs):w.ownsRow b e size v n xs:=by
 refine⟨ho.1,?_⟩;rcases ho.2 with h1|⟨g,cap,cur,h1,h2,h3⟩
 ·exact .inl h1
 ·exact .inr ⟨g,cap,cur,h1,by omega,h3⟩
theorem Rf(n:Int)(w:World):Calls prog 217 #[.int .i64 n] w fun e w'=>e=.returned (.string ⟨(Hf (pb n)).toArray⟩)/\AA6 w w':=by
 obtain⟨i0,hi,hz0,hz1,hz2⟩:=info_parts Tryz.tC;have hu:IntKind.u64.wrap (Ba n)=((pb n:Nat):Int):=by rw[IntKind.wrap_u64];unfold pb u64;omega
 go_enter func217,ntmps217;go_wp2_with((with_reducible refine(NG ..).mono ?_);rintro e w' ⟨rfl,rfl⟩)
 go_loopw[3,4,5,6] (fun u v i _ wr=>∃k x:Nat,k<=16/\i=.int .i64 (k:Int)/\u=.int .u64 (x:Int)/\Hid (x=pb n/16^k)/\wr.ownsRow w.heap.size 5 1 v k ((Ie (pb n) k).map Gg)/\AA6 w wr) (fun _ _ i _ _=>16-(intOf i).toNat);exact⟨0,pb n,by omega,rfl,rfl,by rw[Nat.pow_zero,Nat.div_one];rfl,World.ownsRow_nil _ _ _ _,AL⟩;obtain⟨k,x,hk,rfl,rfl,hx,hown,hb⟩:=hrel;by_cases hlt:k<16
 ·obtain⟨d,hdd⟩:∃d,d=x%16:=⟨_,rfl⟩;have hdl:d<16:=by omega
  have hd:((x:Int)%16)=(d:Int):=by omega
  have Hd:Hid (d=pb n/16^k%16):=by show _=_;rw[hdd,hx.out]
  have Hx:Hid (x/16=pb n/16^ (k+1)):=by show _=_;rw[hx.out,Nat.div_div_eq_div_mul,Nat.pow_succ]
  have Hw:Hid (IntKind.u64.wrap ((x:Int)/16)=((x/16:Nat):Int)):=by
   show _=_;have h1:=Zu n;have h2:x<=pb n:=(by rw[hx.out];exact Nat.div_le_self _ _);rw[IntKind.wrap_u64];omega
  clear hdd;have hlo:=Wx (@lH d);have hhi:=Wx (@lI d);by_cases h0:d<10;all_goals
   have o1:=kH (n:=if d<10 then(d:Int)+48 else(d:Int)+87) wr (Tk d) (by first|(rw[if_pos h0];exact(hlo.out h0).symm)|(rw[if_neg h0];exact(hhi.out h0 hdl).symm))
   first|rw[if_pos h0]at o1|rw[if_neg h0]at o1
   (go_wp2_with(at_builtin;refine CP rfl (.tmp 24) (.tmp 25) 250 rfl wr.heap.size 5 i0 (.int .u8 0) 1 1 underlying250 hi hz0 hz1 hz2 rfl (by decide) _ _ _ rfl o1 w.heap.size _ k _ rfl (hown.alloc _) (Es _) (by unfold maxLen;omega) (by omega) (by simp) ?_;intro v' w1 hown' hgrow));have hb':AA6 w w1:=(hb.alloc hb.size _).grown hgrow (by have:=hb.size;simp;omega) (fun k hk=>AX hb.size (o1.lt k hk).1);have hown2:w1.ownsRow w.heap.size 5 1 v' (k+1) ((Ie (pb n) (k+1)).map Gg):=by
    rw[Ie,<-Hd.out,List.map_cons,Nat.add_comm k 1];exact dO hb.size hown'
   go_wp2;go_roundw;exact⟨k+1,x/16,by omega,by go_num,congrArg (Value.int .u64) Hw.out,Hx,hown2,hb'⟩;simp[intOf];omega
 ·obtain rfl:k=16:=by omega
  have hrun:=D7 (P:=prog) (dst:=9) underlying250 underlying5 underlying9 hown;have hadd:=run_string_add_lists (P:=prog) wr [48,102] (Ie (pb n) 16) (by decide) (by rw[Ny];decide);rw[Sg]at hadd;go_wp2;go_ret;exact⟨rfl,hb⟩
end
section
open Dp
def MK(l:List UInt8)(e:Ending):Prop:=e=.returned (.tuple #[.int .i64 (LZ l).1,.bool (LZ l).2])
theorem R3(h:LZ l=(0,false)):MK l (.returned (.tuple #[.int .i64 0,.bool false])):=by unfold MK;rw[h]
theorem YW{n:Int}(h:LZ l=(n,true)):MK l (.returned (.tuple #[.int .i64 n,.bool true])):=by unfold MK;rw[h]
theorem YV(h:l.length≠18):LZ l=(0,false):=by simp[LZ,h]
theorem Xk(s:ByteArray)(w:World)(h:s.size≠18):Calls prog 250 #[.string s] w fun e w'=>MK s.data.toList e/\AA6 w w':=by
 have h':((s.size:Int) !=18)=true:=by rw[bne_iff_ne];omega
 have H:=Wx (YV (l:=s.data.toList) (by simpa using h));go_enter func250,ntmps250;go_wp2;go_ret2;exact⟨R3 H.out,AL⟩
theorem jy(s:ByteArray)(w:World)(h:s.size=18):Calls prog 250 #[.string s] w fun e w'=>MK s.data.toList e/\AA6 w w':=by
 have h':((s.size:Int) !=18)=false:=by rw[bne_eq_false_iff_eq];omega
 go_enter func250,ntmps250;go_wp2;go_loop[4,5,6] (fun u i _=>∃k x:Nat,k<=16/\i=.int .i64 ((2+k:Nat):Int)/\u=.int .u64 (x:Int)/\Hid (x=H9 s.data.toList k)) (fun _ i _=>18-(intOf i).toNat);exact⟨0,0,by omega,rfl,rfl,rfl⟩;obtain⟨k,x,hk,rfl,rfl,hx⟩:=hrel;by_cases hlt:k<16
 ·have hs:2+k<s.size:=by omega
  have hc:=Wx s[2+k].toNat_lt;have hg:=Wx (getD_at hs);have xU:Hid (x<1152921504606846976):=by show _<_;rw[hx.out];exact U9 _ hlt
  have hstep:Hid (H9 s.data.toList (k+1)=x*16+Qm s[2+k].toNat):=by show _=_;rw[H9,<-hx.out,hg.out]
  go_wp2
  ·go_round;exact⟨k+1,_,by omega,by go_num,congrArg (Value.int .u64) (sP xU.out hc.out (by assumption)),hstep.out.symm⟩;simp[intOf];omega
  ·go_round;exact⟨k+1,_,by omega,by go_num,congrArg (Value.int .u64) (sO xU.out hc.out (by assumption)),hstep.out.symm⟩;simp[intOf];omega
 ·obtain rfl:k=16:=by omega
  have H1:=Wx (@lN s x hx.out);have H2:=Wx (@eu s x h hx.out);go_wp2_with((with_reducible refine(Rf ..).mono ?_);rintro e w' ⟨rfl,hb⟩)
  ·go_ret2;exact⟨R3 (H1.out (by assumption)),hb⟩
  ·go_ret2;exact⟨YW (H2.out (by assumption)),hb⟩
theorem bg(s:ByteArray)(w:World):Calls prog 250 #[.string s] w fun e w'=>MK s.data.toList e/\AA6 w w':=by grind [jy,Xk]
end
section
open Dp
@[go_sem] theorem ABt (s:ByteArray) (c:Int) (w:World):(callFunc 226 #[.string s,.int .u8 c]).run prog w=.ok (.value (.int .i64 (firstIdx s c.toNat.toUInt8))) w:=by
 rw[run_callFunc_extern (e:=Extern.BytealgIndexByte.indexByte) func226 (by kernel_rfl) (by kernel_rfl) (by kernel_rfl) (by kernel_rfl),run_indexByte_string];rfl
end
section
open Num
theorem SS{n:Int}(hneg:¬n<0)(hk:nd n.natAbs=k):Ee n=L8 n.natAbs k:=by grind [nd,Ee,L8,sign]
theorem SV{n:Int}(hneg:n<0)(hk:nd n.natAbs=k):Ee n=45::L8 n.natAbs k:=by grind [nd,Ee,L8,sign]
theorem kP{m:Nat}(hm:m<=9223372036854775808)(hk:k<nd m)(h0:m/10^ (k+1)=0):nd m=k+1:=by grind [QG]
theorem kN{m:Nat}(hm:m<=9223372036854775808)(hk:k<nd m)(h0:m/10^ (k+1)≠0):k+1<nd m:=by grind [QG]
end
section
open Num
theorem Tryz.kZ:(prog.info? 5).map (fun i=>(i.zero,i.size,i.bytes))=some (some (.int .u8 0),1,1):=by kernel_rfl
theorem QN(w:World)(d:UInt8)(n:Int)(hn:n=(d.toNat:Int)):(w.alloc (.cells #[.int .u8 n] 5)).ownsRow w.heap.size 5 1 (.slice (some ⟨w.heap.size,0,none⟩) 1 1) 1 [Gg d]:=by
 subst hn;exact⟨rfl,.inr ⟨w.heap.size,1,_,rfl,AQ,heap_alloc_new w _,by omega,by unfold maxLen;omega,rfl,rfl⟩⟩
theorem Xy{b b':Nat}{size:Nat}(h:b<=b')(ho:w.ownsRow b' e size v n xs):w.ownsRow b e size v n xs:=by
 refine⟨ho.1,?_⟩;rcases ho.2 with h1|⟨g,cap,cur,h1,h2,h3⟩
 ·exact .inl h1
 ·exact .inr ⟨g,cap,cur,h1,by omega,h3⟩
theorem AB6(n:Int)(hn:Hid (-9223372036854775808<=n/\n<=9223372036854775807))(w:World):Calls prog 147 #[.int .i64 n] w fun e w'=>e=.returned (.int .u64 (n.natAbs:Int))/\w=w':=by
 by_cases h:n<0
 ·have H:Hid (IntKind.u64.wrap (-(IntKind.u64.wrap n))=(n.natAbs:Int)):=by
   show _=_;have:=hn.out;rw[IntKind.wrap_u64,IntKind.wrap_u64];omega
  go_enter func147,ntmps147;go_wp2;go_ret;exact⟨FQ H.out,rfl⟩
 ·have H:Hid (IntKind.u64.wrap n=(n.natAbs:Int)):=by
   show _=_;have:=hn.out;rw[IntKind.wrap_u64];omega
  go_enter func147,ntmps147;go_wp2;go_ret;exact⟨FQ H.out,rfl⟩
theorem Kc(n:Int)(hn:Hid (-9223372036854775808<=n/\n<=9223372036854775807))(w:World):Calls prog 172 #[.int .i64 n] w fun e w'=>e=.returned (.string ⟨(Ee n).toArray⟩)/\AA6 w w':=by
 obtain⟨i0,hi,hz0,hz1,hz2⟩:=info_parts Tryz.kZ;have hm:Hid (n.natAbs<=9223372036854775808):=by show _<=_;have:=hn.out;omega
 go_enter func172,ntmps172;go_wp2_with((with_reducible refine(AB6 _ hn _).mono ?_);rintro e w' ⟨rfl,rfl⟩)
 go_loopw[3,4] (fun v u wr=>∃k x:Nat,k<nd n.natAbs/\k<=18/\u=.int .u64 (x:Int)/\Hid (x=n.natAbs/10^k)/\wr.ownsRow w.heap.size 5 1 v k ((L8 n.natAbs k).map Gg)/\AA6 w wr) (fun _ u _=>(intOf u).toNat);exact⟨0,n.natAbs,aI _,by omega,rfl,by rw[Nat.pow_zero,Nat.div_one];rfl,World.ownsRow_nil _ _ _ _,AL⟩;obtain⟨k,x,hk,AJf,rfl,hx,hown,hb⟩:=hrel;obtain⟨d,hdd⟩:∃d,d=x%10:=⟨_,rfl⟩;have hdl:d<10:=by omega
 have hd:((x:Int)%10)=(d:Int):=by omega
 have Hd:Hid (d=n.natAbs/10^k%10):=by show _=_;rw[hdd,hx.out]
 have Hx:Hid (x/10=n.natAbs/10^ (k+1)):=by show _=_;rw[hx.out,Nat.div_div_eq_div_mul,Nat.pow_succ]
 have Hw:Hid (IntKind.u64.wrap ((x:Int)/10)=((x/10:Nat):Int)):=by
  show _=_;have h1:=hm.out;have h2:x<=n.natAbs:=by rw[hx.out];exact Nat.div_le_self _ _
  rw[IntKind.wrap_u64];omega
 clear hdd;have o1:=QN (n:=48+(d:Int)) wr (xD d) (Yf hdl).symm;have hstep:∀(v':Value) (w1:World),w1.ownsRow wr.heap.size 5 1 v' (1+k) ([Gg (xD d)]++(L8 n.natAbs k).map Gg)->w1.ownsRow w.heap.size 5 1 v' (k+1) ((L8 n.natAbs (k+1)).map Gg):=by
  intro v' w1 h;rw[L8,<-Hd.out,List.map_cons,Nat.add_comm k 1];exact Xy hb.size h
 have HS:=Wx hstep;by_cases h0:x/10=0
 ·have hz:(IntKind.u64.wrap ((x:Int)/10)==0)=true:=by rw[beq_iff_eq,Hw.out];omega
  have H0:=Wx (kP hm.out hk (by rw[<-Hx.out];exact h0));clear h0;by_cases hneg:n<0
  ·have HT:=Wx (SV hneg H0.out);have hadd:=fun w'=>run_string_add_lists (P:=prog) w' [45] (L8 n.natAbs (k+1)) (by decide) (by rw[K9];omega);(go_wp2_with(at_builtin;refine CP rfl (.tmp 11) (.tmp 12) 250 rfl wr.heap.size 5 i0 (.int .u8 0) 1 1 underlying250 hi hz0 hz1 hz2 rfl (by decide) _ _ _ rfl o1 w.heap.size _ k _ rfl (hown.alloc _) (Es _) (by unfold maxLen;omega) (by omega) (by simp) ?_;intro v' w1 hown' hgrow;have hrun:=D7 (P:=prog) (dst:=9) underlying250 underlying5 underlying9 (HS.out _ _ hown');have hb':AA6 w w1:=(hb.alloc hb.size _).grown hgrow (by have:=hb.size;simp;omega) (fun k hk=>AX hb.size (o1.lt k hk).1);clear hgrow hown'));go_ret;exact⟨Vk (by rw[HT.out]),hb'⟩
  ·have HT:=Wx (SS hneg H0.out);(go_wp2_with(at_builtin;refine CP rfl (.tmp 11) (.tmp 12) 250 rfl wr.heap.size 5 i0 (.int .u8 0) 1 1 underlying250 hi hz0 hz1 hz2 rfl (by decide) _ _ _ rfl o1 w.heap.size _ k _ rfl (hown.alloc _) (Es _) (by unfold maxLen;omega) (by omega) (by simp) ?_;intro v' w1 hown' hgrow;have hrun:=D7 (P:=prog) (dst:=9) underlying250 underlying5 underlying9 (HS.out _ _ hown');have hb':AA6 w w1:=(hb.alloc hb.size _).grown hgrow (by have:=hb.size;simp;omega) (fun k hk=>AX hb.size (o1.lt k hk).1);clear hgrow hown'));go_ret;exact⟨Vk (by rw[HT.out]),hb'⟩
 ·have hz:(IntKind.u64.wrap ((x:Int)/10)==0)=false:=by rw[beq_eq_false_iff_ne,Hw.out];omega
  have H0:=Wx (kN hm.out hk (by rw[<-Hx.out];exact h0));have H1:=Wx (oF hm.out);have AJE:x/10<x:=by omega
  have Hwn:Hid ((IntKind.u64.wrap ((x:Int)/10)).toNat<x):=by show _<_;rw[Hw.out];omega
  go_wp2_with(at_builtin;refine CP rfl (.tmp 11) (.tmp 12) 250 rfl wr.heap.size 5 i0 (.int .u8 0) 1 1 underlying250 hi hz0 hz1 hz2 rfl (by decide) _ _ _ rfl o1 w.heap.size _ k _ rfl (hown.alloc _) (Es _) (by unfold maxLen;omega) (by omega) (by simp) ?_;intro v' w1 hown' hgrow;have hown2:=HS.out _ _ hown';have hb':AA6 w w1:=(hb.alloc hb.size _).grown hgrow (by have:=hb.size;simp;omega) (fun k hk=>AX hb.size (o1.lt k hk).1);clear hgrow hown' hown o1)
  go_roundw;exact⟨k+1,x/10,H0.out,by have:=H0.out;have:=H1.out;omega,congrArg (Value.int .u64) Hw.out,Hx,hown2,hb'⟩;simp only[intOf];exact Hwn.out
end
section
open Num
def Ma(l:List UInt8)(e:Ending):Prop:=e=.returned (.tuple #[.int .i64 (Nt l).1,.bool (Nt l).2])
theorem Ol(h:Nt l=(0,false)):Ma l (.returned (.tuple #[.int .i64 0,.bool false])):=by unfold Ma;rw[h]
theorem NJ{n:Int}(h:Nt l=(n,true)):Ma l (.returned (.tuple #[.int .i64 n,.bool true])):=by unfold Ma;rw[h]
end
section
open Num
theorem Mw(n:Int)(w:World):Calls prog 146 #[.int .u64 n] w fun e w'=>e=.returned (.int .i64 (wrap64 n))/\w=w':=by
 go_enter func146,ntmps146;go_wp2;go_ret;exact⟨rfl,rfl⟩
theorem bF(a:Int)(c:Nat):IntKind.u64.wrap (IntKind.u64.wrap (IntKind.u64.wrap (IntKind.u64.wrap a*10)+IntKind.u64.wrap (c:Int))-48)=IntKind.u64.wrap (a*10+(c:Int)-48):=by
 simp only[IntKind.wrap_u64];omega
theorem QL(a:Int):wrap64 (IntKind.u64.wrap (-(IntKind.u64.wrap a)))=wrap64 (-a):=by
 simp only[IntKind.wrap_u64];unfold wrap64;omega
theorem QK(a:Int):wrap64 (IntKind.u64.wrap a)=wrap64 a:=by
 simp only[IntKind.wrap_u64];unfold wrap64;omega
theorem ABz:(0:Int)=IntKind.u64.wrap 0:=by simp[IntKind.wrap_u64]
theorem Uv(s:ByteArray)(w:World)(hsz:s.size<=9223372036854775807)(h1:1<=s.size):Calls prog 236 #[.string s] w fun e w'=>Ma s.data.toList e/\AA6 w w':=by
 have hg0:=Wx (Gl (s:=s) (k:=0) h1);have Hl:=Wx (size_data s);go_enter func236,ntmps236;go_wp2;go_loop[4,5] (fun n i=>∃(k:Nat) (x:Int),k<=s.size/\k<=30/\i=.int .i64 (k:Int)/\n=.int .u64 x/\Hid (x=IntKind.u64.wrap (Lb s.data.toList k))) (fun _ i=>30-(intOf i).toNat);exact⟨0,0,by omega,by omega,rfl,rfl,ABz⟩;obtain⟨k,x,hk1,hk2,rfl,rfl,hx⟩:=hrel;by_cases hlt:k<s.size/\k<30
 ·obtain⟨hlt1,hlt2⟩:=hlt;have hg:=Wx (Gl hlt1);by_cases hsk:k=0/\s[0].toNat=45
  ·obtain⟨rfl,hc⟩:=hsk;have hc':((s[0].toNat:Int)==45)=true:=(by rw[beq_iff_eq];omega);have HS:Hid (x=IntKind.u64.wrap (Lb s.data.toList 1)):=by
    show _=_;rw[hx.out,Yp (by rw[hg0.out];exact UInt8.toNat_inj.1 hc)];rfl
   go_wp2;go_round;exact⟨1,x,by omega,by omega,by go_num,rfl,HS⟩;simp[intOf]
  ·have hst:=Yo (l:=s.data.toList) (k:=k) (by
    by_cases h0:k=0
    ·right;rw[hg0.out];intro e;exact hsk ⟨h0,by rw[e];rfl⟩
    ·left;omega)
   have HS:Hid (IntKind.u64.wrap (IntKind.u64.wrap (IntKind.u64.wrap (x*10)+IntKind.u64.wrap (s[k].toNat:Int))-48)=IntKind.u64.wrap (Lb s.data.toList (k+1))):=by
    show _=_;rw[hx.out,bF,hst,hg.out]
   by_cases h0:k=0
   ·have hc':((s[0].toNat:Int)==45)=false:=(by rw[beq_eq_false_iff_ne];intro e;exact hsk ⟨h0,by omega⟩);subst h0;clear hsk;go_wp2;go_round;exact⟨1,_,by omega,by omega,by go_num,rfl,HS.out⟩;simp[intOf]
   ·have h0':((k:Int)==0)=false:=(by rw[beq_eq_false_iff_ne];omega);go_wp2;go_round;exact⟨k+1,_,by omega,by omega,by go_num,rfl,HS.out⟩;simp[intOf];omega
 ·have hmin:min s.data.toList.length 30=k:=by rw[Hl.out];omega
  obtain⟨V,hV⟩:∃V,V=Ta s.data.toList:=⟨_,rfl⟩;have hvr:Hid (-9223372036854775808<=V/\V<=9223372036854775807):=by rw[hV];exact FR _
  have H1:=Wx (@lQ s V hV);have H2:=Wx (@fA s V hV);have hd:¬(k<s.size)\/(k<s.size/\¬k<30):=by omega
  have hpos:0<s.size:=by omega
  by_cases hc:s[0].toNat=45
  ·have hc':((s[0].toNat:Int)==45)=true:=(by rw[beq_iff_eq];omega);have he:wrap64 (IntKind.u64.wrap (-x))=V:=by
    rw[hV,hx.out,QL];unfold Ta;rw[if_pos (by rw[hg0.out];exact UInt8.toNat_inj.1 hc),hmin]
   clear hV hmin hc hlt;rcases hd with hd|⟨hd1,hd2⟩;all_goals
    go_wp2_with(first|((with_reducible refine(Mw _ _).mono ?_);rintro e w' ⟨rfl,rfl⟩)|((with_reducible refine(Kc _ hvr _).mono ?_);rintro e w' ⟨rfl,hb⟩))
    ·go_ret2;exact⟨Ol (H1.out (by assumption)),hb⟩
    ·go_ret2;exact⟨NJ (H2.out (by assumption)),hb⟩
  ·have hc':((s[0].toNat:Int)==45)=false:=(by rw[beq_eq_false_iff_ne];omega);have he:wrap64 x=V:=by
    rw[hV,hx.out,QK];unfold Ta;rw[if_neg (by rw[hg0.out];intro e;rw[e]at hc;exact hc rfl),hmin]
   clear hV hmin hc hlt;rcases hd with hd|⟨hd1,hd2⟩;all_goals
    go_wp2_with(first|((with_reducible refine(Mw _ _).mono ?_);rintro e w' ⟨rfl,rfl⟩)|((with_reducible refine(Kc _ hvr _).mono ?_);rintro e w' ⟨rfl,hb⟩))
    ·go_ret2;exact⟨Ol (H1.out (by assumption)),hb⟩
    ·go_ret2;exact⟨NJ (H2.out (by assumption)),hb⟩
end
section
namespace Word
open Dp Num
def L9(c:Nat):Bool:=(decide (97<=c)&&decide (c<=122))||(decide (65<=c)&&decide (c<=90))||decide (c=95)
def Wv(c:Nat):Bool:=decide (48<=c)&&decide (c<=57)
def zJ:List UInt8:=[110,117,108,108]
def ADL:List UInt8:=[105,110,116]
def rY:List UInt8:=[102,108,111,97,116]
def OH(l:List UInt8):Bool:=l==zJ||l==ADL||l==rY
def Np(l:List UInt8)(i:Nat):Bool:=(Wv (l.getD i 0).toNat&&decide (0<i))||L9 (l.getD i 0).toNat
def Gf(l:List UInt8):Nat->Bool
 |0=>true
 |k+1=>Gf l k&&Np l k
def Eb(l:List UInt8):Bool:=decide (1<=l.length)&&decide (l.length<=16)&&Gf l l.length&& !OH l
theorem SQ(hk:k<n)(h:Np l k=false):Gf l n=false:=by
 induction n with
 |zero=>omega
 |succ n ih=>
  rw[Gf];by_cases e:k=n
  ·subst e;simp[h]
  ·rw[ih (by omega)];rfl
theorem Kg(hk:k<l.length)(h:Np l k=false):Eb l=false:=by
 unfold Eb;rw[SQ hk h];simp
theorem Oq(h:Gf l l.length=true):Eb l=(decide (1<=l.length)&&decide (l.length<=16)&& !OH l):=by
 unfold Eb;rw[h];simp
theorem Oj(l:List UInt8):Np l 0=L9 (l.getD 0 0).toNat:=by simp[Np]
theorem dQ{i:Nat}(h:0<i):Np l i=(L9 (l.getD i 0).toNat||Wv (l.getD i 0).toNat):=by simp[Np,h,Bool.or_comm]
def KI(K:Int)(l:List UInt8)(n:Int):Bool:=
 if K=1 then Eb l&&decide (n=0)
 else if K=2 then l.isEmpty
 else if K=3 then l.isEmpty&&decide (Ba n=n)
 else if K=4 then l.isEmpty&&decide (n=0)
 else if K=5 then l.isEmpty&&decide (0<=n)&&decide (n<=999)
 else false
theorem Uh{K:Int}{n:Int}(h:K<1\/5<K):KI K l n=false:=by grind [KI]
end Word
end
section
open Word Num
theorem Er(c:Nat)(b:Bool)(hb:L9 c=b)(w:World):Calls prog 208 #[.int .u8 (c:Int)] w fun e w'=>e=.returned (.bool b)/\w=w':=by
 have hl:((decide (97<=c)&&decide (c<=122))||(decide (65<=c)&&decide (c<=90))||decide (c=95))=b:=hb;have H:=Wx hl;by_cases h1:97<=c;all_goals by_cases h2:c<=122
 all_goals by_cases h3:65<=c
 all_goals by_cases h4:c<=90
 all_goals first|(exfalso;omega)|skip
 all_goals
  go_enter func208,ntmps208;go_wp2;all_goals go_ret
  all_goals refine⟨EF ?_,rfl⟩
 all_goals rw[<-H.out,Bool.eq_iff_iff]
 all_goals simp
 all_goals omega
theorem M6(c:Nat)(b:Bool)(hb:Wv c=b)(w:World):Calls prog 210 #[.int .u8 (c:Int)] w fun e w'=>e=.returned (.bool b)/\w=w':=by
 have hl:(decide (48<=c)&&decide (c<=57))=b:=hb;have H:=Wx hl;by_cases h1:48<=c;all_goals by_cases h2:c<=57
 all_goals first|(exfalso;omega)|skip
 all_goals
  go_enter func210,ntmps210;go_wp2;all_goals go_ret
  all_goals refine⟨EF ?_,rfl⟩
 all_goals rw[<-H.out,Bool.eq_iff_iff]
 all_goals simp
 all_goals omega
theorem Ry(s:ByteArray)(b:Bool)(hb:OH s.data.toList=b)(w:World):Calls prog 209 #[.string s] w fun e w'=>e=.returned (.bool b)/\w=w':=by
 have e:=ByteArray.toList_eq s;have hl:(s.toList==[110,117,108,108]||s.toList==[105,110,116]||s.toList==[102,108,111,97,116])=b:=by rw[e];exact hb
 have H:=Wx hl;clear hl hb e;cases h1:(s.toList==[110,117,108,108]);all_goals cases h2:(s.toList==[105,110,116])
 all_goals
  go_enter func209,ntmps209;go_wp2;all_goals go_ret
  all_goals refine⟨EF ?_,rfl⟩
  all_goals rw[<-H.out,h1,h2]
 all_goals rfl
theorem X9(s:ByteArray)(w:World)(h1:1<=s.size)(h2:s.size<=16)(h3:Hid (L9 s[0].toNat=true))(h4:Hid (OH s.data.toList=false))(v:Bool)(hv:Eb s.data.toList=v):Calls prog 164 #[.string s] w fun e w'=>e=.returned (.bool v)/\w=w':=by
 have hne:=Ro (s:=s) h1;have hlen:=Wx (size_data s);have HV:=Wx hv;have hg0:=Wx (Gl (s:=s) (k:=0) h1);go_enter func164,ntmps164;go_wp2_with(first|((with_reducible refine(Er _ _ h3.out _).mono ?_);rintro e w' ⟨rfl,rfl⟩)|((with_reducible refine(Ry _ _ h4.out _).mono ?_);rintro e w' ⟨rfl,rfl⟩))
 go_loop[23] (fun i=>∃k:Nat,k<=s.size/\i=.int .i64 (k:Int)/\Hid (Gf s.data.toList k=true)) (fun i=>s.size-(intOf i).toNat);exact⟨0,by omega,rfl,rfl⟩;obtain⟨k,hk,rfl,hok⟩:=hrel;by_cases hlt:k<s.size
 ·have hg:=Wx (Gl hlt);have hat:Hid (Np s.data.toList k=(L9 s[k].toNat||Wv s[k].toNat)):=by
   show _=_;by_cases h0:k=0
   ·subst h0;rw[Oj,hg.out,h3.out];rfl
   ·rw[dQ (by omega),hg.out]
  cases hl:L9 s[k].toNat
  ·cases hd:Wv s[k].toNat
   ·have HF:Hid (v=false):=by
     show _=_;rw[<-HV.out];exact Kg (by rw[hlen.out];exact hlt) (by rw[hat.out,hl,hd];rfl)
    have Hl:=Wx hl;have Hd:=Wx hd;(go_wp2_with(first|((with_reducible refine(Er _ _ Hl.out _).mono ?_);rintro e w' ⟨rfl,rfl⟩)|((with_reducible refine(M6 _ _ Hd.out _).mono ?_);rintro e w' ⟨rfl,rfl⟩)));go_ret;exact⟨EF HF.out.symm,rfl⟩
   ·have hok':Hid (Gf s.data.toList (k+1)=true):=(by show _=_;rw[Gf,hok.out,hat.out,hl,hd];rfl);have Hl:=Wx hl;have Hd:=Wx hd;(go_wp2_with(first|((with_reducible refine(Er _ _ Hl.out _).mono ?_);rintro e w' ⟨rfl,rfl⟩)|((with_reducible refine(M6 _ _ Hd.out _).mono ?_);rintro e w' ⟨rfl,rfl⟩)));go_round;exact⟨k+1,by omega,by go_num,hok'⟩;simp[intOf];omega
  ·have hok':Hid (Gf s.data.toList (k+1)=true):=(by show _=_;rw[Gf,hok.out,hat.out,hl];rfl);have Hl:=Wx hl;(go_wp2_with(first|((with_reducible refine(Er _ _ Hl.out _).mono ?_);rintro e w' ⟨rfl,rfl⟩)));go_round;exact⟨k+1,by omega,by go_num,hok'⟩;simp[intOf];omega
 ·obtain rfl:k=s.size:=by omega
  have HT:Hid (v=true):=by
   show _=_;rw[<-HV.out,Oq (by rw[hlen.out];exact hok.out),hlen.out,h4.out];simp[h1,h2]
  go_wp2;go_ret;exact⟨EF HT.out.symm,rfl⟩
theorem I8(s:ByteArray)(w:World)(h:s.toList.isEmpty=true\/s.toList.isEmpty=false/\(16<s.size\/¬16<s.size/\∃hp:0<s.size,(L9 s[0].toNat=false\/L9 s[0].toNat=true/\OH s.data.toList=true))):Calls prog 164 #[.string s] w fun e w'=>e=.returned (.bool false)/\w=w':=by
 rcases h with h|⟨he,h|⟨h,hp,hl|⟨hl,hk⟩⟩⟩
 ·go_enter func164,ntmps164;go_wp2;go_ret;exact⟨rfl,rfl⟩
 ·go_enter func164,ntmps164;go_wp2;go_ret;exact⟨rfl,rfl⟩
 ·have Hl:=Wx hl;go_enter func164,ntmps164;go_wp2_with(first|((with_reducible refine(Er _ _ Hl.out _).mono ?_);rintro e w' ⟨rfl,rfl⟩))
  go_ret;exact⟨rfl,rfl⟩
 ·have Hl:=Wx hl;have Hk:=Wx hk;go_enter func164,ntmps164;go_wp2_with(first|((with_reducible refine(Er _ _ Hl.out _).mono ?_);rintro e w' ⟨rfl,rfl⟩)|((with_reducible refine(Ry _ _ Hk.out _).mono ?_);rintro e w' ⟨rfl,rfl⟩))
  go_ret;exact⟨rfl,rfl⟩
theorem Rp(s:ByteArray)(v:Bool)(hv:Eb s.data.toList=v)(w:World):Calls prog 164 #[.string s] w fun e w'=>e=.returned (.bool v)/\w=w':=by
 have hsz:=size_data s;by_cases h1:1<=s.size
 ·have hne:=Ro (s:=s) h1;have hg0:=Gl (s:=s) (k:=0) h1;by_cases h2:s.size<=16
  ·cases h3:L9 s[0].toNat
   ·have:v=false:=(by rw[<-hv];exact Kg (k:=0) (by omega) (by rw[Oj,hg0];exact h3));subst this;exact I8 s w (.inr ⟨hne,.inr ⟨by omega,h1,.inl h3⟩⟩)
   ·cases h4:OH s.data.toList
    ·exact X9 s w h1 h2 h3 h4 v hv
    ·have:v=false:=(by rw[<-hv];simp[Eb,h4]);subst this;exact I8 s w (.inr ⟨hne,.inr ⟨by omega,h1,.inr ⟨h3,h4⟩⟩⟩)
  ·have:v=false:=by
    rw[<-hv];unfold Eb;rw[hsz];simp[h2]
   subst this;exact I8 s w (.inr ⟨hne,.inl (by omega)⟩)
 ·have h0:s.size=0:=by omega
  have:v=false:=by
   rw[<-hv];unfold Eb;rw[hsz];simp[h0]
  subst this;refine I8 s w (.inl ?_);have:s=ByteArray.empty:=by simpa using h0
  rw[this,ByteArray.toList_eq];rfl
end
section
open Word Num
theorem kK{s:ByteArray}(h:k<s.size){c:Nat}(hc:s[k].toNat=c):Np s.data.toList k=((decide (48<=c)&&decide (c<=57)&&decide (0<k))||((decide (97<=c)&&decide (c<=122))||(decide (65<=c)&&decide (c<=90))||decide (c=95))):=by
 unfold Np Wv L9;rw[Gl h,hc]
theorem KZ(s:ByteArray)(v:Bool)(hv:Eb s.data.toList=v)(hsz:s.size<=9223372036854775807)(w:World):Calls prog 239 #[.string s] w fun e w'=>e=.returned (.bool v)/\w=w':=by
 have hlen:=Wx (size_data s);have HV:=Wx hv;go_enter func239,ntmps239;go_wp2;go_loop[3] (fun i=>∃k:Nat,k<=s.size/\i=.int .i64 (k:Int)/\Hid (Gf s.data.toList k=true)) (fun i=>s.size-(intOf i).toNat);exact⟨0,by omega,rfl,rfl⟩;obtain⟨k,hk,rfl,hok⟩:=hrel;by_cases hlt:k<s.size
 ·have hcase:(s[k].toNat<48\/(48<=s[k].toNat/\s[k].toNat<=57/\k=0)\/(57<s[k].toNat/\s[k].toNat<65)\/(90<s[k].toNat/\s[k].toNat<95)\/(95<s[k].toNat/\s[k].toNat<97)\/122<s[k].toNat)\/
   ((48<=s[k].toNat/\s[k].toNat<=57/\0<k)\/(65<=s[k].toNat/\s[k].toNat<=90)\/s[k].toNat=95\/(97<=s[k].toNat/\s[k].toNat<=122)):=by omega
  have hat:=kK hlt rfl;rcases hcase with hc|hc
  ·have HF:Hid (v=false):=by
    show _=_;rw[<-HV.out];refine Kg (by rw[hlen.out];exact hlt) ?_;rw[hat];simp;omega
   clear hat;have Wn:((s[k].toNat:Int) !=95)=true:=(by rw[bne_iff_ne];omega);rcases hc with hc|⟨h1,h2,rfl⟩|⟨h1,h2⟩|⟨h1,h2⟩|⟨h1,h2⟩|hc;all_goals
    go_wp2;go_ret;exact⟨EF HF.out.symm,rfl⟩
  ·have hok':Hid (Gf s.data.toList (k+1)=true):=by
    show _=_;rw[Gf,hok.out,hat];simp;omega
   have Wn:((s[k].toNat:Int) !=95)=true\/((s[k].toNat:Int) !=95)=false:=(by cases((s[k].toNat:Int) !=95)<;>simp);rcases Wn with Wn|Wn
   ·rcases hc with⟨h1,h2,h3⟩|⟨h1,h2⟩|h1|⟨h1,h2⟩;(all_goals first|(exfalso;rw[bne_iff_ne]at Wn;omega)|skip);all_goals
     go_wp2;go_round;exact⟨k+1,by omega,by go_num,hok'⟩;simp[intOf];omega
   ·have h1:s[k].toNat=95:=(by rw[bne_eq_false_iff_eq]at Wn;omega);have h2:57<s[k].toNat:=(by omega);clear hc h1;go_wp2;go_round;exact⟨k+1,by omega,by go_num,hok'⟩;simp[intOf];omega
 ·obtain rfl:k=s.size:=by omega
  have hk:=ByteArray.toList_eq s;have HT:Hid (v=(decide (1<=s.size)&&decide (s.size<=16)&& !(s.toList==[110,117,108,108]||s.toList==[105,110,116]||s.toList==[102,108,111,97,116]))):=by
   show _=_;rw[<-HV.out,Oq (by rw[hlen.out];exact hok.out),hlen.out,hk];rfl
  clear hk;by_cases h1:1<=s.size;all_goals by_cases h2:s.size<=16
  all_goals first|(exfalso;omega)|skip
  all_goals cases h3:(s.toList==[110,117,108,108])
  all_goals cases h4:(s.toList==[105,110,116])
  all_goals
   go_wp2;(all_goals go_ret);(all_goals refine⟨EF ?_,rfl⟩);all_goals rw[HT.out,h3,h4]
  all_goals by_cases q1:1<=s.size<;>by_cases q2:s.size<=16<;>first|(exfalso;omega)|(simp[q1,q2];done)
end
section
open Word Num Dp
theorem QM(n m:Int)(h:Ba n=m)(w:World):Calls prog 34 #[.int .i64 n] w fun e w'=>e=.returned (.int .i64 m)/\w'=w:=by grind [NG]
theorem jr(s:ByteArray)(n:Int){v:Bool}(hb2:(!s.toList.isEmpty)=false)(hv:Hid ((decide (0<=n)&&decide (n<=999))=v))(w:World):Calls prog 216 #[.agg #[.int .i64 5,.string s,.int .i64 n]] w fun e w'=>e=.returned (.bool v)/\AA6 w w':=by
 by_cases h7:0<=n
 ·by_cases h8:n<=999
  ·have:v=true:=(by rw[<-hv.out];simp[h7,h8]);subst this;go_enter func216,ntmps216;go_wp2;go_quiet (fail);go_wp2;go_ret;exact⟨rfl,by first|exact AJ _ _|exact below_drewN (AJ _ _) _⟩
  ·have:v=false:=(by rw[<-hv.out];simp[h7,h8]);subst this;go_enter func216,ntmps216;go_wp2;have hd:decide (n<=(999:Int))=false:=decide_eq_false (by omega);go_quiet (fail);go_wp2;go_ret;exact⟨rfl,by first|exact AJ _ _|exact below_drewN (AJ _ _) _⟩
 ·have:v=false:=by rw[<-hv.out];simp[h7]
  subst this;go_enter func216,ntmps216;go_wp2;have hd:decide ((0:Int)<=n)=false:=decide_eq_false (by omega);go_quiet (fail);go_wp2;go_ret;exact⟨rfl,by first|exact AJ _ _|exact below_drewN (AJ _ _) _⟩
theorem ND(K:Int)(s:ByteArray)(hs:Hid (s.size<=9223372036854775807))(n:Int)(v:Bool)(hv:KI K s.data.toList n=v)(w:World):Calls prog 216 #[.agg #[.int .i64 K,.string s,.int .i64 n]] w fun e w'=>e=.returned (.bool v)/\AA6 w w':=by
 have hem:s.data.toList.isEmpty=s.toList.isEmpty:=by rw[ByteArray.toList_eq]
 by_cases h1:K=1
 ·subst h1;have hv':Hid ((Eb s.data.toList&&decide (n=0))=v):=hv;cases hb:Eb s.data.toList;all_goals
   have Hb:=Wx hb;go_enter func216,ntmps216;(go_wp2_with((with_reducible refine(KZ _ _ Hb.out hs.out _).mono ?_);rintro e w' ⟨rfl,rfl⟩));go_ret;refine⟨EF ?_,AJ _ _⟩;rw[<-hv'.out,Hb.out,Bool.eq_iff_iff];simp
 ·have e1:(K==1)=false:=by simpa using h1
  by_cases hout:K<1\/5<K
  ·have:v=false:=(by rw[<-hv,Uh hout]);subst this;rcases hout with hout|hout
   ·go_enter func216,ntmps216;go_wp2;(try(go_quiet (fail);go_wp2));go_ret;exact⟨rfl,by first|exact AJ _ _|exact below_drewN (AJ _ _) _⟩
   ·have h2:¬K<1:=(by omega);go_enter func216,ntmps216;go_wp2;(try(go_quiet (fail);go_wp2));go_ret;exact⟨rfl,by first|exact AJ _ _|exact below_drewN (AJ _ _) _⟩
  ·have hK:K=2\/K=3\/K=4\/K=5:=(by omega);have hv':Hid ((s.toList.isEmpty&& (if K=2 then true else if K=3 then decide (Ba n=n)else if K=4 then decide (n=0)else(decide (0<=n)&&decide (n<=999))))=v):=by
    show _=_;rw[<-hv,<-hem];rcases hK with rfl|rfl|rfl|rfl<;>simp[KI,Bool.and_assoc]
   cases hb:s.toList.isEmpty
   ·have:v=false:=(by rw[<-hv'.out,hb];rfl);subst this;rcases hK with rfl|rfl|rfl|rfl;all_goals
     go_enter func216,ntmps216;go_wp2;(try(go_quiet (fail);go_wp2));go_ret;exact⟨rfl,by first|exact AJ _ _|exact below_drewN (AJ _ _) _⟩
   ·have ZK:Hid ((if K=2 then true else if K=3 then decide (Ba n=n)else if K=4 then decide (n=0)else(decide (0<=n)&&decide (n<=999)))=v):=by
     show _=_;rw[<-hv'.out,hb];simp
    have hb2:(!s.toList.isEmpty)=false:=(by rw[hb];rfl);rcases hK with rfl|rfl|rfl|rfl
    ·have:v=true:=(by rw[<-ZK.out];rfl);subst this;go_enter func216,ntmps216;go_wp2;go_quiet (fail);go_wp2;go_ret;exact⟨rfl,by first|exact AJ _ _|exact below_drewN (AJ _ _) _⟩
    ·have hp:Ba n=Ba n:=rfl;revert hp;generalize hm:Ba n=m at ZK;intro _;have Hm:=Wx hm;have h7:(m==n)=v:=(by rw[<-ZK.out];simp[Bool.beq_eq_decide_eq]);cases v;all_goals
      go_enter func216,ntmps216;go_wp2;go_quiet ((go_at_call 34;exact Calls.quiet_of_same (QM _ _ Hm.out _)));go_wp2;go_ret;exact⟨rfl,by first|exact AJ _ _|exact below_drewN (AJ _ _) _⟩
    ·have h7:(n==0)=v:=(by rw[<-ZK.out];simp[Bool.beq_eq_decide_eq]);cases v;all_goals
      go_enter func216,ntmps216;go_wp2;go_quiet (fail);go_wp2;go_ret;exact⟨rfl,by first|exact AJ _ _|exact below_drewN (AJ _ _) _⟩
    ·exact jr s n hb2 ZK w
end
end Go.Proofs.YtlffomedflegdaaGreatDoor
