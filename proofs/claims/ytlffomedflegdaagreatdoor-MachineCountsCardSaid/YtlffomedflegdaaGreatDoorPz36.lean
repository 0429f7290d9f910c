/- Part 36 of 49 of the proof: Qc, Qd. -/
import Derived.Test.YtlffomedflegdaaGreatDoorPz00
import Derived.Test.YtlffomedflegdaaGreatDoorPz27
import Derived.Test.YtlffomedflegdaaGreatDoorPz35
set_option linter.all false
set_option maxHeartbeats 16000000
set_option maxRecDepth 100000
namespace Go.Proofs.YtlffomedflegdaaGreatDoor
open Go.Proofs.Tryz
open Go.RowKit
structure HdB(x y:Bk):Prop where
 n:x.n=y.n
 p:x.ps.length=y.ps.length
 c:x.cs.length=y.cs.length
 k:x.e.k=y.e.k
 a:x.e.a=y.e.a
 m:x.e.n=y.e.n
 t:x.e.to.length=y.e.to.length
theorem HdB.eq{x y:Bk}(h:HdB x y)(h1:x.e.to=y.e.to)(h2:x.ps=y.ps)(h3:x.cs=y.cs):x=y:=by
 obtain⟨a1,a2,a3,a4,a5,a6,a7⟩:=x;obtain⟨b1,b2,b3,b4,b5,b6,b7⟩:=y;grind [cases Bk,cases HdB]
theorem AAK{x y:Ph}(h1:x.d=y.d)(h2:x.is=y.is):x=y:=by grind [cases Ph]
theorem Uo{w0 w:World}(h0:AA6 w0 w){x y:Bk}{v u1 u2 u3:Value}(hv:Qw w0 v x u1 u2 u3){v' y1 y2 y3:Value}(hv':Qw w0 v' y y1 y2 y3):Calls prog 219 #[v,v'] w fun e w'=>IC (x=y) e/\AA6 w w':=by
 obtain⟨rfl,-,hp,hc,ht⟩:=hv;obtain⟨rfl,-,hp',hc',ht'⟩:=hv';obtain⟨p1,k1,rfl,-,hn1,hp⟩:=hp;obtain⟨q1,l1,rfl,-,hm1,hp'⟩:=hp';obtain⟨p2,k2,rfl,-,hn2,hc⟩:=hc;obtain⟨q2,l2,rfl,-,hm2,hc'⟩:=hc';obtain⟨p3,k3,rfl,-,QY,ht⟩:=ht;obtain⟨q3,l3,rfl,-,vG,ht'⟩:=ht';have hb1:=AJ w (.cells #[.string x.n,.slice p1 x.ps.length k1,.slice p2 x.cs.length k2,.int .i64 x.e.k,.int .i64 x.e.a.k,.string x.e.a.s,.int .i64 x.e.a.n,.slice p3 x.e.to.length k3,.int .i64 x.e.n] 82);have hb2:=hb1.alloc hb1.size (.cells #[.string y.n,.slice q1 y.ps.length l1,.slice q2 y.cs.length l2,.int .i64 y.e.k,.int .i64 y.e.a.k,.string y.e.a.s,.int .i64 y.e.a.n,.slice q3 y.e.to.length l3,.int .i64 y.e.n] 82);have hX:=(Ae.alloc w [.string x.n,.slice p1 x.ps.length k1,.slice p2 x.cs.length k2,.int .i64 x.e.k,.int .i64 x.e.a.k,.string x.e.a.s,.int .i64 x.e.a.n,.slice p3 x.e.to.length k3,.int .i64 x.e.n] 82).al (.cells #[.string y.n,.slice q1 y.ps.length l1,.slice q2 y.cs.length l2,.int .i64 y.e.k,.int .i64 y.e.a.k,.string y.e.a.s,.int .i64 y.e.a.n,.slice q3 y.e.to.length l3,.int .i64 y.e.n] 82);have hY:=Ae.alloc (w.alloc (.cells #[.string x.n,.slice p1 x.ps.length k1,.slice p2 x.cs.length k2,.int .i64 x.e.k,.int .i64 x.e.a.k,.string x.e.a.s,.int .i64 x.e.a.n,.slice p3 x.e.to.length k3,.int .i64 x.e.n] 82)) [.string y.n,.slice q1 y.ps.length l1,.slice q2 y.cs.length l2,.int .i64 y.e.k,.int .i64 y.e.a.k,.string y.e.a.s,.int .i64 y.e.a.n,.slice q3 y.e.to.length l3,.int .i64 y.e.n] 82;have z1:(w.alloc (.cells #[.string x.n,.slice p1 x.ps.length k1,.slice p2 x.cs.length k2,.int .i64 x.e.k,.int .i64 x.e.a.k,.string x.e.a.s,.int .i64 x.e.a.n,.slice p3 x.e.to.length k3,.int .i64 x.e.n] 82)).heap.size=w.heap.size+1:=by simp
 rw[z1]at hY;clear hb1 z1;go_enter func219,ntmps219;go_upto_region 1 with fail;generalize Cr:(w.alloc _).alloc _=W at*;clear Cr;go_cut[69]from 9 to 68 (fun v wx=>∃r:Bool,v=.bool r/\(r=false->HdB x y)/\(r=true->x≠y)/\wx=W)
 ·obtain⟨a0,a1,a2,a3,a4,a5,a6,a7,a8⟩:=hX.c9;obtain⟨b0,b1,b2,b3,b4,b5,b6,b7,b8⟩:=hY.c9;clear hX hY hp hp' hc hc' ht ht' hn1 hn2 QY hm1 hm2 vG
  cases e1:(x.n.toList==y.n.toList)with
  |false=>(go_wp2_with fail;go_meet;(case rel=>exact⟨_,rfl,(fun h=>by cases h),(fun _=>(fun e=>by rw[e]at e1;simp at e1)),(rfl)⟩))
  |true=>
  cases e2:((x.ps.length:Int) !=(y.ps.length:Int))with
  |true=>(go_wp2_with fail;go_meet;(case rel=>exact⟨_,rfl,(fun h=>by cases h),(fun _=>(fun e=>by rw[e]at e2;simp at e2)),(rfl)⟩))
  |false=>
  cases e3:((x.cs.length:Int) !=(y.cs.length:Int))with
  |true=>(go_wp2_with fail;go_meet;(case rel=>exact⟨_,rfl,(fun h=>by cases h),(fun _=>(fun e=>by rw[e]at e3;simp at e3)),(rfl)⟩))
  |false=>
  cases e4:((x.e.k:Int) !=y.e.k)with
  |true=>(go_wp2_with fail;go_meet;(case rel=>exact⟨_,rfl,(fun h=>by cases h),(fun _=>(fun e=>by rw[e]at e4;simp at e4)),(rfl)⟩))
  |false=>
  have hE:∀w,(Op.equalIn 10000 77 (.agg #[.int .i64 x.e.a.k,.string x.e.a.s,.int .i64 x.e.a.n]) (.agg #[.int .i64 y.e.a.k,.string y.e.a.s,.int .i64 y.e.a.n])).run prog w=.ok (Gz x.e.a y.e.a) w:=fun w=>P8 (k:=9998) _ _ _ _ _ _ w;have hEt:Gz x.e.a y.e.a=true->x.e.a=y.e.a:=Lp;have hEf:Gz x.e.a y.e.a=false->x≠y:=fun h e=>by
   rw[e,PG]at h;cases h
  generalize Gz x.e.a y.e.a=bb at*;replace hEt:=hidden hEt;replace hEf:=hidden hEf;cases bb
  ·(go_wp2_with fail;go_meet;(case rel=>exact⟨_,rfl,(fun h=>by cases h),(fun _=>(hEf.out (by trivial))),(rfl)⟩))
  cases e6:((x.e.n:Int) !=y.e.n)with
  |true=>(go_wp2_with fail;go_meet;(case rel=>exact⟨_,rfl,(fun h=>by cases h),(fun _=>(fun e=>by rw[e]at e6;simp at e6)),(rfl)⟩))
  |false=>
  cases e7:((x.e.to.length:Int) !=(y.e.to.length:Int))with
  |true=>(go_wp2_with fail;go_meet;(case rel=>exact⟨_,rfl,(fun h=>by cases h),(fun _=>(fun e=>by rw[e]at e7;simp at e7)),(rfl)⟩))
  |false=>
  have hH:HdB x y:=⟨Y4 e1,Y5 e2,Y5 e3,neI e4,hEt.out (by trivial),neI e6,Y5 e7⟩;go_wp2;go_meet;exact⟨_,rfl,(fun _=>hH),(fun h=>by cases h),rfl⟩
 obtain⟨r,rfl,hr,hr',rfl⟩:=hcut;obtain⟨W,rfl⟩:∃W:World,W=wc:=⟨_,rfl⟩;cases r;rotate_left
 ·have hne:=hidden (hr' rfl);clear hr hr' hp hp' hc hc' ht ht';(go_wp2_with fail;go_ret;exact⟨Bj (hne.out),(hb2)⟩)
 have hH:=hr rfl;clear hr hr';have hpl:=hidden hH.p;have hcl:=hidden hH.c;have htl:=hidden hH.t;go_wp2;go_loopw[5] (fun i wr=>∃q:Nat,q<=x.e.to.length/\i=.int .i64 (q:Int)/\Hid (x.e.to.take q=y.e.to.take q)/\AA6 W wr) (fun i _=>x.e.to.length-(intOf i).toNat);exact⟨0,AY,rfl,hidden (by simp),AL⟩;obtain⟨q,hq,rfl,hT,hb⟩:=hrel;replace hX:=hX.nx hb;replace hY:=hY.nx hb;have x7:=hX.c 7 _ rfl;have y7:=hY.c 7 _ rfl;by_cases hend:q=x.e.to.length
 ·subst hend;have hTo:x.e.to=y.e.to:=Cz hT.out htl.out;replace hTo:=hidden hTo;clear ht ht' hT;have hb3:=AB hb2 hb;clear hb;go_wp2;clear x7 y7;obtain⟨wo,rfl⟩:∃wo:World,wo=wr:=⟨_,rfl⟩;go_loopw[6] (fun i wr=>∃q:Nat,q<=x.ps.length/\i=.int .i64 (q:Int)/\Hid (x.ps.take q=y.ps.take q)/\AA6 wo wr) (fun i _=>x.ps.length-(intOf i).toNat);exact⟨0,AY,rfl,hidden (by simp),AL⟩;obtain⟨q,hq,rfl,hT,hb⟩:=hrel;replace hX:=hX.nx hb;replace hY:=hY.nx hb;have x1:=hX.c 1 _ rfl;have y1:=hY.c 1 _ rfl;have hb4:=AB hb3 hb;by_cases hend:q=x.ps.length
  ·subst hend;have hPs:x.ps=y.ps:=Cz hT.out hpl.out;replace hPs:=hidden hPs;clear hp hp' hb hb3 hT;go_wp2;clear x1 y1;obtain⟨wp,rfl⟩:∃wp:World,wp=wr:=⟨_,rfl⟩;go_loopw[8] (fun i wr=>∃q:Nat,q<=x.cs.length/\i=.int .i64 (q:Int)/\Hid (x.cs.take q=y.cs.take q)/\AA6 wp wr) (fun i _=>x.cs.length-(intOf i).toNat);exact⟨0,AY,rfl,hidden (by simp),AL⟩;obtain⟨q,hq,rfl,hT,hb⟩:=hrel;replace hX:=hX.nx hb;replace hY:=hY.nx hb;have x2:=hX.c 2 _ rfl;have y2:=hY.c 2 _ rfl;have hb5:=AB hb4 hb;clear hX hY;by_cases hend:q=x.cs.length
   ·subst hend;have TK:x=y:=hH.eq hTo.out hPs.out (Cz hT.out hcl.out);replace TK:=hidden TK;clear hc hc' hb hb4 hT;go_wp2;go_ret;exact⟨Ir TK.out,hb5⟩
   ·have hlt:q<x.cs.length:=(by omega);have A8:(q:Int)<x.cs.length:=(by omega);have hlt':q<y.cs.length:=(by have:=hcl.out;omega);have JJ:(q:Int)<y.cs.length:=(by omega);obtain⟨b,rfl,hA⟩:=hc q x.cs[q] (by simp[hlt]);obtain⟨b',rfl,hA'⟩:=hc' q y.cs[q] (by simp[hlt']);clear hc hc';obtain⟨t1,t2,t3,hI,c0,c1,c2,c3,c4,c5⟩:=hA.val;obtain⟨s1,s2,s3,hI',d0,d1,d2,d3,d4,d5⟩:=hA'.val;have hk:=AB h0 hb5;have hS:=fun W (hW:AA6 wr W)=>Un (AB hk hW) hI hI';have hN:x.cs[q]=y.cs[q]->x.cs.take (q+1)=y.cs.take (q+1):=fun h=>Cy hT.out hlt hlt' h;have hM:x.cs[q]≠y.cs[q]->x≠y:=fun h e=>by
     subst e;exact h rfl
    clear hI hI' hA hA' hT;have c0:=AA hk c0;have c1:=AA hk c1;have c2:=AA hk c2;have c3:=AA hk c3;have c4:=AA hk c4;have c5:=AA hk c5;have d0:=AA hk d0;have d1:=AA hk d1;have d2:=AA hk d2;have d3:=AA hk d3;have d4:=AA hk d4;have d5:=AA hk d5;generalize x.cs[q]=m1 at*;generalize y.cs[q]=m2 at*;have BJ:=(Below.refl wr.heap.size wr).drew;clear hk;by_cases hm:m1=m2
    ·have hS1:∀W,AA6 wr W->Calls prog 240 #[.agg #[.int .i64 m1.op,.string m1.d,.string m1.n,t1,t2,t3],.agg #[.int .i64 m2.op,.string m2.d,.string m2.n,s1,s2,s3]] W fun e w'=>e=.returned (.bool true)/\AA6 W w':=fun W hW=>(hS W hW).mono fun _ _ h=>⟨h.1.yes hm,h.2⟩;have hN1:=hidden (hN hm);clear hS hN hM hm;go_wp2_with fail;refine AO (S:=fun _ v=>AA6 wr v) rfl (by kernel_rfl) BJ ?_;(iterate 12(first|(apply Ab.z rfl;intro L w1 _ _ _ z hK;(have x2:=AA z.s x2;have y2:=AA z.s y2;have c0:=AA z.s c0;have d0:=AA z.s d0;have c1:=AA z.s c1;have d1:=AA z.s d1;have c2:=AA z.s c2;have d2:=AA z.s d2;have c3:=AA z.s c3;have d3:=AA z.s d3;have c4:=AA z.s c4;have d4:=AA z.s d4;have c5:=AA z.s c5;have d5:=AA z.s d5);go_simp;exact hK (z.s);rfl)|(apply Ab.y rfl;intro L w1 _ _ z hK;go_simp;go_wp2_with((refine(hS1 _ z.s).mono ?_;rintro e w2 ⟨rfl,hb⟩));(try simp only[pE]);exact hK.out _ (AB z.s hb);rfl)));refine Ab.nil fun w4 Bb=>?_;have Bp:=AB hb Bb;clear BJ hS1 c0 c1 c2 c3 c4 c5 d0 d1 d2 d3 d4 d5 x2 y2;go_wp2;go_roundw;exact⟨q+1,by omega,by go_num,hN1,Bp⟩;simp[intOf];omega
    ·have hS1:∀W,AA6 wr W->Calls prog 240 #[.agg #[.int .i64 m1.op,.string m1.d,.string m1.n,t1,t2,t3],.agg #[.int .i64 m2.op,.string m2.d,.string m2.n,s1,s2,s3]] W fun e w'=>e=.returned (.bool false)/\AA6 W w':=fun W hW=>(hS W hW).mono fun _ _ h=>⟨h.1.no hm,h.2⟩;have hne:=hidden (hM hm);clear hS hN hM hm;go_wp2_with fail;refine AO (S:=fun _ v=>AA6 wr v) rfl (by kernel_rfl) BJ ?_;(iterate 12(first|(apply Ab.z rfl;intro L w1 _ _ _ z hK;(have x2:=AA z.s x2;have y2:=AA z.s y2;have c0:=AA z.s c0;have d0:=AA z.s d0;have c1:=AA z.s c1;have d1:=AA z.s d1;have c2:=AA z.s c2;have d2:=AA z.s d2;have c3:=AA z.s c3;have d3:=AA z.s d3;have c4:=AA z.s c4;have d4:=AA z.s d4;have c5:=AA z.s c5;have d5:=AA z.s d5);go_simp;exact hK (z.s);rfl)|(apply Ab.y rfl;intro L w1 _ _ z hK;go_simp;go_wp2_with((refine(hS1 _ z.s).mono ?_;rintro e w2 ⟨rfl,hb⟩));(try simp only[pE]);exact hK.out _ (AB z.s hb);rfl)));refine Ab.nil fun w4 Bb=>?_;have Bp:=AB hb5 Bb;clear BJ hS1 c0 c1 c2 c3 c4 c5 d0 d1 d2 d3 d4 d5 x2 y2;(go_wp2_with fail;go_ret;exact⟨Bj (hne.out),(Bp)⟩)
  ·have hlt:q<x.ps.length:=(by omega);have A8:(q:Int)<x.ps.length:=(by omega);have hlt':q<y.ps.length:=(by have:=hpl.out;omega);have JJ:(q:Int)<y.ps.length:=(by omega);obtain⟨b,rfl,⟨c0,-⟩,m,c1,r⟩:=hp q x.ps[q] (by simp[hlt]);obtain⟨b',rfl,⟨d0,-⟩,m',d1,r'⟩:=hp' q y.ps[q] (by simp[hlt']);have c0:=AA (AB h0 hb4) c0;have c1:=AA (AB h0 hb4) c1;have d0:=AA (AB h0 hb4) d0;have d1:=AA (AB h0 hb4) d1;have hN:x.ps[q]=y.ps[q]->x.ps.take (q+1)=y.ps.take (q+1):=fun h=>Cy hT.out hlt hlt' h;have hM:x.ps[q]≠y.ps[q]->x≠y:=fun h e=>by
    subst e;exact h rfl
   clear hp hp' hc hc' hb3 hT hH;generalize x.ps[q]=m1 at*;generalize y.ps[q]=m2 at*;replace hN:=hidden hN;replace hM:=hidden hM;obtain⟨p7,k7,rfl,-,hn7,r⟩:=r;obtain⟨q7,l7,rfl,-,WM,r'⟩:=r';go_upto_region 11 with fail;go_cut[127]from 98 to 126 (fun v wx=>∃r:Bool,v=.bool r/\(r=false->m1.d=m2.d/\m1.is.length=m2.is.length)/\(r=true->m1≠m2)/\AA6 wr wx)
   ·have hbd:=(Below.refl wr.heap.size wr).drew
    cases e1:(m1.d.toList==m2.d.toList)with
    |false=>
     go_wp2_with fail;refine AO (S:=fun _ v=>AA6 wr v) rfl (by kernel_rfl) hbd ?_;(iterate 30(first|(apply Ab.z rfl;intro L w1 _ _ _ z hK;(have x1:=AA z.s x1;have y1:=AA z.s y1;have c0:=AA z.s c0;have d0:=AA z.s d0;have c1:=AA z.s c1;have d1:=AA z.s d1);go_simp;exact hK (z.s);rfl)|(refine Ab.skip rfl (fun L w1 hS hi=>(hS)) ?_;(try simp only[pE]))));refine Ab.nil fun w4 Bb=>?_
     (go_wp2_with fail;go_meet;(case rel=>exact⟨_,rfl,(fun h=>by cases h),(fun _=>(fun e=>by rw[e]at e1;simp at e1)),(Bb)⟩))
    |true=>
    cases e2:((m1.is.length:Int) !=(m2.is.length:Int))with
    |true=>
     go_wp2_with fail;refine AO (S:=fun _ v=>AA6 wr v) rfl (by kernel_rfl) hbd ?_;(iterate 30(first|(apply Ab.z rfl;intro L w1 _ _ _ z hK;(have x1:=AA z.s x1;have y1:=AA z.s y1;have c0:=AA z.s c0;have d0:=AA z.s d0;have c1:=AA z.s c1;have d1:=AA z.s d1);go_simp;exact hK (z.s);rfl)|(refine Ab.skip rfl (fun L w1 hS hi=>(hS)) ?_;(try simp only[pE]))));refine Ab.nil fun w4 Bb=>?_
     (go_wp2_with fail;go_meet;(case rel=>exact⟨_,rfl,(fun h=>by cases h),(fun _=>(fun e=>by rw[e]at e2;simp at e2)),(Bb)⟩))
    |false=>
     go_wp2_with fail;refine AO (S:=fun _ v=>AA6 wr v) rfl (by kernel_rfl) hbd ?_;(iterate 30(first|(apply Ab.z rfl;intro L w1 _ _ _ z hK;(have x1:=AA z.s x1;have y1:=AA z.s y1;have c0:=AA z.s c0;have d0:=AA z.s d0;have c1:=AA z.s c1;have d1:=AA z.s d1);go_simp;exact hK (z.s);rfl)|(refine Ab.skip rfl (fun L w1 hS hi=>(hS)) ?_;(try simp only[pE]))));refine Ab.nil fun w4 Bb=>?_;go_wp2;go_meet;exact⟨_,rfl,(fun _=>⟨Y4 e1,Y5 e2⟩),(fun h=>by cases h),Bb⟩
   obtain⟨r0,rfl,hr,hr',hbc⟩:=hcut;obtain⟨wv,rfl⟩:∃wv:World,wv=wc:=⟨_,rfl⟩;replace x1:=AA hbc x1;replace y1:=AA hbc y1;replace c1:=AA hbc c1;replace d1:=AA hbc d1;have hbv:=AB hb hbc;have qx:=AB hb4 hbc;cases r0;rotate_left
   ·have hne:=hidden (hM.out (hr' rfl));(go_wp2_with fail;go_ret;exact⟨Bj (hne.out),(qx)⟩)
   obtain⟨hdd,hil⟩:=hr rfl;replace hdd:=hidden hdd;replace hil:=hidden hil;go_wp2;obtain⟨wz,rfl⟩:∃wz:World,wz=wr:=⟨_,rfl⟩;go_loopw[7] (fun i wr=>∃q:Nat,q<=m1.is.length/\i=.int .i64 (q:Int)/\Hid (m1.is.take q=m2.is.take q)/\AA6 wv wr) (fun i _=>m1.is.length-(intOf i).toNat);exact⟨0,AY,rfl,hidden (by simp),AL⟩;obtain⟨j,hj,rfl,hT,hb6⟩:=hrel;have x1:=AA hb6 x1;have y1:=AA hb6 y1;have c1:=AA hb6 c1;have d1:=AA hb6 d1;by_cases hend:j=m1.is.length
   ·subst hend;have hN1:=hidden (hN.out (AAK hdd.out (Cz hT.out hil.out)));have hbZ:=AB hbv hb6;go_wp2;go_roundw;exact⟨q+1,by omega,by go_num,hN1,hbZ⟩;simp[intOf];omega
   ·have hlt:j<m1.is.length:=(by omega);have A8:(j:Int)<m1.is.length:=(by omega);have hlt':j<m2.is.length:=(by have:=hil.out;omega);have JJ:(j:Int)<m2.is.length:=(by omega);obtain⟨f,rfl,⟨f0,-⟩,f1,⟨f2,-⟩,f3⟩:=r j m1.is[j] (by simp[hlt]);obtain⟨f',rfl,⟨g0,-⟩,g1,⟨g2,-⟩,g3⟩:=r' j m2.is[j] (by simp[hlt']);have hk:=AB h0 (AB qx hb6);have f0:=AA hk f0;have f1:=AA hk f1;have f2:=AA hk f2;have f3:=AA hk f3;have g0:=AA hk g0;have g1:=AA hk g1;have g2:=AA hk g2;have g3:=AA hk g3;have hN1:Qt m1.is[j] m2.is[j]=true->m1.is.take (j+1)=m2.is.take (j+1):=fun h=>Cy hT.out hlt hlt' (lY h);have hM1:Qt m1.is[j] m2.is[j]=false->m1≠m2:=fun h e=>by
     subst e;rw[Yc]at h;cases h
    have hE:∀w,(Op.equalIn 10000 213 (.agg #[.string m1.is[j].b,.int .i64 m1.is[j].a.k,.string m1.is[j].a.s,.int .i64 m1.is[j].a.n]) (.agg #[.string m2.is[j].b,.int .i64 m2.is[j].a.k,.string m2.is[j].a.s,.int .i64 m2.is[j].a.n])).run prog w=.ok (Qt m1.is[j] m2.is[j]) w:=fun w=>tV _ _ _ _ _ _ _ _ w;generalize Qt m1.is[j] m2.is[j]=bb at*;have hbf:=AB qx hb6;replace hN1:=hidden hN1;replace hM1:=hidden hM1;generalize m1.is[j].b=t1 at*;generalize m1.is[j].a.k=t2 at*;generalize m1.is[j].a.s=t3 at*;generalize m1.is[j].a.n=t4 at*;generalize m2.is[j].b=t1' at*;generalize m2.is[j].a.k=t2' at*;generalize m2.is[j].a.s=t3' at*;generalize m2.is[j].a.n=t4' at*;go_wp2_with fail;refine AO (S:=fun _ v=>v=wr.drew) rfl (by kernel_rfl) rfl ?_;(iterate 19((apply Ab.z rfl;intro L w1 _ _ _ z hK;have hS:=z.s;(subst hS);go_simp;exact hK (rfl);rfl)));refine Ab.nil fun w4 Bb=>?_;subst Bb;have Bp:=hb6.drew;have hbg:=hbf.drew;cases bb
    ·have hne:=hidden (hM.out (hM1.out (by trivial)));(go_wp2_with fail;go_ret;exact⟨Bj (hne.out),(hbg)⟩)
    ·go_wp2;go_roundw;exact⟨j+1,by omega,by go_num,hidden (hN1.out (by trivial)),Bp⟩;simp[intOf];omega
 ·have hlt:q<x.e.to.length:=by omega
  have A8:(q:Int)<x.e.to.length:=by omega
  have hlt':q<y.e.to.length:=by have:=htl.out;omega
  have JJ:(q:Int)<y.e.to.length:=by omega
  obtain⟨b,rfl,c0,-⟩:=ht q x.e.to[q] (by simp[hlt]);obtain⟨b',rfl,d0,-⟩:=ht' q y.e.to[q] (by simp[hlt']);have hbf:=AB hb2 hb;have c0:=AA (AB h0 hbf) c0;have d0:=AA (AB h0 hbf) d0;have hN:x.e.to[q]=y.e.to[q]->x.e.to.take (q+1)=y.e.to.take (q+1):=fun h=>Cy hT.out hlt hlt' h;have hM:x.e.to[q]≠y.e.to[q]->x≠y:=fun h e=>by
   subst e;exact h rfl
  rw[Nat.mul_one]at c0 d0;generalize x.e.to[q]=s at*;generalize y.e.to[q]=s' at*;replace hN:=hidden hN;replace hM:=hidden hM
  cases e1:(s.toList==s'.toList)with
  |false=>
   go_wp2_with fail;refine AO (S:=fun _ v=>v=wr.drew) rfl (by kernel_rfl) rfl ?_;(iterate 13((apply Ab.z rfl;intro L w1 _ _ _ z hK;have hS:=z.s;(subst hS);go_simp;exact hK (rfl);rfl)));refine Ab.nil fun w4 Bb=>?_;subst Bb;have hne:=hidden (hM.out fun e=>by rw[e]at e1;simp at e1);have hbg:=hbf.drew
   (go_wp2_with fail;go_ret;exact⟨Bj (hne.out),(hbg)⟩)
  |true=>
   have hN1:=hidden (hN.out (Y4 e1));go_wp2_with fail;refine AO (S:=fun _ v=>v=wr.drew) rfl (by kernel_rfl) rfl ?_;(iterate 13((apply Ab.z rfl;intro L w1 _ _ _ z hK;have hS:=z.s;(subst hS);go_simp;exact hK (rfl);rfl)));refine Ab.nil fun w4 Bb=>?_;subst Bb;have Bp:=hb.drew;go_wp2;go_roundw;exact⟨q+1,by omega,by go_num,hN1,Bp⟩;simp[intOf];omega
structure HdF(x y:Fn):Prop where
 n:x.n=y.n
 r:x.r=y.r
 p:x.ps=y.ps
 v:x.vs=y.vs
 b:x.bs.length=y.bs.length
theorem HdF.eq{x y:Fn}(h:HdF x y)(h1:x.bs=y.bs):x=y:=by grind [cases Fn,cases HdF]
structure HdP(x y:Pg):Prop where
 s:x.ssa=y.ssa
 c:x.cs.length=y.cs.length
 g:x.gs=y.gs
 m:x.xs.length=y.xs.length
 f:x.fs.length=y.fs.length
theorem HdP.eq{x y:Pg}(h:HdP x y)(h1:x.cs=y.cs)(h2:x.xs=y.xs)(h3:x.fs=y.fs):x=y:=by grind [cases Pg,cases HdP]
theorem AAr{x y:Cl}(h1:x.n=y.n)(h2:x.fs=y.fs):x=y:=by grind [cases Cl]
theorem Xn{w0 w:World}(h0:AA6 w0 w){x y:Fn}{v u1 u2 u3:Value}(hv:EL w0 v x u1 u2 u3){v' y1 y2 y3:Value}(hv':EL w0 v' y y1 y2 y3):Calls prog 177 #[v,v'] w fun e w'=>IC (x=y) e/\AA6 w w':=by
 obtain⟨rfl,-,hp,hc,ht⟩:=hv;obtain⟨rfl,-,hp',hc',ht'⟩:=hv';have hA:=fun W (hW:AA6 w0 W)=>I5 hW hp hp';have hB:=fun W (hW:AA6 w0 W)=>I5 hW hc hc';obtain⟨p1,k1,rfl⟩:=hp.slice;obtain⟨q1,l1,rfl⟩:=hp'.slice;obtain⟨p2,k2,rfl⟩:=hc.slice;obtain⟨q2,l2,rfl⟩:=hc'.slice;obtain⟨p3,k3,rfl,-,QY,ht⟩:=ht;obtain⟨q3,l3,rfl,-,vG,ht'⟩:=ht';have hb1:=AJ w (.cells #[.string x.n,.string x.r,.slice p1 x.ps.length k1,.slice p2 x.vs.length k2,.slice p3 x.bs.length k3] 66);have hb2:=hb1.alloc hb1.size (.cells #[.string y.n,.string y.r,.slice q1 y.ps.length l1,.slice q2 y.vs.length l2,.slice q3 y.bs.length l3] 66);have hX:=(Ae.alloc w [.string x.n,.string x.r,.slice p1 x.ps.length k1,.slice p2 x.vs.length k2,.slice p3 x.bs.length k3] 66).al (.cells #[.string y.n,.string y.r,.slice q1 y.ps.length l1,.slice q2 y.vs.length l2,.slice q3 y.bs.length l3] 66);have hY:=Ae.alloc (w.alloc (.cells #[.string x.n,.string x.r,.slice p1 x.ps.length k1,.slice p2 x.vs.length k2,.slice p3 x.bs.length k3] 66)) [.string y.n,.string y.r,.slice q1 y.ps.length l1,.slice q2 y.vs.length l2,.slice q3 y.bs.length l3] 66;have z1:(w.alloc (.cells #[.string x.n,.string x.r,.slice p1 x.ps.length k1,.slice p2 x.vs.length k2,.slice p3 x.bs.length k3] 66)).heap.size=w.heap.size+1:=by simp
 rw[z1]at hY;go_enter func177,ntmps177;go_upto_region 1 with fail;generalize Cr:(w.alloc _).alloc _=W at*;go_cut[42]from 6 to 41 (fun v wx=>∃r:Bool,v=.bool r/\(r=false->HdF x y)/\(r=true->x≠y)/\AA6 W wx)
 ·have hA1:=hA _ (AB h0 hb2);have hB1:=fun W' (hW:AA6 W W')=>hB W' (AB (AB h0 hb2) hW);obtain⟨a0,a1,a2⟩:=hX.c3;obtain⟨b0,b1,b2⟩:=hY.c3
  cases e1:(x.n.toList==y.n.toList)with
  |false=>(go_wp2_with fail;go_meet;(case rel=>exact⟨_,rfl,(fun h=>by cases h),(fun _=>(fun e=>by rw[e]at e1;simp at e1)),(AL)⟩))
  |true=>
  cases e2:(x.r.toList==y.r.toList)with
  |false=>(go_wp2_with fail;go_meet;(case rel=>exact⟨_,rfl,(fun h=>by cases h),(fun _=>(fun e=>by rw[e]at e2;simp at e2)),(AL)⟩))
  |true=>
  go_wp2_with fail;refine hA1.mono ?_;rintro e w1 ⟨⟨r,rfl,hr,hr'⟩,hb3⟩;replace hr:=hidden hr;replace hr':=hidden hr';cases r
  ·(go_wp2_with fail;go_meet;(case rel=>exact⟨_,rfl,(fun h=>by cases h),(fun _=>(fun e=>hr'.out (by trivial) (by rw[e]))),(hb3)⟩))
  have hB2:=hB1 _ hb3;have hX1:=hX.nx hb3;have nG:=hY.nx hb3;have a3:=hX1.c 3 _ rfl;have b3:=nG.c 3 _ rfl;go_wp2_with fail;refine hB2.mono ?_;rintro e w2 ⟨⟨r,rfl,hs,hs'⟩,hb4⟩;replace hs:=hidden hs;replace hs':=hidden hs';clear hB2;have hb5:=AB hb3 hb4;cases r
  ·(go_wp2_with fail;go_meet;(case rel=>exact⟨_,rfl,(fun h=>by cases h),(fun _=>(fun e=>hs'.out (by trivial) (by rw[e]))),(hb5)⟩))
  have hX2:=hX1.nx hb4;have hY2:=nG.nx hb4;have a4:=hX2.c 4 _ rfl;have b4:=hY2.c 4 _ rfl;clear hX1 nG
  cases e5:((x.bs.length:Int) !=(y.bs.length:Int))with
  |true=>(go_wp2_with fail;go_meet;(case rel=>exact⟨_,rfl,(fun h=>by cases h),(fun _=>(fun e=>by rw[e]at e5;simp at e5)),(hb5)⟩))
  |false=>
  have hH:HdF x y:=⟨Y4 e1,Y4 e2,hr.out (by trivial),hs.out (by trivial),Y5 e5⟩;go_wp2;go_meet;exact⟨_,rfl,(fun _=>hH),(fun h=>by cases h),hb5⟩
 obtain⟨r,rfl,hr,hr',hb3⟩:=hcut;obtain⟨w1,rfl⟩:∃w1:World,w1=wc:=⟨_,rfl⟩;have hb5:=AB hb2 hb3;replace hX:=hX.nx hb3;replace hY:=hY.nx hb3;clear hb2 hb3 hA hB;cases r;rotate_left
 ·have hne:=hidden (hr' rfl);clear hr hr' ht ht';(go_wp2_with fail;go_ret;exact⟨Bj (hne.out),(hb5)⟩)
 have hH:=hr rfl;have hbl:=hidden hH.b;go_wp2;go_loopw[5] (fun i wr=>∃q:Nat,q<=x.bs.length/\i=.int .i64 (q:Int)/\Hid (x.bs.take q=y.bs.take q)/\AA6 w1 wr) (fun i _=>x.bs.length-(intOf i).toNat);exact⟨0,AY,rfl,hidden (by simp),AL⟩;obtain⟨q,hq,rfl,hT,hb⟩:=hrel;replace hX:=hX.nx hb;replace hY:=hY.nx hb;have x4:=hX.c 4 _ rfl;have y4:=hY.c 4 _ rfl;have hb6:=AB hb5 hb;by_cases hend:q=x.bs.length
 ·subst hend;have TK:x=y:=hH.eq (Cz hT.out hbl.out);replace TK:=hidden TK;go_wp2;go_ret;exact⟨Ir TK.out,hb6⟩
 ·have hlt:q<x.bs.length:=by omega
  have A8:(q:Int)<x.bs.length:=by omega
  have hlt':q<y.bs.length:=by have:=hbl.out;omega
  have JJ:(q:Int)<y.bs.length:=by omega
  obtain⟨b,rfl,hI0⟩:=ht q x.bs[q] (by simp[hlt]);obtain⟨b',rfl,jN⟩:=ht' q y.bs[q] (by simp[hlt']);obtain⟨t1,t2,t3,hI,c0,c1,c2,c3,c4,c5,c6,c7,c8⟩:=hI0.val;obtain⟨s1,s2,s3,hI',d0,d1,d2,d3,d4,d5,d6,d7,d8⟩:=jN.val;have hk:=AB h0 hb6;have hS:=fun W (hW:AA6 wr W)=>Uo (AB hk hW) hI hI';have hN:x.bs[q]=y.bs[q]->x.bs.take (q+1)=y.bs.take (q+1):=fun h=>Cy hT.out hlt hlt' h;have hM:x.bs[q]≠y.bs[q]->x≠y:=fun h e=>by
   subst e;exact h rfl
  have c0:=AA hk c0;have c1:=AA hk c1;have c2:=AA hk c2;have c3:=AA hk c3;have c4:=AA hk c4;have c5:=AA hk c5;have c6:=AA hk c6;have c7:=AA hk c7;have c8:=AA hk c8;have d0:=AA hk d0;have d1:=AA hk d1;have d2:=AA hk d2;have d3:=AA hk d3;have d4:=AA hk d4;have d5:=AA hk d5;have d6:=AA hk d6;have d7:=AA hk d7;have d8:=AA hk d8;generalize x.bs[q]=m1 at*;generalize y.bs[q]=m2 at*;have BJ:=(Below.refl wr.heap.size wr).drew;clear hk;by_cases hm:m1=m2
  ·have hS1:∀W,AA6 wr W->Calls prog 219 #[.agg #[.string m1.n,t1,t2,.int .i64 m1.e.k,.int .i64 m1.e.a.k,.string m1.e.a.s,.int .i64 m1.e.a.n,t3,.int .i64 m1.e.n],.agg #[.string m2.n,s1,s2,.int .i64 m2.e.k,.int .i64 m2.e.a.k,.string m2.e.a.s,.int .i64 m2.e.a.n,s3,.int .i64 m2.e.n]] W fun e w'=>e=.returned (.bool true)/\AA6 W w':=fun W hW=>(hS W hW).mono fun _ _ h=>⟨h.1.yes hm,h.2⟩;have hN1:=hidden (hN hm);clear hS hN hM hm;go_wp2_with fail;refine AO (S:=fun _ v=>AA6 wr v) rfl (by kernel_rfl) BJ ?_;(iterate 12(first|(apply Ab.z rfl;intro L w1 _ _ _ z hK;(have x4:=AA z.s x4;have y4:=AA z.s y4;have c0:=AA z.s c0;have d0:=AA z.s d0;have c1:=AA z.s c1;have d1:=AA z.s d1;have c2:=AA z.s c2;have d2:=AA z.s d2;have c3:=AA z.s c3;have d3:=AA z.s d3;have c4:=AA z.s c4;have d4:=AA z.s d4;have c5:=AA z.s c5;have d5:=AA z.s d5;have c6:=AA z.s c6;have d6:=AA z.s d6;have c7:=AA z.s c7;have d7:=AA z.s d7;have c8:=AA z.s c8;have d8:=AA z.s d8);go_simp;exact hK (z.s);rfl)|(apply Ab.y rfl;intro L w1 _ _ z hK;go_simp;go_wp2_with((refine(hS1 _ z.s).mono ?_;rintro e w2 ⟨rfl,hb⟩));(try simp only[pE]);exact hK.out _ (AB z.s hb);rfl)));refine Ab.nil fun w4 Bb=>?_;have Bp:=AB hb Bb;go_wp2;go_roundw;exact⟨q+1,by omega,by go_num,hN1,Bp⟩;simp[intOf];omega
  ·have hS1:∀W,AA6 wr W->Calls prog 219 #[.agg #[.string m1.n,t1,t2,.int .i64 m1.e.k,.int .i64 m1.e.a.k,.string m1.e.a.s,.int .i64 m1.e.a.n,t3,.int .i64 m1.e.n],.agg #[.string m2.n,s1,s2,.int .i64 m2.e.k,.int .i64 m2.e.a.k,.string m2.e.a.s,.int .i64 m2.e.a.n,s3,.int .i64 m2.e.n]] W fun e w'=>e=.returned (.bool false)/\AA6 W w':=fun W hW=>(hS W hW).mono fun _ _ h=>⟨h.1.no hm,h.2⟩;have hne:=hidden (hM hm);go_wp2_with fail;refine AO (S:=fun _ v=>AA6 wr v) rfl (by kernel_rfl) BJ ?_;(iterate 12(first|(apply Ab.z rfl;intro L w1 _ _ _ z hK;(have x4:=AA z.s x4;have y4:=AA z.s y4;have c0:=AA z.s c0;have d0:=AA z.s d0;have c1:=AA z.s c1;have d1:=AA z.s d1;have c2:=AA z.s c2;have d2:=AA z.s d2;have c3:=AA z.s c3;have d3:=AA z.s d3;have c4:=AA z.s c4;have d4:=AA z.s d4;have c5:=AA z.s c5;have d5:=AA z.s d5;have c6:=AA z.s c6;have d6:=AA z.s d6;have c7:=AA z.s c7;have d7:=AA z.s d7;have c8:=AA z.s c8;have d8:=AA z.s d8);go_simp;exact hK (z.s);rfl)|(apply Ab.y rfl;intro L w1 _ _ z hK;go_simp;go_wp2_with((refine(hS1 _ z.s).mono ?_;rintro e w2 ⟨rfl,hb⟩));(try simp only[pE]);exact hK.out _ (AB z.s hb);rfl)));refine Ab.nil fun w4 Bb=>?_;have Bp:=AB hb6 Bb;(go_wp2_with fail;go_ret;exact⟨Bj (hne.out),(Bp)⟩)
end Go.Proofs.YtlffomedflegdaaGreatDoor
