/- Part 42 of 49 of the proof: Sj, Sk, Sl, Ta. -/
import Derived.Test.YtlffomedflegdaaGreatDoorPz00
import Derived.Test.YtlffomedflegdaaGreatDoorPz05
import Derived.Test.YtlffomedflegdaaGreatDoorPz06
import Derived.Test.YtlffomedflegdaaGreatDoorPz39
import Derived.Test.YtlffomedflegdaaGreatDoorPz41
set_option linter.all false
set_option maxHeartbeats 16000000
set_option maxRecDepth 100000
namespace Go.Proofs.YtlffomedflegdaaGreatDoor
open Go.Proofs.Tryz
open Go.RowKit
variable {p:Pg}{u1 u2 u3 u4 vp:Value}{w w0:World}
theorem Uz{f:Fn}{x:Is}(h:Di p f x=true):x.as.length<=8:=by
 cases hf:BH x.op with
 |none=>rw[LB hf]at h;cases h
 |some fm=>
  rw[LA hf]at h;have hm:=LD hf;by_cases hc:(x.as.length:Int)<fm.l\/fm.m<x.as.length
  ·rw[if_pos hc]at h;cases h
  ·omega
def XC(p:Pg)(f:Fn)(b:Bk):Prop:=(∀x∈b.cs,Di p f x=true)/\Pq f b.e.k b.e.a b.e.n=true
def Tq(p:Pg)(f:Fn):Prop:=rJ f/\∀(j:Nat) b,f.bs[j]? =some b->XC p f b
def aj(P:Prop)(e:Ending):Prop:=∃why:Int,e=.returned (.int .i64 why)/\(why=0->P)
theorem kJ(h0:AA6 w0 w)(hW:Words w0)(hp:Cj w0 vp p u1 u2 u3 u4){f:Fn}{vf g1 g2 g3:Value}(hf:EL w0 vf f g1 g2 g3)(hn:f.bs.length<=10000)(hno:iP f):Calls prog 71 #[vp,vf] w fun e w'=>aj (Tq p f) e/\AA6 w w':=by
 have E8:=fun W (hb:AA6 w0 W)=>Ui hb hf hn;have ABF:=fun W (hb:AA6 w0 W) (hx:NoX f)=>SI hb hf hn hx;have hIn:=fun W (hb:AA6 w0 W) (x:Is) vx y1 y2 y3 (hx:Pv w0 vx x y1 y2 y3)=>Ug hb hW hp hf hx;have hEn:=fun W (hb:AA6 w0 W) k a p4 l4 k4 n=>cK hb hf k a p4 l4 k4 n;obtain⟨rfl,hpc,hpg,hpx,hpf⟩:=hp;obtain⟨a1,b1,rfl⟩:=hpc.slice;obtain⟨a2,b2,rfl⟩:=hpg.slice;obtain⟨a3,b3,rfl⟩:=hpx.slice;obtain⟨a4,b4,rfl⟩:=hpf.slice;obtain⟨rfl,-,hp,hv,hb⟩:=hf;obtain⟨p1,k1,rfl⟩:=hp.slice;obtain⟨p2,k2,rfl⟩:=hv.slice;obtain⟨p3,k3,rfl,-,-,hl⟩:=hb;clear hp hv hpc hpg hpx hpf;have hb0:=AJ w (.cells #[.bool p.ssa,.slice a1 p.cs.length b1,.slice a2 p.gs.length b2,.slice a3 p.xs.length b3,.slice a4 p.fs.length b4] 27);have hb1:=hb0.alloc hb0.size (.cells #[.string f.n,.string f.r,.slice p1 f.ps.length k1,.slice p2 f.vs.length k2,.slice p3 f.bs.length k3] 66);have hP:=(Ae.alloc w [.bool p.ssa,.slice a1 p.cs.length b1,.slice a2 p.gs.length b2,.slice a3 p.xs.length b3,.slice a4 p.fs.length b4] 27).al (.cells #[.string f.n,.string f.r,.slice p1 f.ps.length k1,.slice p2 f.vs.length k2,.slice p3 f.bs.length k3] 66);have hX:=Ae.alloc (w.alloc (.cells #[.bool p.ssa,.slice a1 p.cs.length b1,.slice a2 p.gs.length b2,.slice a3 p.xs.length b3,.slice a4 p.fs.length b4] 27)) [.string f.n,.string f.r,.slice p1 f.ps.length k1,.slice p2 f.vs.length k2,.slice p3 f.bs.length k3] 66;have z1:(w.alloc (.cells #[.bool p.ssa,.slice a1 p.cs.length b1,.slice a2 p.gs.length b2,.slice a3 p.xs.length b3,.slice a4 p.fs.length b4] 27)).heap.size=w.heap.size+1:=by simp
 rw[z1]at hX;clear hb0 z1;have AEZ:=E8 _ (AB h0 hb1);clear E8;go_enter func71,ntmps71;go_wp2_with fail;generalize Cr:(w.alloc _).alloc _=W at*;clear Cr;refine AEZ.mono ?_;rintro e w1 ⟨⟨r,rfl,hr⟩,hb2⟩;have hP1:=hP.nx hb2;have hX1:=hX.nx hb2;have hbb:=AB hb1 hb2;cases r
 ·clear ABF hIn hEn hl;go_wp2_with fail;go_ret;exact⟨⟨_,rfl,fun h=>absurd h (by decide)⟩,hbb⟩
 have hsh:=hr rfl;replace hsh:=hidden hsh;go_wp2_with fail;go_loopw[5] (fun i wr=>∃q:Nat,q<=f.bs.length/\i=.int .i64 (q:Int)/\Hid (∀(j:Nat) b,j<q->f.bs[j]? =some b->XC p f b)/\AA6 w1 wr) (fun i _=>f.bs.length-(intOf i).toNat);exact⟨0,AY,rfl,hidden (fun j b h=>absurd h (Nat.not_lt_zero _)),AL⟩;obtain⟨q,hq,rfl,hS,hb⟩:=hrel;have hP2:=hP1.nx hb;have hX2:=hX1.nx hb;have hb3:=AB hbb hb;have x4:=hX2.c 4 _ rfl;by_cases hend:q=f.bs.length
 ·subst hend;have hall:∀(j:Nat) b,f.bs[j]? =some b->XC p f b:=fun j b h=>hS.out j b (List.getElem?_eq_some_iff.1 h).1 h;have hnx:NoX f:=fun b hb=>by
   obtain⟨j,hj⟩:=List.getElem?_of_mem hb;exact⟨(hno j b hj).1,fun x hx=>⟨((hno j b hj).2 x hx).1,((hno j b hj).2 x hx).2,Uz ((hall j b hj).1 x hx)⟩⟩
  have hR:=ABF _ (AB h0 hb3) hnx;have hO:Tq p f:=⟨hsh.out,hall⟩;replace hO:=hidden hO;obtain⟨x0,x1,x2,x3⟩:=hX2.c4;go_wp2_with fail;refine hR.mono ?_;rintro e w5 ⟨⟨r,rfl⟩,hb5⟩;have hb6:=AB hb3 hb5;cases r
  ·go_wp2_with fail;go_ret;exact⟨⟨_,rfl,fun h=>absurd h (by decide)⟩,hb6⟩
  ·go_wp2_with fail;go_ret;exact⟨⟨_,rfl,fun _=>hO.out⟩,hb6⟩
 ·have hlt:q<f.bs.length:=by omega
  have A8:(q:Int)<f.bs.length:=by omega
  obtain⟨a,rfl,hA⟩:=hl q f.bs[q] (by simp[hlt]);obtain⟨t1,t2,t3,hI,-,-,c2,c3,c4,c5,c6,c7,c8⟩:=hA.val;obtain⟨-,-,-,hic,hit⟩:=hI;obtain⟨p6,k6,rfl,-,⟨hn6,-⟩,hic⟩:=hic;obtain⟨p7,k7,rfl⟩:=hit.slice;have hk:=AB h0 hb3;replace c2:=AA hk c2;replace c3:=AA hk c3;replace c4:=AA hk c4;replace c5:=AA hk c5;replace c6:=AA hk c6;replace c7:=AA hk c7;replace c8:=AA hk c8;have hget:f.bs[q]? =some f.bs[q]:=by simp[hlt]
  have hN:XC p f f.bs[q]->∀(j:Nat) b,j<q+1->f.bs[j]? =some b->XC p f b:=fun hs j b hj hjb=>by
   by_cases e:j=q
   ·subst e;rw[hget]at hjb;obtain rfl:=Option.some.inj hjb;exact hs
   ·exact hS.out j b (by omega) hjb
  replace hN:=hidden hN;generalize f.bs[q]=b at*;obtain⟨wo,rfl⟩:∃wo:World,wo=wr:=⟨_,rfl⟩;go_wp2_with fail;go_loopw[6] (fun i wr=>∃k:Nat,k<=b.cs.length/\i=.int .i64 (k:Int)/\Hid (∀x∈b.cs.take k,Di p f x=true)/\AA6 wo wr) (fun i _=>b.cs.length-(intOf i).toNat);exact⟨0,AY,rfl,hidden (by simp),AL⟩;obtain⟨k,hkn,rfl,hT,hb4⟩:=hrel;have wV:=hP2.nx hb4;have Qa:=hX2.nx hb4;obtain⟨y0,y1,y2,y3,y4⟩:=Qa.c5;have c2':=AA hb4 c2;have hbn:=AB hb hb4;have hbf:=AB hb3 hb4;have hk4:=AB h0 hbf;have hbd:=(Below.refl wr.heap.size wr).drew;by_cases hend:k=b.cs.length
  ·subst hend;have hTa:∀x∈b.cs,Di p f x=true:=(by have:=hT.out;rw[List.take_length]at this;exact this);have hE1:∀W,AA6 wr W->Calls prog 129 #[.agg #[.string f.n,.string f.r,.slice p1 f.ps.length k1,.slice p2 f.vs.length k2,.slice (some a) f.bs.length k3],.agg #[.int .i64 b.e.k,.int .i64 b.e.a.k,.string b.e.a.s,.int .i64 b.e.a.n,.slice p7 b.e.to.length k7,.int .i64 b.e.n]] W fun e w'=>e=.returned (.bool (Pq f b.e.k b.e.a b.e.n))/\AA6 W w':=fun W hW=>hEn W (AB hk4 hW) b.e.k b.e.a p7 b.e.to.length k7 b.e.n;have hNe:Pq f b.e.k b.e.a b.e.n=true->∀(j:Nat) b,j<q+1->f.bs[j]? =some b->XC p f b:=fun h=>hN.out ⟨hTa,h⟩;replace hNe:=hidden hNe;generalize Pq f b.e.k b.e.a b.e.n=eb at*;have e3:=AA hb4 c3;have e4:=AA hb4 c4;have e5:=AA hb4 c5;have e6:=AA hb4 c6;have e7:=AA hb4 c7;have e8:=AA hb4 c8;clear hIn hEn hic hN hT hTa hP2 hX2 wV Qa c2 c3 c4 c5 c6 c7 c8 hb hb3 hk hk4 hP1 hX1;generalize b.e.k=ek at*;generalize b.e.a.k=eak at*;generalize b.e.a.s=eas at*;generalize b.e.a.n=ean at*;generalize b.e.n=en at*;go_wp2_with fail;refine AO (S:=fun _ v=>AA6 wr v) rfl (by kernel_rfl) hbd ?_;(iterate 9(first|(apply Ab.z rfl;intro L w1 _ _ _ z hK;(have y0:=AA z.s y0;have y1:=AA z.s y1;have y2:=AA z.s y2;have y3:=AA z.s y3;have y4:=AA z.s y4;have e3:=AA z.s e3;have e4:=AA z.s e4;have e5:=AA z.s e5;have e6:=AA z.s e6;have e7:=AA z.s e7;have e8:=AA z.s e8);go_simp;exact hK (z.s);rfl)|(apply Ab.y rfl;intro L w1 _ _ z hK;go_simp;go_wp2_with((refine(hE1 _ z.s).mono ?_;rintro e w2 ⟨rfl,hb⟩));(try simp only[pE]);exact hK.out _ (AB z.s hb);rfl)));refine Ab.nil fun w7 iK=>?_;have qo:=AB hbn iK;have ZX:=AB hbf iK;clear hE1 y0 y1 y2 y3 y4 e3 e4 e5 e6 e7 e8 hbd hbn hbf hb4 c2';cases eb
   ·go_wp2_with fail;go_ret;exact⟨⟨_,rfl,fun h=>absurd h (by decide)⟩,ZX⟩
   ·have hS1:=hidden (hNe.out (by trivial));go_wp2_with fail;go_roundw;exact⟨q+1,hlt,by go_num,hS1,qo⟩;simp[intOf];omega
  ·have hkl:k<b.cs.length:=(by omega);have jB:(k:Int)<b.cs.length:=(by omega);obtain⟨a6,rfl,hAI⟩:=hic k b.cs[k] (by simp[hkl]);obtain⟨s1,s2,s3,hI,d0,d1,d2,d3,d4,d5⟩:=hAI.val;have AEd:=fun W (hW:AA6 wr W)=>hIn W (AB hk4 hW) b.cs[k] _ _ _ _ hI;obtain⟨m1,j1,rfl⟩:=hI.a.slice;obtain⟨m2,j2,rfl⟩:=hI.f.slice;obtain⟨m3,j3,rfl⟩:=hI.o.slice;replace d0:=AA hk4 d0;replace d1:=AA hk4 d1;replace d2:=AA hk4 d2;replace d3:=AA hk4 d3;replace d4:=AA hk4 d4;replace d5:=AA hk4 d5;have VL:Di p f b.cs[k]=true->∀x∈b.cs.take (k+1),Di p f x=true:=fun h x hx=>by
    rw[List.take_succ_eq_append_getElem hkl]at hx;rcases List.mem_append.1 hx with h1|h1
    ·exact hT.out x h1
    ·rw[List.mem_singleton.1 h1];exact h
   replace VL:=hidden VL;obtain⟨z0,z1,z2,z3,z4⟩:=wV.c5;have hI1:∀W,AA6 wr W->Calls prog 128 #[.agg #[.bool p.ssa,.slice a1 p.cs.length b1,.slice a2 p.gs.length b2,.slice a3 p.xs.length b3,.slice a4 p.fs.length b4],.agg #[.string f.n,.string f.r,.slice p1 f.ps.length k1,.slice p2 f.vs.length k2,.slice (some a) f.bs.length k3],.agg #[.int .i64 b.cs[k].op,.string b.cs[k].d,.string b.cs[k].n,.slice m1 b.cs[k].as.length j1,.slice m2 b.cs[k].fr.length j2,.slice m3 b.cs[k].ob.length j3]] W fun e w'=>e=.returned (.bool (Di p f b.cs[k]))/\AA6 W w':=AEd;generalize Di p f b.cs[k]=ib at*;generalize b.cs[k]=x at*;generalize p.ssa=sa at*;go_wp2_with fail;refine AO (S:=fun _ v=>AA6 wr v) rfl (by kernel_rfl) hbd ?_;(iterate 13(first|(apply Ab.z rfl;intro L w1 _ _ _ z hK;(have z0:=AA z.s z0;have z1:=AA z.s z1;have z2:=AA z.s z2;have z3:=AA z.s z3;have z4:=AA z.s z4;have y0:=AA z.s y0;have y1:=AA z.s y1;have y2:=AA z.s y2;have y3:=AA z.s y3;have y4:=AA z.s y4;have c2':=AA z.s c2';have d0:=AA z.s d0;have d1:=AA z.s d1;have d2:=AA z.s d2;have d3:=AA z.s d3;have d4:=AA z.s d4;have d5:=AA z.s d5);go_simp;exact hK (z.s);rfl)|(apply Ab.y rfl;intro L w1 _ _ z hK;go_simp;go_wp2_with((refine(hI1 _ z.s).mono ?_;rintro e w2 ⟨rfl,hb⟩));(try simp only[pE]);exact hK.out _ (AB z.s hb);rfl)));refine Ab.nil fun w7 iK=>?_;have BJ:=AB hb4 iK;have ZX:=AB hbf iK;cases ib
   ·go_wp2_with fail;go_ret;exact⟨⟨_,rfl,fun h=>absurd h (by decide)⟩,ZX⟩
   ·have hT1:=hidden (VL.out (by trivial));go_wp2_with fail;go_roundw;exact⟨k+1,hkl,by go_num,hT1,BJ⟩;simp[intOf];omega
structure Zm(p:Pg):Prop where
 q:WH 5000000 p
 h:G9 p=true
 o:∀(j:Nat) f,p.fs[j]? =some f->Tq p f
 n:∀(j:Nat) f,p.fs[j]? =some f->iP f
 z:∀(j:Nat) f,p.fs[j]? =some f->f.bs.length<=32/\f.ps.length<=16/\f.vs.length<=16
theorem KQ{α:Type}{P:α->Prop}{l:List α}{q:Nat}(hq:q<l.length)(h:∀(j:Nat) f,j<q->l[j]? =some f->P f)(hp:P l[q]):∀(j:Nat) f,j<q+1->l[j]? =some f->P f:=fun j f hj e=>by
 by_cases hjq:j=q
 ·subst hjq;have:l[j]? =some l[j]:=by simp[hq]
  rw[this]at e;obtain rfl:=Option.some.inj e;exact hp
 ·exact h j f (by omega) e
theorem Mf{α:Type}{P:α->Prop}{l:List α}(h:∀(j:Nat) f,j<l.length->l[j]? =some f->P f):∀(j:Nat) f,l[j]? =some f->P f:=fun j f e=>h j f (List.getElem?_eq_some_iff.1 e).1 e
theorem UU(h0:AA6 w0 w)(hW:Words w0)(hp:Cj w0 vp p u1 u2 u3 u4)(hr:Ky p)(hf:Q0 p):Calls prog 41 #[vp] w fun e w'=>aj (Zm p) e/\AA6 w w':=by
 have hR:=fun W (hb:AA6 w0 W)=>Uj hb hW hp hr hf;have hH:=fun W (hb:AA6 w0 W) (hv:rG p)=>Uk hb hp hv;have yT:=fun W (hb:AA6 w0 W) (f:Fn) vf g1 g2 g3 (hvf:EL w0 vf f g1 g2 g3) (hn:f.bs.length<=10000) (hno:iP f)=>kJ hb hW hp hvf hn hno;have hOt:=fun W (hb:AA6 w0 W) (f:Fn) vf g1 g2 g3 (hvf:EL w0 vf f g1 g2 g3)=>Xz hb hvf;have hSz:=fun W (hb:AA6 w0 W) (f:Fn) vf g1 g2 g3 (hvf:EL w0 vf f g1 g2 g3)=>bQ hb hvf;obtain⟨rfl,hpc,hpg,hpx,hpf⟩:=hp;obtain⟨a1,b1,rfl⟩:=hpc.slice;obtain⟨a2,b2,rfl⟩:=hpg.slice;obtain⟨a3,b3,rfl⟩:=hpx.slice;obtain⟨a4,b4,rfl,-,⟨hn,-⟩,hl⟩:=hpf;have hb1:=AJ w (.cells #[.bool p.ssa,.slice a1 p.cs.length b1,.slice a2 p.gs.length b2,.slice a3 p.xs.length b3,.slice a4 p.fs.length b4] 27);have hP:=Ae.alloc w [.bool p.ssa,.slice a1 p.cs.length b1,.slice a2 p.gs.length b2,.slice a3 p.xs.length b3,.slice a4 p.fs.length b4] 27;have Jc:=hR _ (AB h0 hb1);obtain⟨sa,hsa⟩:∃sa,sa=p.ssa:=⟨_,rfl⟩;rw[<-hsa]at hb1 hP Jc hH yT⊢;replace hsa:=hidden hsa;go_enter func41,ntmps41;go_wp2_with fail;generalize Cr:w.alloc _=W at*;refine Jc.mono ?_;rintro e w1 ⟨⟨r,rfl,hq⟩,hb2⟩;have hP1:=hP.nx hb2;have hbb:=AB hb1 hb2;cases r
 ·go_wp2_with fail;go_ret;exact⟨⟨_,rfl,fun h=>absurd h (by decide)⟩,hbb⟩
 replace hq:=hidden (hq rfl);have x0:=hP1.c 0 _ rfl;cases sa;rotate_left
 ·go_wp2_with fail;go_ret;exact⟨⟨_,rfl,fun h=>absurd h (by decide)⟩,hbb⟩
 go_wp2_with fail;go_loopw[3] (fun i wr=>∃q:Nat,q<=p.fs.length/\i=.int .i64 (q:Int)/\Hid (∀(j:Nat) f,j<q->p.fs[j]? =some f->iP f)/\AA6 w1 wr) (fun i _=>p.fs.length-(intOf i).toNat);exact⟨0,AY,rfl,hidden (fun j b h=>absurd h (Nat.not_lt_zero _)),AL⟩;obtain⟨q,WK,rfl,hS,hb⟩:=hrel;have hP2:=hP1.nx hb;have hb3:=AB hbb hb;have x4:=hP2.c 4 _ rfl;by_cases hend:q=p.fs.length
 ·subst hend;have hNo:∀(j:Nat) f,p.fs[j]? =some f->iP f:=Mf hS.out;replace hNo:=hidden hNo;obtain⟨wo,rfl⟩:∃wo:World,wo=wr:=⟨_,rfl⟩;go_wp2_with fail;go_loopw[4] (fun i wr=>∃q:Nat,q<=p.fs.length/\i=.int .i64 (q:Int)/\Hid (∀(j:Nat) f,j<q->p.fs[j]? =some f->f.bs.length<=32/\f.ps.length<=16/\f.vs.length<=16)/\AA6 wo wr) (fun i _=>p.fs.length-(intOf i).toNat);exact⟨0,AY,rfl,hidden (fun j b h=>absurd h (Nat.not_lt_zero _)),AL⟩;obtain⟨q,WK,rfl,hS,hb⟩:=hrel;have hP3:=hP2.nx hb;have hb4:=AB hb3 hb;have x4:=hP3.c 4 _ rfl;by_cases hend:q=p.fs.length
  ·subst hend;have hZ:∀(j:Nat) f,p.fs[j]? =some f->f.bs.length<=32/\f.ps.length<=16/\f.vs.length<=16:=Mf hS.out;have hvf:rG p:=fun f hf=>by
    obtain⟨j,hj⟩:=List.getElem?_of_mem hf;have:=hZ j f hj;omega
   have hH1:=hH _ (AB h0 hb4) hvf;replace hZ:=hidden hZ;obtain⟨x0,x1,x2,x3⟩:=hP3.c4;obtain⟨hb',hhb⟩:∃hb',hb'=G9 p:=⟨_,rfl⟩;rw[<-hhb]at hH1;replace hhb:=hidden hhb;go_wp2_with fail;refine hH1.mono ?_;rintro e w5 ⟨rfl,hb5⟩;have Y8:=hP3.nx hb5;have hb6:=AB hb4 hb5;cases hb'
   ·go_wp2_with fail;go_ret;exact⟨⟨_,rfl,fun h=>absurd h (by decide)⟩,hb6⟩
   go_wp2_with fail;obtain⟨wp,rfl⟩:∃wp:World,wp=wr:=⟨_,rfl⟩;go_loopw[6] (fun i wr=>∃q:Nat,q<=p.fs.length/\i=.int .i64 (q:Int)/\Hid (∀(j:Nat) f,j<q->p.fs[j]? =some f->Tq p f)/\AA6 w5 wr) (fun i _=>p.fs.length-(intOf i).toNat);exact⟨0,AY,rfl,hidden (fun j b h=>absurd h (Nat.not_lt_zero _)),AL⟩;obtain⟨q,WK,rfl,hS,hb⟩:=hrel;have hP6:=Y8.nx hb;have BJ:=AB hb6 hb;have x4:=hP6.c 4 _ rfl;by_cases hend:q=p.fs.length
   ·subst hend;have hO:Zm p:=⟨hq.out,hhb.out.symm,Mf hS.out,hNo.out,hZ.out⟩;replace hO:=hidden hO;go_wp2_with fail;go_ret;exact⟨⟨_,rfl,fun _=>hO.out⟩,BJ⟩
   ·have hlt:q<p.fs.length:=(by omega);have A8:(q:Int)<p.fs.length:=(by omega);obtain⟨a,rfl,wu⟩:=hl q p.fs[q] (by simp[hlt]);obtain⟨t1,t2,t3,hF,c0,c1,c2,c3,c4⟩:=wu.val;have hgf:p.fs[q]? =some p.fs[q]:=(by simp[hlt]);have hk:=AB h0 BJ;have hC:=fun W (hW:AA6 wr W)=>yT W (AB hk hW) p.fs[q] _ _ _ _ hF (by have:=(hZ.out q _ hgf).1;omega) (hNo.out q _ hgf);obtain⟨m1,j1,rfl⟩:=hF.p.slice;obtain⟨m2,j2,rfl⟩:=hF.v.slice;obtain⟨m3,j3,rfl⟩:=hF.b.slice;have hN:Tq p p.fs[q]->∀(j:Nat) f,j<q+1->p.fs[j]? =some f->Tq p f:=KQ hlt hS.out;replace hN:=hidden hN;replace c0:=AA hk c0;replace c1:=AA hk c1;replace c2:=AA hk c2;replace c3:=AA hk c3;replace c4:=AA hk c4;obtain⟨x0,x1,x2,x3⟩:=hP6.c4;generalize p.fs[q]=f at*;have hbd:=(Below.refl wr.heap.size wr).drew;go_wp2_with fail;refine AV (S:=GC (fun v1=>AA6 wr v1) (fun _=>none) 6 (fun v v1=>(∃why:Int,v=.int .i64 why/\(why=0->Tq p f))/\AA6 wr v1)) rfl (by kernel_rfl) (GC.start hbd) ?_;(iterate 6((apply AU.z rfl;intro V L w1 _ _ _ z hK;(try(have hc:=z.f 6 (by kernel_rfl);have hI:=z.s.k hc;(have x0:=AA hI x0;have x1:=AA hI x1;have x2:=AA hI x2;have x3:=AA hI x3;have x4:=AA hI x4;have c0:=AA hI c0;have c1:=AA hI c1;have c2:=AA hI c2;have c3:=AA hI c3;have c4:=AA hI c4)));go_simp;exact hK (z.s.keep rfl rfl);intros;rfl)));refine AU.free (fun _=>rfl) (fun V L w1 K' Q' hS hi hR hd hK=>?_) ?_
    ·have hI:=hS.k hi;have iL:=hC _ hI;go_simp;(go_wp2_with(refine iL.mono ?_;rintro e w2 ⟨⟨why,rfl,hy⟩,hb⟩));(try simp only[pE]);exact hK.out _ _ rfl (GC.call ⟨⟨why,rfl,hy⟩,AB hI hb⟩)
    (try simp only[pE]);((refine AU.step (a1:=?_) (fun _=>rfl) (fun V L w1 K' Q' hS hi hR hd hK=>?_) ?_ ?_ ?_;rotate_left);(· (go_simp;(try simp only[pE]);exact hK.out _ (hS.keep rfl rfl)));(· (intro V;rfl));(· (exact fun L V V' Kt hl hv=>hv (6) (Classical.byContradiction fun h=>by have:=Kt (7) (6) (by kernel_rfl) (by simpa using h);rw[hl]at this;cases this))));refine AU.nil fun V w8 hS=>?_;obtain⟨⟨why,hV,hy⟩,Bp⟩:=hS.done rfl;simp only[hV];have hbn:=AB hb Bp;have hbf:=AB BJ Bp;replace hy:=hidden hy
    cases VK:(why !=0)with
    |true=>
     have hne:why≠0:=(by simpa using VK);replace hne:=hidden hne;go_wp2_with fail;go_ret
     exact⟨⟨_,rfl,fun h=>absurd h hne.out⟩,hbf⟩
    |false=>
     have hw0:why=0:=(by simpa using VK);have hN1:=hN.out (hy.out hw0);replace hN1:=hidden hN1;replace hw0:=hidden hw0;go_wp2_with fail;go_roundw;exact⟨q+1,hlt,by go_num,hN1,hbn⟩;simp[intOf];omega
  ·have hlt:q<p.fs.length:=(by omega);have A8:(q:Int)<p.fs.length:=(by omega);obtain⟨a,rfl,wu⟩:=hl q p.fs[q] (by simp[hlt]);obtain⟨t1,t2,t3,hF,c0,c1,c2,c3,c4⟩:=wu.val;have hk:=AB h0 hb4;have hC:=fun W (hW:AA6 wr W)=>hSz W (AB hk hW) p.fs[q] _ _ _ _ hF;obtain⟨m1,j1,rfl,-,⟨hn1,-⟩,-⟩:=hF.p;obtain⟨m2,j2,rfl,-,⟨hn2,-⟩,-⟩:=hF.v;obtain⟨m3,j3,rfl,-,⟨QY,-⟩,-⟩:=hF.b;have hN:(p.fs[q].bs.length<=32/\p.fs[q].ps.length<=16/\p.fs[q].vs.length<=16)->∀(j:Nat) f,j<q+1->p.fs[j]? =some f->f.bs.length<=32/\f.ps.length<=16/\f.vs.length<=16:=fun h=>KQ (P:=fun f:Fn=>f.bs.length<=32/\f.ps.length<=16/\f.vs.length<=16) hlt hS.out h;replace hN:=hidden hN;replace c0:=AA hk c0;replace c1:=AA hk c1;replace c2:=AA hk c2;replace c3:=AA hk c3;replace c4:=AA hk c4;generalize p.fs[q]=f at*;have hba:=AJ wr (.cells #[.string f.n,.string f.r,.slice m1 f.ps.length j1,.slice m2 f.vs.length j2,.slice m3 f.bs.length j3] 66);have hY:=Ae.alloc wr [.string f.n,.string f.r,.slice m1 f.ps.length j1,.slice m2 f.vs.length j2,.slice m3 f.bs.length j3] 66;have hwr2:IntKind.i64.wrap ((f.ps.length:Int)+(f.vs.length:Int))=(f.ps.length:Int)+(f.vs.length:Int):=IntWalk.i64_in _ (by omega);go_upto_region 12 with fail;generalize Cr:wr.alloc _=W2 at*;have iL:=hC _ hba;obtain⟨y0,y1,y2,y3,y4⟩:=hY.c5;have hbW:=AB hb hba;have hbf:=AB hb4 hba;go_cut[58]from 40 to 57 (fun v wx=>∃r:Bool,v=.bool r/\(r=false->f.bs.length<=32/\f.ps.length<=16/\f.vs.length<=16)/\AA6 W2 wx)
   ·cases hd1:decide ((32:Int)<(f.bs.length:Int))with
    |true=>
     have pK:=BK hd1;have hdN:32<f.bs.length:=(by omega);go_wp2_with fail;go_meet
     exact⟨_,rfl,(fun h=>by cases h),AL⟩
    |false=>
     have pK:=CJ hd1;have hdN:¬32<f.bs.length:=(by omega);go_wp2_with fail;refine iL.mono ?_;rintro e w7 ⟨⟨m,rfl⟩,BJ⟩;have hY7:=hY.nx BJ;obtain⟨-,-,z2,z3⟩:=hY7.c4
     cases hd2:decide ((200:Int)<m)with
     |true=>
      have hmI:=BK hd2;go_wp2_with fail;go_meet
      exact⟨_,rfl,(fun h=>by cases h),BJ⟩
     |false=>
      have hmI:=CJ hd2
      cases hd3:decide ((16:Int)<(f.ps.length:Int)+(f.vs.length:Int))with
      |true=>
       have hsI:=BK hd3;go_wp2_with fail;go_meet
       exact⟨_,rfl,(fun h=>by cases h),BJ⟩
      |false=>
       have hsI:=CJ hd3;have hok:f.bs.length<=32/\f.ps.length<=16/\f.vs.length<=16:=(by omega);replace hok:=hidden hok;go_wp2_with fail;go_meet;exact⟨_,rfl,(fun _=>hok.out),BJ⟩
   obtain⟨r,rfl,hrr,BJ⟩:=hcut;have hbn:=AB hbW BJ;have hbz:=AB hbf BJ;replace hrr:=hidden hrr;cases r
   ·have hN1:=hN.out (hrr.out (by trivial));replace hN1:=hidden hN1;go_wp2_with fail;go_roundw;exact⟨q+1,hlt,by go_num,hN1,hbn⟩;simp[intOf];omega
   ·go_wp2_with fail;go_ret;exact⟨⟨_,rfl,fun h=>absurd h (by decide)⟩,hbz⟩
 ·have hlt:q<p.fs.length:=by omega
  have A8:(q:Int)<p.fs.length:=by omega
  obtain⟨a,rfl,wu⟩:=hl q p.fs[q] (by simp[hlt]);obtain⟨t1,t2,t3,hF,c0,c1,c2,c3,c4⟩:=wu.val;have hk:=AB h0 hb3;have hC:=hOt wr hk p.fs[q] _ _ _ _ hF;obtain⟨m1,j1,rfl⟩:=hF.p.slice;obtain⟨m2,j2,rfl⟩:=hF.v.slice;obtain⟨m3,j3,rfl⟩:=hF.b.slice;have hN:iP p.fs[q]->∀(j:Nat) f,j<q+1->p.fs[j]? =some f->iP f:=KQ hlt hS.out;replace hN:=hidden hN;replace c0:=AA hk c0;replace c1:=AA hk c1;replace c2:=AA hk c2;replace c3:=AA hk c3;replace c4:=AA hk c4;generalize p.fs[q]=f at*;go_wp2_with fail;refine hC.mono ?_;rintro e w7 ⟨⟨r,rfl,hrr⟩,BJ⟩;have hbn:=AB hb BJ;have hbz:=AB hb3 BJ;replace hrr:=hidden hrr;cases r
  ·have hN1:=hN.out (hrr.out (by trivial));replace hN1:=hidden hN1;go_wp2_with fail;go_roundw;exact⟨q+1,hlt,by go_num,hN1,hbn⟩;simp[intOf];omega
  ·go_wp2_with fail;go_ret;exact⟨⟨_,rfl,fun h=>absurd h (by decide)⟩,hbz⟩
theorem Ux(h0:AA6 w0 w)(hW:Words w0)(hp:Cj w0 vp p u1 u2 u3 u4)(hr:Ky p):Calls prog 21 #[vp,.int .i64 4000] w fun e w'=>Z9 (Q0 p/\Zm p) e/\AA6 w w':=by
 have hS:=fun W (hb:AA6 w0 W) hf=>UU hb hW hp hr hf;have hF:=fun W (hb:AA6 w0 W)=>fF hb hp;obtain⟨rfl,hpc,hpg,hpx,hpf⟩:=hp;obtain⟨a1,b1,rfl⟩:=hpc.slice;obtain⟨a2,b2,rfl⟩:=hpg.slice;obtain⟨a3,b3,rfl⟩:=hpx.slice;obtain⟨a4,b4,rfl⟩:=hpf.slice;have hb1:=AJ w (.cells #[.bool p.ssa,.slice a1 p.cs.length b1,.slice a2 p.gs.length b2,.slice a3 p.xs.length b3,.slice a4 p.fs.length b4] 27);have hP:=Ae.alloc w [.bool p.ssa,.slice a1 p.cs.length b1,.slice a2 p.gs.length b2,.slice a3 p.xs.length b3,.slice a4 p.fs.length b4] 27;have hF1:=hF _ (AB h0 hb1);obtain⟨sa,hsa⟩:∃sa,sa=p.ssa:=⟨_,rfl⟩;rw[<-hsa]at hb1 hP hF1 hS⊢;replace hsa:=hidden hsa;go_enter func21,ntmps21;go_wp2_with fail;generalize Cr:w.alloc _=W at*;refine hF1.mono ?_;rintro e w1 ⟨hb2,r,rfl,Fu⟩;have hP1:=hP.nx hb2;have hbb:=AB hb1 hb2;cases r
 ·go_wp2_with fail;go_ret;exact⟨⟨_,rfl,fun h=>by cases h⟩,hbb⟩
 have hfw:=Fu rfl;have hS1:=hS _ (AB h0 hbb) hfw;replace hfw:=hidden hfw;obtain⟨x0,x1,x2,x3,x4⟩:=hP1.c5;go_wp2_with fail;refine hS1.mono ?_;rintro e w2 ⟨⟨why,rfl,hy⟩,hb3⟩;have hb4:=AB hbb hb3;replace hy:=hidden hy
 cases VK:(why==0)with
 |false=>
  go_wp2_with fail;go_ret
  exact⟨⟨_,rfl,fun h=>by cases h⟩,hb4⟩
 |true=>
  have hw0:why=0:=by simpa using VK
  have hO:Q0 p/\Zm p:=⟨hfw.out,hy.out hw0⟩;replace hO:=hidden hO;replace hw0:=hidden hw0;go_wp2_with fail;go_ret;exact⟨⟨_,rfl,fun _=>hO.out⟩,hb4⟩
structure Q6 where (f:Int) (n1:Nat) (fuel:Int) (n2 n3:Nat)
structure Qz(p:Pg)(q:Q6):Prop where
 w:Q0 p
 s:Zm p
 p:0<p.fs.length
 a:q.n1<=20
 b:q.n2<=200
 c:q.n3<=50
 d:q.fuel<=3000
theorem lU(h0:AA6 w0 w)(hW:Words w0)(hp:Cj w0 vp p u1 u2 u3 u4)(hr:Ky p)(q:Q6)(pa pb pc:Option Addr)(ca cb cc:Nat):Calls prog 9 #[vp,.agg #[.int .u8 q.f,.slice pa q.n1 ca,.int .i64 q.fuel,.slice pb q.n2 cb,.slice pc q.n3 cc]] w fun e w'=>Z9 (Qz p q) e/\AA6 w w':=by
 have hL:=fun W (hb:AA6 w0 W)=>Ux hb hW hp hr;obtain⟨rfl,hpc,hpg,hpx,hpf⟩:=hp;obtain⟨a1,b1,rfl⟩:=hpc.slice;obtain⟨a2,b2,rfl⟩:=hpg.slice;obtain⟨a3,b3,rfl⟩:=hpx.slice;obtain⟨a4,b4,rfl⟩:=hpf.slice;obtain⟨qf,n1,fu,n2,n3⟩:=q;have hb0:=AJ w (.cells #[.bool p.ssa,.slice a1 p.cs.length b1,.slice a2 p.gs.length b2,.slice a3 p.xs.length b3,.slice a4 p.fs.length b4] 27);have hb1:=hb0.alloc hb0.size (.cells #[.int .u8 qf,.slice pa n1 ca,.int .i64 fu,.slice pb n2 cb,.slice pc n3 cc] 30);have hP:=(Ae.alloc w [.bool p.ssa,.slice a1 p.cs.length b1,.slice a2 p.gs.length b2,.slice a3 p.xs.length b3,.slice a4 p.fs.length b4] 27).al (.cells #[.int .u8 qf,.slice pa n1 ca,.int .i64 fu,.slice pb n2 cb,.slice pc n3 cc] 30);have hQ:=Ae.alloc (w.alloc (.cells #[.bool p.ssa,.slice a1 p.cs.length b1,.slice a2 p.gs.length b2,.slice a3 p.xs.length b3,.slice a4 p.fs.length b4] 27)) [.int .u8 qf,.slice pa n1 ca,.int .i64 fu,.slice pb n2 cb,.slice pc n3 cc] 30;have z1:(w.alloc (.cells #[.bool p.ssa,.slice a1 p.cs.length b1,.slice a2 p.gs.length b2,.slice a3 p.xs.length b3,.slice a4 p.fs.length b4] 27)).heap.size=w.heap.size+1:=by simp
 rw[z1]at hQ;have hL1:=hL _ (AB h0 hb1);dsimp only;go_enter func9,ntmps9;go_wp2_with fail;generalize Cr:(w.alloc _).alloc _=W at*;refine hL1.mono ?_;rintro e w1 ⟨⟨r,rfl,hy⟩,hb2⟩;have hP1:=hP.nx hb2;have hQ1:=hQ.nx hb2;have hbb:=AB hb1 hb2;have x4:=hP1.c 4 _ rfl;obtain⟨-,y1,y2,y3,y4⟩:=hQ1.c5;cases r
 ·go_wp2_with fail;go_ret;exact⟨⟨_,rfl,fun h=>by cases h⟩,hbb⟩
 replace hy:=hidden (hy rfl)
 cases e1:decide ((0:Int)<(p.fs.length:Int))with
 |false=>
  have g1:=CJ e1;have g2:¬0<p.fs.length:=by omega
  go_wp2_with fail;go_ret
  exact⟨⟨_,rfl,fun h=>by cases h⟩,hbb⟩
 |true=>
 have g1:=BK e1;have g2:0<p.fs.length:=by omega
 cases e2:decide ((n1:Int)<=20)with
 |false=>
  have g3:=CJ e2;have g4:¬n1<=20:=by omega
  go_wp2_with fail;go_ret
  exact⟨⟨_,rfl,fun h=>by cases h⟩,hbb⟩
 |true=>
 have g3:=BK e2;have g4:n1<=20:=by omega
 cases e3:decide ((n2:Int)<=200)with
 |false=>
  have g5:=CJ e3;have g6:¬n2<=200:=by omega
  go_wp2_with fail;go_ret
  exact⟨⟨_,rfl,fun h=>by cases h⟩,hbb⟩
 |true=>
 have g5:=BK e3;have g6:n2<=200:=by omega
 cases e4:decide ((n3:Int)<=50)with
 |false=>
  have g7:=CJ e4;have g8:¬n3<=50:=by omega
  go_wp2_with fail;go_ret
  exact⟨⟨_,rfl,fun h=>by cases h⟩,hbb⟩
 |true=>
 have g7:=BK e4;have g8:n3<=50:=by omega
 cases e5:decide (fu<=3000)with
 |false=>
  have g9:=CJ e5;go_wp2_with fail;go_ret
  exact⟨⟨_,rfl,fun h=>by cases h⟩,hbb⟩
 |true=>
  have g9:=BK e5;have hO:Qz p ⟨qf,n1,fu,n2,n3⟩:=⟨hy.out.1,hy.out.2,g2,g4,g6,g8,g9⟩;replace hO:=hidden hO;go_wp2_with fail;go_ret;exact⟨⟨_,rfl,fun _=>hO.out⟩,hbb⟩
theorem YA(h0:AA6 w0 w)(hp:Cj w0 vp p u1 u2 u3 u4)(hn0:0<p.fs.length)(qf:Nat)(hq:qf<256){v1 v2 v3 v4:Value}(g1:v1.oneCell'=true)(g2:v2.oneCell'=true)(g3:v3.oneCell'=true)(g4:v4.oneCell'=true):Calls prog 11 #[vp,.agg #[.int .u8 (qf:Int),v1,v2,v3,v4]] w fun e w'=>e=.returned (.string (p.fs[qf%p.fs.length]'(Nat.mod_lt _ hn0)).n)/\AA6 w w':=by
 obtain⟨rfl,hpc,hpg,hpx,hpf⟩:=hp;obtain⟨a1,b1,rfl⟩:=hpc.slice;obtain⟨a2,b2,rfl⟩:=hpg.slice;obtain⟨a3,b3,rfl⟩:=hpx.slice;obtain⟨a4,b4,rfl,-,⟨hnn,-⟩,hl⟩:=hpf;have hm:=Nat.mod_lt qf hn0;obtain⟨a,rfl,⟨c0,-⟩,-⟩:=hl (qf%p.fs.length) p.fs[qf%p.fs.length] (by simp[hm]);generalize(p.fs[qf%p.fs.length]'(Nat.mod_lt _ hn0)).n=nm at*;have hmI:((qf%p.fs.length:Nat):Int)<p.fs.length:=by omega
 have htm:(qf:Int).tmod (p.fs.length:Int)=((qf%p.fs.length:Nat):Int):=by rw[Int.tmod_eq_emod_of_nonneg (by omega)];simp
 have hwq:IntKind.i64.wrap ((qf:Int))=(qf:Int):=IntWalk.i64_in _ (by omega);have hwm:IntKind.i64.wrap ((qf%p.fs.length:Nat):Int)=((qf%p.fs.length:Nat):Int):=IntWalk.i64_in _ (by omega);have hne:(p.fs.length:Int)≠0:=by omega
 have xq:(0:Int)<p.fs.length:=by omega
 have AJU:¬p.fs.length=0:=by omega
 generalize qf%p.fs.length=m at*;generalize p.fs.length=n at*;have hb0:=AJ w (.cells #[.bool p.ssa,.slice a1 p.cs.length b1,.slice a2 p.gs.length b2,.slice a3 p.xs.length b3,.slice (some a) n b4] 27);have hb1:=hb0.alloc hb0.size (.cells #[.int .u8 (qf:Int),v1,v2,v3,v4] 30);have hP:=(Ae.alloc w [.bool p.ssa,.slice a1 p.cs.length b1,.slice a2 p.gs.length b2,.slice a3 p.xs.length b3,.slice (some a) n b4] 27).al (.cells #[.int .u8 (qf:Int),v1,v2,v3,v4] 30);have hQ:=Ae.alloc (w.alloc (.cells #[.bool p.ssa,.slice a1 p.cs.length b1,.slice a2 p.gs.length b2,.slice a3 p.xs.length b3,.slice (some a) n b4] 27)) [.int .u8 (qf:Int),v1,v2,v3,v4] 30;have z1:(w.alloc (.cells #[.bool p.ssa,.slice a1 p.cs.length b1,.slice a2 p.gs.length b2,.slice a3 p.xs.length b3,.slice (some a) n b4] 27)).heap.size=w.heap.size+1:=by simp
 rw[z1]at hQ;go_enter func11,ntmps11;go_upto_region 1 with fail;generalize Cr:(w.alloc _).alloc _=W at*;have x4:=hP.c 4 _ rfl;have y0:=hQ.c 0 _ rfl;replace c0:=AA (AB h0 hb1) c0;refine AO (S:=fun _ v=>v=W.drew) rfl (by kernel_rfl) rfl ?_;iterate 13((apply Ab.z rfl;intro L w1 _ _ _ z hK;have hS:=z.s;(subst hS);go_simp;exact hK (rfl);rfl))
 refine Ab.nil fun w8 iJ=>?_;subst iJ;go_wp2;go_ret;exact⟨rfl,hb1.drew⟩
section
open Go.MapKept Go.ChangeMaps
abbrev Gm:=List (ByteArray×Value)
def OD(x:ByteArray×Value):Value×Value:=(.string x.1,x.2)
def Gc(w:World)(b:Nat)(m:Gm):Prop:=
 ∃es clock,w.heap[b]? =some (.map es clock)/\Stamped es clock/\es.toList.map (fun e=>(e.key,e.val))=m.map OD
section
variable {P : Program} {w : World} {t kt et : TypeId} {b : Nat} {m : Gm}
theorem Gc.keys{es:Array MapEntry}(h:es.toList.map (fun e=>(e.key,e.val))=m.map OD):∀x∈es.toList,∃y∈m,x.key=.string y.1/\x.val=y.2:=by
 intro x hx;have:(x.key,x.val)∈m.map OD:=h▸List.mem_map.2 ⟨x,hx,rfl⟩;obtain⟨y,hy,e⟩:=List.mem_map.1 this;simp only[OD,Prod.mk.injEq]at e;exact⟨y,hy,e.1.symm,e.2.symm⟩
theorem Gc.MS{es:Array MapEntry}(h:es.toList.map (fun e=>(e.key,e.val))=m.map OD):∀x∈es.toList,IsKey .string x.key:=fun x hx=>by
 obtain⟨y,_,e,_⟩:=Gc.keys h x hx;rw[e];trivial
theorem Gc.made{clock:Nat}:Gc (w.alloc (.map #[] clock)) w.heap.size []:=⟨#[],clock,(MapKept.heap_alloc w _).1,stamped_empty clock,rfl⟩
theorem bX(hm:P.underlying t=some (.map kt et))(hk:P.underlying kt=some .string)(h:Gc w b m)(x:ByteArray)(v:Value)(hx:(m.all fun y=> !(decide (y.1=x)))=true):∃o2,(Instr.mapUpdate t (.map (some b)) (.string x) v).run P w=.ok () (Dx w b o2)/\Gc (Dx w b o2) b (m++[(x,v)]):=by
 obtain⟨es,clock,hb,hs,he⟩:=h;have hno:∀y∈es.toList,y.key≠ .string x:=fun y hy e=>by
  obtain⟨z,hz,e1,-⟩:=Gc.keys he y hy;have:=List.all_eq_true.1 hx z hz;rw[e1]at e;have:z.1=x:=by simpa using e
  simp_all
 rcases findNow_spec (LV x) es.toList 0 (Gc.MS he)with⟨h1,h2⟩|⟨j,e,h1,h2,h3⟩
 ·refine⟨.map (es.push ⟨.string x,v,clock⟩) (clock+1),?_,_,_,KW hb,stamped_push hs h2,?_⟩
  ·simp[Instr.mapUpdate,run_underlying hm,MapKept.run_getObj_map hb,MapKept.run_checkKey hk (LV x),MapKept.run_findKey hk h1,MapKept.run_setObj_map _ hb,Result.andThen,Dx]
  ·simp[he,OD]
 ·exact absurd h3 (hno e (List.mem_of_getElem? h2))
theorem bZ(hm:P.underlying t=some (.map kt et))(hk:P.underlying kt=some .string)(h:Gc w b m)(x:ByteArray)(j:Nat)(v:Value)(hj:m[j]? =some (x,v)):(Instr.lookup t (.map (some b)) (.string x) false).run P w=.ok v w:=by
 obtain⟨es,clock,hb,hs,he⟩:=h;have wL:(es.toList.map (fun e=>(e.key,e.val)))[j]? =some (.string x,v):=by rw[he,List.getElem?_map,hj];rfl
 rw[List.getElem?_map]at wL
 cases hq:es.toList[j]? with
 |none=>rw[hq]at wL;cases wL
 |some e=>
  rw[hq]at wL;obtain⟨hek,hev⟩:e.key=.string x/\e.val=v:=by simpa using wL
  rcases findNow_spec (LV x) es.toList 0 (Gc.MS he)with⟨h1,h2⟩|⟨i,e',h1,h2,h3⟩
  ·exact absurd hek (h2 e (List.mem_of_getElem? hq))
  ·have hnd:=hs.2.2;have hij:i=j:=by
    have hi:(es.toList.map (·.key))[i]? =some (.string x):=(by rw[List.getElem?_map,h2,<-h3];rfl);have hjj:(es.toList.map (·.key))[j]? =some (.string x):=(by rw[List.getElem?_map,hq,<-hek];rfl);have li:=(List.getElem?_eq_some_iff.1 hi).1;have lj:=(List.getElem?_eq_some_iff.1 hjj).1
    exact(List.getElem_inj hnd).1 (by
     have a:=(List.getElem?_eq_some_iff.1 hi).2;have b:=(List.getElem?_eq_some_iff.1 hjj).2
     rw[a,b])
   subst hij;rw[hq]at h2;obtain rfl:=Option.some.inj h2;rw[hev]at h1;simp[Instr.lookup,run_underlying hm,MapKept.run_getObj_map hb,MapKept.run_checkKey hk (LV x),MapKept.run_findKey hk h1,Result.andThen]
theorem SH(hm:P.underlying t=some (.map kt et))(hk:P.underlying kt=some .string){z:Value}(hz:∀u:World,(zeroValue et).run P u=.ok z u)(h:Gc w b m)(x:ByteArray)(hx:(m.all fun y=> !(decide (y.1=x)))=true):(Instr.lookup t (.map (some b)) (.string x) false).run P w=.ok z w:=by
 obtain⟨es,clock,hb,hs,he⟩:=h;have hno:∀y∈es.toList,y.key≠ .string x:=fun y hy e=>by
  obtain⟨z,hz,e1,-⟩:=Gc.keys he y hy;have:=List.all_eq_true.1 hx z hz;rw[e1]at e;have:z.1=x:=by simpa using e
  simp_all
 rcases findNow_spec (LV x) es.toList 0 (Gc.MS he)with⟨h1,h2⟩|⟨j,e,h1,h2,h3⟩
 ·simp[Instr.lookup,run_underlying hm,MapKept.run_getObj_map hb,MapKept.run_checkKey hk (LV x),MapKept.run_findKey hk h1,hz,Result.andThen]
 ·exact absurd h3 (hno e (List.mem_of_getElem? h2))
theorem jd{ops:Array Oper}{rest:List Oper}{o:Oper}{a:Act}{Q:Exit->Act->World->Prop}{v:Value}{x:ByteArray}(hgd:o.guard=none)(mo ko xo:Operand)(ho:o.op=Op.insert t mo ko xo)(hd:o.dst=none)(hm:P.underlying t=some (.map kt et))(hk:P.underlying kt=some .string)(h:Gc w b m) (h1:a.eval mo=.map (some b)) (h2:a.eval ko=.string x) (h3:a.eval xo=v) (hx:(m.all fun y=> !(decide (y.1=x)))=true)(hK:∀w',Gc w' b (m++[(x,v)])->w.grownBy w' (some b)->wpList P ops Q rest a w'):wpList P ops Q (o::rest) a w:=by
 obtain⟨o2,hr,hg⟩:=bX hm hk h x v hx;refine wpList_plain hgd fun K hK'=>?_;unfold Oper.wp;simp[execOp,ho,h1,h2,h3,hr,Result.andThen,hd,Act.put,Oper.upon];have:=hK' _ _ (hK _ hg (Hz _ _ _));simpa[hd,Act.put]using this
end
theorem je{P:Program}{t kt et:TypeId}{b:Nat}{m:Gm}{ops:Array Oper}{rest:List Oper}{o:Oper}{a:Act}{Q:Exit->Act->World->Prop}{x:ByteArray}{F:Nat}(hgd:o.guard=none)(mo:Operand)(ho:o.op=Op.insert t mo (.const (.string x)) (.func F))(hd:o.dst=none)(hm:P.underlying t=some (.map kt et))(hk:P.underlying kt=some .string)(h:Gc w b m) (h1:a.eval mo=.map (some b)) (hx:(m.all fun y=> !(decide (y.1=x)))=true)(hK:∀w',Gc w' b (m++[(x,.func (Fn.func F) #[] #[])])->w.grownBy w' (some b)->wpList P ops Q rest a w'):wpList P ops Q (o::rest) a w:=
 jd hgd mo _ _ ho hd hm hk h h1 rfl rfl hx hK
def ZI:List (ByteArray×Nat):=[(⟨#[115,115,97]⟩,101),(⟨#[99,108,97,115,115]⟩,102),(⟨#[102,105,101,108,100]⟩,103),(⟨#[103,108,111,98,97,108]⟩,104),(⟨#[101,120,116,101,114,110]⟩,105),
 (⟨#[102,117,110,99]⟩,106),(⟨#[112,97,114,97,109]⟩,107),(⟨#[118,97,114]⟩,108),(⟨#[98,108,111,99,107]⟩,109),(⟨#[112,104,105]⟩,110),(⟨#[97,116]⟩,111),(⟨#[111,98,106]⟩,112),
 (⟨#[106,117,109,112]⟩,113),(⟨#[98,114,97,110,99,104]⟩,113),(⟨#[114,101,116]⟩,113),(⟨#[116,114,97,112]⟩,113)]
def fnV(F:Nat):Value:=.func (Fn.func F) #[] #[]
def rGm:Gm:=ZI.map fun x=>(x.1,fnV x.2)
theorem SL(s:ByteArray)(F:Nat)(hF:(∃j:Nat,ZI[j]? =some (s,F))\/((ZI.all fun y=> !(decide (y.1=s)))=true/\F=62))(w:World):Calls prog 61 #[.string s] w fun e w'=>e=.returned (.func (Fn.func F) #[] #[])/\AA6 w w':=by
 have hmm:= @run_makeMap prog;have hMm:prog.underlying 178=some (.map 9 146):=by kernel_rfl
 have Yv:prog.underlying 9=some .string:=by kernel_rfl
 have hMz:∀u:World,(zeroValue 146).run prog u=.ok .nilFunc u:=fun u=>by
  have h1:prog.underlying 146=prog.underlying 146:=rfl;go_simp
 have hn1:∀w,(binOp BinOp.neq 146 (.func (Fn.func F) #[] #[]) .nilFunc).run prog w=.ok (.bool true) w:=fun _=>rfl;have hn2:∀w,(binOp BinOp.neq 146 .nilFunc .nilFunc).run prog w=.ok (.bool false) w:=fun _=>rfl;have hg:=Gc.made (w:=w) (clock:=0);have hB:=AJ w (.map #[] 0);go_enter func61,ntmps61;go_upto_region 2 with(refine je rfl _ rfl rfl hMm Yv hg rfl rfl ?_;intro w1 hg1 hgr;replace hB:=hB.grown hgr hB.size (fun k e=>by cases e;exact AQ);replace hg:=hg1;clear hg1 hgr)
 replace hg:Gc _ w.heap.size rGm:=hg;rcases hF with⟨j,hj⟩|⟨hno,rfl⟩
 ·have hL:=bZ hMm Yv hg s j (fnV F) (by unfold rGm;rw[List.getElem?_map,hj];rfl);unfold fnV at hL;go_wp2;go_ret;exact⟨rfl,hB⟩
 ·have hL:=SH hMm Yv hMz hg s (by unfold rGm;rw[List.all_map];exact hno);go_wp2;go_ret;exact⟨rfl,hB⟩
end
end Go.Proofs.YtlffomedflegdaaGreatDoor
