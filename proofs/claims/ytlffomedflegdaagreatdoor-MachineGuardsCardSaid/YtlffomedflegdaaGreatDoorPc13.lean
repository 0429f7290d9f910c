/- Part 13 of the proof: Of, Og, Oh, Oi, Oj. -/
import Derived.Test.YtlffomedflegdaaGreatDoorPc12
set_option linter.all false
set_option maxHeartbeats 16000000
set_option maxRecDepth 100000
namespace Go.Proofs.YtlffomedflegdaaGreatDoor
open Go.Proofs.Tryz
open Go.RowKit
variable {B n pb q:Nat}{u v:Value}{w w0:World}
section
def RA(b:Bk):Prop:=(∀h∈b.ps,∀j∈h.is,Bo j.a.n)/\(∀i∈b.cs,VT i)/\Bo b.e.a.n/\Bo b.e.n
def Ky(p:Pg):Prop:=(∀e∈p.xs,Bo e.k)/\∀f∈p.fs,∀b∈f.bs,RA b
theorem WZ.val{a:Addr}{x:Is}(h:WZ w a x):∃u1 u2 u3,Pv w (.agg #[.int .i64 x.op,.string x.d,.string x.n,u1,u2,u3]) x u1 u2 u3/\w.cell? a=some (.int .i64 x.op)/\At w a 1 (.string x.d)/\At w a 2 (.string x.n)/\At w a 3 u1/\At w a 4 u2/\At w a 5 u3:=by
 obtain⟨h0,⟨h1,z1⟩,⟨h2,z2⟩,⟨u1,h3,r1⟩,⟨u2,h4,r2⟩,u3,h5,r3⟩:=h;exact⟨u1,u2,u3,⟨rfl,⟨z1,z2⟩,r1,r2,r3⟩,h0,h1,h2,h3,h4,h5⟩
theorem VP.val{a:Addr}{x:Fn}(h:VP w a x):∃u1 u2 u3,EL w (.agg #[.string x.n,.string x.r,u1,u2,u3]) x u1 u2 u3/\w.cell? a=some (.string x.n)/\At w a 1 (.string x.r)/\At w a 2 u1/\At w a 3 u2/\At w a 4 u3:=by
 obtain⟨⟨h1,z1⟩,⟨h2,z2⟩,⟨u1,h3,r1⟩,⟨u2,h4,r2⟩,u3,h5,r3⟩:=h;exact⟨u1,u2,u3,⟨rfl,⟨z1,z2⟩,r1,r2,r3⟩,h1,h2,h3,h4,h5⟩
structure Fp(w:World)(B:Nat)(bx:List (Nat×List Value×TypeId))(w1:World):Prop where
 k:Kp 5 B w w1
 x:∀b∈bx,Ni w1 b.1 b.2.1 b.2.2/\b.2.2≠5/\b.2.2≠9
section
variable {w w1 w2 : World} {B p : Nat} {bx : List (Nat × List Value × TypeId)} {cs : List Value} {T : TypeId}
theorem Fp.next(h:Fp w B bx w1)(hB:B<=w.heap.size)(hb:AA6 w1 w2):Fp w B bx w2:=⟨h.k.nx hB hb,fun b hb'=>⟨(h.x b hb').1.nx hb,(h.x b hb').2⟩⟩
theorem Fp.u8(h:Fp w B bx w1)(hk:Kp 5 B w1 w2):Fp w B bx w2:=⟨h.k.trans hk,fun b hb=>⟨(h.x b hb).1.kp hk (h.x b hb).2.1,(h.x b hb).2⟩⟩
theorem Fp.str(h:Fp w B bx w1)(hB:B<=w.heap.size)(hk:Kp 9 w.heap.size w1 w2):Fp w B bx w2:=⟨h.k.old hk.b hB,fun b hb=>⟨(h.x b hb).1.kp hk (h.x b hb).2.2,(h.x b hb).2⟩⟩
theorem Fp.sz(h:Fp w B bx w1):w.heap.size<=w1.heap.size:=h.k.b.size
theorem Fp.at(h:Fp w B bx w1){i:Nat}{b:Nat×List Value×TypeId}(hi:bx[i]? =some b):Ni w1 b.1 b.2.1 b.2.2:=(h.x b (List.mem_of_getElem? hi)).1
theorem Fp.push(h:Fp w B bx w1)(hx:Ni w1 p cs T)(hT:T≠5/\T≠9):Fp w B (bx++[(p,cs,T)]) w1:=⟨h.k,fun b hb=>by
 rcases List.mem_append.1 hb with h1|h1
 ·exact h.x b h1
 ·obtain rfl:=List.mem_singleton.1 h1
  exact⟨hx,hT⟩⟩
theorem Fp.less{by':List (Nat×List Value×TypeId)}(h:Fp w B (bx++by') w1):Fp w B bx w1:=⟨h.k,fun b hb=>h.x b (List.mem_append_left _ hb)⟩
end
def GD(K0:World->Prop)(c0:Nat)(K:World->Prop)(R:Rs)(cl:Nat)(Y:Value->World->Prop)(V:Nat->Value)(L:Nat->Bool)(w:World):Prop:=GC K R cl Y V L w/\(L c0=false->K0 w)
section
variable {K0 K : World -> Prop} {w w2 : World} {R : Rs} {c0 cl i c : Nat} {X Y : Value -> World -> Prop} {V : Nat -> Value} {L : Nat -> Bool}
theorem MO{L:Nat->Bool}{i j:Nat}(h:upd L i j=false):L j=false/\j≠i:=by grind [upd]
theorem GD.start(h:K w)(h0:K0 w):GD K0 c0 K R cl Y V (fun _=>false) w:=⟨GC.start h,fun _=>h0⟩
theorem GD.keep(h:GD K0 c0 K R cl Y V L w)(hR:R i=none)(h1:(cl==i)=false):GD K0 c0 K R cl Y V (upd L i) w:=⟨h.1.keep hR h1,fun e=>h.2 (MO e).1⟩
theorem GD.k(h:GD K0 c0 K R cl Y V L w)(hc:L cl=false):K w:=h.1.k hc
theorem GD.val(h:GD K0 c0 K R cl Y V L w)(hc:L cl=false)(hR:R i=some (c,X))(hi:L i=true)(hd:L c=false):X (V i) w:=h.1.val hc hR hi hd
theorem GD.made(h:GD K0 c0 K R cl Y V L w)(hs:xK R i V L w w2)(hk:K w2)(hc:L cl=false)(hR:R i=some (c,X))(hx:X v w2)(h1:(cl==i)=false)(h0:c0≠i->L c0=false->K0 w->K0 w2):GD K0 c0 K R cl Y (EB V i v) (upd L i) w2:=
 ⟨h.1.made hs hk hc hR hx h1,fun e=>h0 (MO e).2 (MO e).1 (h.2 (MO e).1)⟩
theorem GD.call(hy:Y v w2)(h0:L c0=true):GD K0 c0 K R cl Y (EB V cl v) (upd L cl) w2:=by grind [GD,EB,upd,GC.call,MO]
theorem GD.done(h:GD K0 c0 K R cl Y V L w)(hc:L cl=true):Y (V cl) w:=h.1.done hc
end
theorem Ht(a b c:ByteArray):lens [a,b,c]=a.size+b.size+c.size+3:=by simp[lens,Aj];omega
theorem F7{α:Type}(f:α->Nat)(l:List α)(q:Nat):Aj f (l.take q)<=Aj f l:=by
 have:=D5 f (l.take q) (l.drop q);simp_all
theorem YC(h0:AA6 w0 w)(hW:Words w0){p:Pg}{vp u1 u2 u3 u4:Value}(hp:Cj w0 vp p u1 u2 u3 u4)(hr:Ky p)(hf:Q0 p):Calls prog 123 #[vp] w fun e w'=>jT 1000000 e/\AA6 w w':=by
 obtain⟨rfl,hc,hg,hx,hfs⟩:=hp;have hgr:=hg;obtain⟨p1,k1,rfl,-,-,hc⟩:=hc;obtain⟨p2,k2,rfl,-⟩:=hg;obtain⟨p3,k3,rfl,-,-,hx⟩:=hx;obtain⟨p4,k4,rfl,-,-,hfs⟩:=hfs;obtain⟨hf1,hf2,hf3,hf4⟩:=hf;have hcP:Ww p=CY p.gs+Aj DV p.cs+Aj Fe p.xs+Aj cntF p.fs:=rfl;have hB:w.heap.size<=w.heap.size:=AQ;generalize p.ssa=ss at*;have z1:(⟨#[115,115,97]⟩:ByteArray).size=3:=rfl;have z2:(⟨#[99,108,97,115,115]⟩:ByteArray).size=5:=rfl;have z3:(⟨#[101,120,116,101,114,110]⟩:ByteArray).size=6:=rfl;have z4:(⟨#[102,117,110,99]⟩:ByteArray).size=4:=rfl;have z5:(⟨#[98,108,111,99,107]⟩:ByteArray).size=5:=rfl;have z6:(⟨#[112,104,105]⟩:ByteArray).size=3:=rfl;obtain⟨PC,hPC⟩:∃PC:List Value,PC=[.bool ss,.slice p1 p.cs.length k1,.slice p2 p.gs.length k2,.slice p3 p.xs.length k3,.slice p4 p.fs.length k4]:=⟨_,rfl⟩
 have hI:Fp w w.heap.size [(w.heap.size,PC,27)] (w.alloc (.cells #[.bool ss,.slice p1 p.cs.length k1,.slice p2 p.gs.length k2,.slice p3 p.xs.length k3,.slice p4 p.fs.length k4] 27)):=⟨Kp.of (AJ w _) hB,fun b hb=>by
  obtain rfl:=List.mem_singleton.1 hb;refine⟨?_,show 27≠5/\27≠9 by decide⟩;rw[hPC]
  exact Ni.new w _ _⟩
 have hw:∀{v bx},Fp w w.heap.size bx v->AA6 w0 v:=fun h=>AB h0 h.k.b;have P0:Hid (∀v bx,Fp w w.heap.size ((w.heap.size,PC,27)::bx) v->w.heap.size<v.heap.size/\v.cell? ⟨w.heap.size,0,none⟩=some (.bool ss)/\v.cell? ⟨w.heap.size,1,none⟩=some (.slice p1 p.cs.length k1)/\v.cell? ⟨w.heap.size,2,none⟩=some (.slice p2 p.gs.length k2)/\v.cell? ⟨w.heap.size,3,none⟩=some (.slice p3 p.xs.length k3)/\v.cell? ⟨w.heap.size,4,none⟩=some (.slice p4 p.fs.length k4)):=Wx fun v bx h=>by
  have hb:=(h.at (i:=0) rfl).b;dsimp only at hb;rw[hPC]at hb;exact⟨hb.lt,hb.c 0 _ rfl,hb.c 1 _ rfl,hb.c 2 _ rfl,hb.c 3 _ rfl,hb.c 4 _ rfl⟩
 have hv0:BU (w.alloc (.cells #[.bool ss,.slice p1 p.cs.length k1,.slice p2 p.gs.length k2,.slice p3 p.xs.length k3,.slice p4 p.fs.length k4] 27)) w.heap.size (.slice none 0 0) 0:=⟨[],AQ,World.ownsRow_nil _ _ _ _⟩;go_enter func123,ntmps123;have q0:=(P0.out _ _ hI).2.1;go_upto_if 15 with fail;generalize hW1:w.alloc _=W at*;go_cut[3]from 16 to 18 (fun v wx=>(∃p m c,v=.slice p m c)/\BU wx w.heap.size v 5/\Fp w w.heap.size [(w.heap.size,PC,27)] wx)
 ·cases ss
  ·go_wp2;go_meet;exact⟨⟨_,_,_,rfl⟩,hv0.up (AY),hI⟩
  ·have hb:=AJ W (.cells #[.string ⟨#[115,115,97]⟩] 9);have hS:Ws (W.alloc (.cells #[.string ⟨#[115,115,97]⟩] 9)) (.slice (some ⟨W.heap.size,0,none⟩) 1 1) [⟨#[115,115,97]⟩]:=Ws.new W [⟨#[115,115,97]⟩] (show 1<=maxLen by decide);go_wp2_with fail;refine(Cx (hv0.nx hb) hS (hI.next hB hb).sz (by rw[Aw];omega)).mono ?_;rintro e w2 ⟨v2,rfl,hv2,hk2⟩;obtain⟨pv,mv,cv,rfl⟩:=hv2.sl;go_wp2;go_meet;exact⟨⟨_,_,_,rfl⟩,hv2.up (by rw[Aw];omega),(hI.next hB hb).u8 hk2⟩
 obtain⟨⟨pv,mv,cv,rfl⟩,hv,hI⟩:=hcut;go_wp2;go_loopw[3,4] (fun v i wr=>∃q:Nat,q<=p.cs.length/\i=.int .i64 (q:Int)/\(∃p m c,v=.slice p m c)/\BU wr w.heap.size v (5+10*q+100*Aj DV (p.cs.take q))/\Fp w w.heap.size [(w.heap.size,PC,27)] wr) (fun _ i _=>p.cs.length-(intOf i).toNat);exact⟨0,AY,rfl,⟨_,_,_,rfl⟩,hv.up (by omega),hI⟩;obtain⟨q,hq,rfl,⟨pv,mv,cv,rfl⟩,hv,hI⟩:=hrel;have q1:=(P0.out _ _ hI).2.2.1;by_cases hend:q=p.cs.length
 ·subst hend;rw[List.take_length]at hv;have q2:=(P0.out _ _ hI).2.2.2.1;have hle:=F7 DV p.cs p.cs.length;replace hfs:=Wx hfs;replace hx:=Wx hx;go_wp2_with fail;refine(I9 (hw hI) (s:=⟨#[103,108,111,98,97,108]⟩) (show 6<=10 by decide) hv hgr hI.sz h0.size (by omega)).mono ?_;rintro e w3 ⟨v',rfl,hv3,hk3⟩;obtain⟨pv,mv,cv,rfl⟩:=hv3.sl;replace hI:=hI.u8 hk3;generalize hN1:5+10*p.cs.length+100*Aj DV p.cs+100*CY p.gs=N1 at*;go_wp2;go_loopw[3,5] (fun v i wr=>∃q:Nat,q<=p.xs.length/\i=.int .i64 (q:Int)/\(∃p m c,v=.slice p m c)/\BU wr w.heap.size v (N1+100*Aj Fe (p.xs.take q))/\Fp w w.heap.size [(w.heap.size,PC,27)] wr) (fun _ i _=>p.xs.length-(intOf i).toNat);exact⟨0,AY,rfl,⟨_,_,_,rfl⟩,hv3.up (by omega),hI⟩;obtain⟨q,hq,rfl,⟨pv,mv,cv,rfl⟩,hv,hI⟩:=hrel;have q1:=(P0.out _ _ hI).2.2.2.2.1;by_cases hend:q=p.xs.length
  ·subst hend;rw[List.take_length]at hv;replace hv:=hv.up (k:=5+500+100*(CY p.gs+Aj DV p.cs+Aj Fe p.xs)) (by omega);generalize hN0:5+500+100*(CY p.gs+Aj DV p.cs+Aj Fe p.xs)=N0 at*;go_wp2;go_loopw[3,6,7,8,9,10,11,12,13] (fun v i _ _ _ _ _ _ _ wr=>∃q:Nat,q<=p.fs.length/\i=.int .i64 (q:Int)/\(∃p m c,v=.slice p m c)/\BU wr w.heap.size v (N0+100*Aj cntF (p.fs.take q))/\Fp w w.heap.size [(w.heap.size,PC,27)] wr) (fun _ i _ _ _ _ _ _ _ _=>p.fs.length-(intOf i).toNat);exact⟨0,AY,rfl,⟨_,_,_,rfl⟩,hv.up (by omega),hI⟩;obtain⟨q,hq,rfl,⟨pv,mv,cv,rfl⟩,hv,hI⟩:=hrel;obtain⟨wo,rfl⟩:=again wr;have q1:=(P0.out _ _ hI).2.2.2.2.2;by_cases hend:q=p.fs.length
   ·subst hend;rw[List.take_length]at hv;have hfin:=hI.k.b;obtain⟨bs,hm,hox⟩:=hv;have hcv:=D7 underlying250 underlying5 underlying9 (show wo.ownsRow w.heap.size 5 1 (.slice pv mv cv) bs.length (bs.map Gg)from hox);go_wp2;go_ret;exact⟨⟨_,rfl,by show bs.toArray.size<=1000000;rw[List.size_toArray];omega⟩,hfin⟩
   ·have hlt:q<p.fs.length:=(by omega);have A8:(q:Int)<p.fs.length:=(by omega);obtain⟨a,rfl,hA⟩:=hfs.out q p.fs[q] (by simp[hlt]);obtain⟨x1,x2,x3,hVF,d0,d1,d2,d3,d4⟩:=hA.val;have hsum:=BD cntF hlt;have J7:cntF p.fs[q]=1+p.fs[q].n.size+p.fs[q].r.size+CY p.fs[q].ps+CY p.fs[q].vs+Aj G5 p.fs[q].bs:=rfl;have hle:=F7 cntF p.fs (q+1);have hrb:=hr.2 p.fs[q] (List.getElem_mem hlt);generalize p.fs[q]=y at*;obtain⟨-,-,hyp,hyv,hyb⟩:=hVF;have ADa:=hyp;have ADZ:=hyv;obtain⟨f1,g1,rfl,-⟩:=hyp;obtain⟨f2,g2,rfl,-⟩:=hyv;obtain⟨f3,g3,rfl,-,⟨AJD,-⟩,hyb⟩:=hyb;replace hyb:=Wx hyb;have e0:=AA (hw hI) d0;have e1:=AA (hw hI) d1;have e2:=AA (hw hI) d2;have e3:=AA (hw hI) d3;have e4:=AA (hw hI) d4;obtain⟨FC,hFC⟩:∃FC:List Value,FC=[.string y.n,.string y.r,.slice f1 y.ps.length g1,.slice f2 y.vs.length g2,.slice f3 y.bs.length g3]:=⟨_,rfl⟩;have hal:=AJ wo (.cells #[.string y.n,.string y.r,.slice f1 y.ps.length g1,.slice f2 y.vs.length g2,.slice f3 y.bs.length g3] 66);have hI2:=(hI.next hB hal).push (p:=wo.heap.size) (cs:=FC) (T:=66) (by rw[hFC];exact Ni.new wo _ _) (by decide);replace hv:=hv.nx hal;go_upto_region 17 with fail;generalize hW1:wo.alloc _=W1 at*;generalize wo.heap.size=fb at*;replace hI2:Fp w w.heap.size [(w.heap.size,PC,27),(fb,FC,66)] W1:=hI2;have F0:Hid (∀v bx,Fp w w.heap.size ((w.heap.size,PC,27)::(fb,FC,66)::bx) v->fb<v.heap.size/\v.cell? ⟨fb,0,none⟩=some (.string y.n)/\v.cell? ⟨fb,1,none⟩=some (.string y.r)/\v.cell? ⟨fb,2,none⟩=some (.slice f1 y.ps.length g1)/\v.cell? ⟨fb,3,none⟩=some (.slice f2 y.vs.length g2)/\v.cell? ⟨fb,4,none⟩=some (.slice f3 y.bs.length g3)):=Wx fun v bx h=>by
     have hb:=(h.at (i:=1) rfl).b;dsimp only at hb;rw[hFC]at hb;exact⟨hb.lt,hb.c 0 _ rfl,hb.c 1 _ rfl,hb.c 2 _ rfl,hb.c 3 _ rfl,hb.c 4 _ rfl⟩
    have hId:=hI2.next hB (Below.refl W1.heap.size W1).drew;generalize hN1:N0+100*Aj cntF (p.fs.take q)=N1 at*;go_wp2
    refine AV (S:=GD (fun v1=>BU v1 w.heap.size (.slice pv mv cv) N1) 6 (fun v1=>Fp w w.heap.size [(w.heap.size,PC,27),(fb,FC,66)] v1) (R2 5 6 (XW [⟨#[102,117,110,99]⟩,y.n,y.r]) (R2 6 9 (fun v v1=>(∃p m c,v=.slice p m c)/\BU v1 w.heap.size v (N1+y.n.size+y.r.size+8)) (R1 9 12 (fun v v1=>(∃p m c,v=.slice p m c)/\BU v1 w.heap.size v (N1+y.n.size+y.r.size+8+100*CY y.ps))))) 12
     (fun v v1=>(∃p m c,v=.slice p m c)/\BU v1 w.heap.size v (N1+y.n.size+y.r.size+8+100*CY y.ps+100*CY y.vs)/\Fp w w.heap.size [(w.heap.size,PC,27),(fb,FC,66)] v1)) rfl (by kernel_rfl) (GD.start hId (hv.nx (Below.refl W1.heap.size W1).drew)) ?_
    (iterate 5((apply AU.z rfl;intro V L w1 _ _ _ z hK;(try(have hc:=z.f 12 (by kernel_rfl);have hI:=z.s.k hc;(obtain⟨j0,j1,j2,j3,j4,j5⟩:=F0.out _ _ hI)));go_simp;exact hK (z.s.keep rfl rfl);intros;rfl)));refine AU.free (fun _=>rfl) (fun V L w1 K' Q' hS hi hR hd hK=>?_) ?_
    ·have h6:=hR.out 6 5 (by kernel_rfl) hi;have h9:=hR.out 9 6 (by kernel_rfl) h6;have hc:=hR.out 12 9 (by kernel_rfl) h9;have hb:=AJ w1 (.cells #[.string ⟨#[102,117,110,99]⟩,.string y.n,.string y.r] 9);go_simp;(try simp only[pE]);exact hK.out _ _ rfl (hS.made (CO (fun h=>absurd rfl h) (CO (fun _ _ h=>absurd h (by rw[h6];decide)) (Cv fun _ _ h=>absurd h (by rw[h9];decide)))) ((hS.k hc).next hB hb) hc rfl (XW.new w1 [⟨#[102,117,110,99]⟩,y.n,y.r] (show 3<=maxLen by decide)) rfl fun _ _ h=>h.nx hb)
    (try simp only[pE]);refine AU.free (fun _=>rfl) (fun V L w1 K' Q' hS hi hR hd hK=>?_) ?_
    ·have h9:=hR.out 9 6 (by kernel_rfl) hi;have hc:=hR.out 12 9 (by kernel_rfl) h9;obtain⟨pb,hp,hx⟩:=hS.val hc rfl (hd.out 5 (by kernel_rfl)) hi;have hI:=hS.k hc;rw[hp]at hx;simp only[hp];go_simp;(go_wp2_with(refine(Cx (hS.2 hi) hx hI.sz (by rw[Ht];omega)).mono ?_;rintro e w2 ⟨v',rfl,h1,h2⟩));obtain⟨p6,m6,c6,rfl⟩:=h1.sl;exact hK.out _ _ (by simp only[hp];rfl) (hS.made (CO (fun _ h=>absurd rfl h) (CO (fun h=>absurd rfl h) (Cv fun _ _ h=>absurd h (by rw[h9];decide)))) (hI.u8 h2) hc rfl ⟨⟨_,_,_,rfl⟩,h1.up (by rw[Ht];omega)⟩ rfl fun h=>absurd rfl h)
    (try simp only[pE]);(iterate 2((apply AU.z rfl;intro V L w1 _ _ _ z hK;(try(have hc:=z.f 12 (by kernel_rfl);have hI:=z.s.k hc;(obtain⟨j0,j1,j2,j3,j4,j5⟩:=F0.out _ _ hI)));go_simp;exact hK (z.s.keep rfl rfl);intros;rfl)));refine AU.free (fun _=>rfl) (fun V L w1 K' Q' hS hi hR hd hK=>?_) ?_
    ·have hc:=hR.out 12 9 (by kernel_rfl) hi;have h6:=hd.out 6 (by kernel_rfl);obtain⟨⟨p5,m5,c5,hp⟩,hx⟩:=hS.val hc rfl h6 hi;have hI:=hS.k hc;rw[hp]at hx;simp only[hp];go_simp;(go_wp2_with(refine(I9 (hw hI) (s:=⟨#[112,97,114,97,109]⟩) (show 5<=10 by decide) hx ADa hI.sz h0.size (by omega)).mono ?_;rintro e w2 ⟨v',rfl,h1,h2⟩));obtain⟨p6,m6,c6,rfl⟩:=h1.sl;exact hK.out _ _ (by simp only[hp];rfl) (hS.made (CO (fun _ _ _ h=>absurd h (by rw[h6];decide)) (CO (fun _ h=>absurd rfl h) (Cv fun h=>absurd rfl h))) (hI.u8 h2) hc rfl ⟨⟨_,_,_,rfl⟩,h1⟩ rfl fun _ h=>absurd h (by rw[h6];decide))
    (try simp only[pE]);(iterate 2((apply AU.z rfl;intro V L w1 _ _ _ z hK;(try(have hc:=z.f 12 (by kernel_rfl);have hI:=z.s.k hc;(obtain⟨j0,j1,j2,j3,j4,j5⟩:=F0.out _ _ hI)));go_simp;exact hK (z.s.keep rfl rfl);intros;rfl)));refine AU.free (fun _=>rfl) (fun V L w1 K' Q' hS hi hR hd hK=>?_) ?_
    ·have h9:=hd.out 9 (by kernel_rfl);have h6:L 6=true:=Classical.byContradiction fun h=>(by have:=hR.out 9 6 (by kernel_rfl) (by simpa using h);rw[h9]at this;cases this);obtain⟨⟨p5,m5,c5,hp⟩,hx⟩:=hS.val hi rfl h9 hi;have hI:=hS.k hi;rw[hp]at hx;simp only[hp];go_simp;(go_wp2_with(refine(I9 (hw hI) (s:=⟨#[118,97,114]⟩) (show 3<=10 by decide) hx ADZ hI.sz h0.size (by omega)).mono ?_;rintro e w2 ⟨v',rfl,h1,h2⟩));obtain⟨p6,m6,c6,rfl⟩:=h1.sl;exact hK.out _ _ (by simp only[hp];rfl) (GD.call ⟨⟨_,_,_,rfl⟩,h1,hI.u8 h2⟩ h6)
    (try simp only[pE]);((refine AU.step (a1:=?_) (fun _=>rfl) (fun V L w1 K' Q' hS hi hR hd hK=>?_) ?_ ?_ ?_;rotate_left);(· (go_simp;(try simp only[pE]);exact hK.out _ (hS.keep rfl rfl)));(· (intro V;rfl));(· (exact fun L V V' Kt hl hv=>hv (12) (Classical.byContradiction fun h=>by have:=Kt (13) (12) (by kernel_rfl) (by simpa using h);rw[hl]at this;cases this))));refine AU.nil fun V w3 hS=>?_;obtain⟨⟨p5,m5,c5,GX⟩,hv3,PW⟩:=hS.done rfl;rw[GX]at hv3;simp only[GX];obtain⟨N2,Qh⟩:∃N2,N2=N1+y.n.size+y.r.size+8+100*CY y.ps+100*CY y.vs:=⟨_,rfl⟩;rw[<-Qh]at hv3;have q4:=(F0.out _ _ PW).2.2.2.2.2;go_wp2;go_loopw[3,8,9,10,11,12,13] (fun v i _ _ _ _ _ wr=>∃k:Nat,k<=y.bs.length/\i=.int .i64 (k:Int)/\(∃p m c,v=.slice p m c)/\BU wr w.heap.size v (N2+100*Aj G5 (y.bs.take k))/\Fp w w.heap.size [(w.heap.size,PC,27),(fb,FC,66)] wr) (fun _ i _ _ _ _ _ _=>y.bs.length-(intOf i).toNat);exact⟨0,AY,rfl,⟨_,_,_,rfl⟩,hv3.up (by omega),PW⟩;obtain⟨k,hk,rfl,⟨pv,mv,cv,rfl⟩,hv,hI⟩:=hrel;obtain⟨wo,rfl⟩:=again wr;have q4:=(F0.out _ _ hI).2.2.2.2.2;by_cases IZ:k=y.bs.length
    ·subst IZ;rw[List.take_length]at hv;have hIP:Fp w w.heap.size [(w.heap.size,PC,27)] wo:=Fp.less (by':=[(fb,FC,66)]) hI;go_wp2;go_roundw;exact⟨q+1,by omega,by go_num,⟨_,_,_,rfl⟩,hv.up (by omega),hIP⟩;simp[intOf];omega
    ·have hkt:k<y.bs.length:=(by omega);have hkI:(k:Int)<y.bs.length:=(by omega);obtain⟨a2,rfl,hA⟩:=hyb.out k y.bs[k] (by simp[hkt]);obtain⟨b1,b2,b3,S9,d0,d1,d2,d3,d4,d5,d6,d7,d8⟩:=hA.val;have AGd:=BD G5 hkt;have hcB:G5 y.bs[k]=1+y.bs[k].n.size+y.bs[k].e.a.s.size+Aj F6 y.bs[k].e.to+Aj Fb y.bs[k].ps+Aj IJ y.bs[k].cs:=rfl;have hle2:=F7 G5 y.bs (k+1);obtain⟨rg1,rg2,rg3,rg4⟩:=hrb y.bs[k] (List.getElem_mem hkt);generalize y.bs[k]=z at*;obtain⟨-,⟨-,hzs⟩,wE,hzc,hzt⟩:=S9;have hVT:zD w0 (.agg #[.int .i64 z.e.k,.int .i64 z.e.a.k,.string z.e.a.s,.int .i64 z.e.a.n,b3,.int .i64 z.e.n]) z.e b3:=⟨rfl,hzs,⟨rg3,rg4⟩,hzt⟩;obtain⟨b8,b9,rfl,-⟩:=hzt;obtain⟨b4,b5,rfl,-,⟨AJB,-⟩,wE⟩:=wE;obtain⟨b6,b7,rfl,-,⟨AJC,-⟩,hzc⟩:=hzc;replace wE:=Wx wE;replace hzc:=Wx hzc;have e0:=AA (hw hI) d0;have e1:=AA (hw hI) d1;have e2:=AA (hw hI) d2;have e3:=AA (hw hI) d3;have e4:=AA (hw hI) d4;have e5:=AA (hw hI) d5;have e6:=AA (hw hI) d6;have e7:=AA (hw hI) d7;have e8:=AA (hw hI) d8;obtain⟨KC,hKC⟩:∃KC:List Value,KC=[.string z.n,.slice b4 z.ps.length b5,.slice b6 z.cs.length b7,.int .i64 z.e.k,.int .i64 z.e.a.k,.string z.e.a.s,.int .i64 z.e.a.n,.slice b8 z.e.to.length b9,.int .i64 z.e.n]:=⟨_,rfl⟩;have hal:=AJ wo (.cells #[.string z.n,.slice b4 z.ps.length b5,.slice b6 z.cs.length b7,.int .i64 z.e.k,.int .i64 z.e.a.k,.string z.e.a.s,.int .i64 z.e.a.n,.slice b8 z.e.to.length b9,.int .i64 z.e.n] 82);have hI2:=(hI.next hB hal).push (p:=wo.heap.size) (cs:=KC) (T:=82) (by rw[hKC];exact Ni.new wo _ _) (by decide);replace hv:=hv.nx hal;go_upto_region 22 with fail;generalize hW1:wo.alloc _=W1 at*;generalize wo.heap.size=bb at*;replace hI2:Fp w w.heap.size [(w.heap.size,PC,27),(fb,FC,66),(bb,KC,82)] W1:=hI2;have K0:Hid (∀v,Fp w w.heap.size [(w.heap.size,PC,27),(fb,FC,66),(bb,KC,82)] v->bb<v.heap.size/\v.cell? ⟨bb,0,none⟩=some (.string z.n)/\v.cell? ⟨bb,1,none⟩=some (.slice b4 z.ps.length b5)/\v.cell? ⟨bb,2,none⟩=some (.slice b6 z.cs.length b7)/\v.cell? ⟨bb,3,none⟩=some (.int .i64 z.e.k)/\v.cell? ⟨bb,4,none⟩=some (.int .i64 z.e.a.k)/\v.cell? ⟨bb,5,none⟩=some (.string z.e.a.s)/\v.cell? ⟨bb,6,none⟩=some (.int .i64 z.e.a.n)/\v.cell? ⟨bb,7,none⟩=some (.slice b8 z.e.to.length b9)/\v.cell? ⟨bb,8,none⟩=some (.int .i64 z.e.n)):=Wx fun v h=>by
      have hb:=(h.at (i:=2) rfl).b;dsimp only at hb;rw[hKC]at hb;exact⟨hb.lt,hb.c 0 _ rfl,hb.c 1 _ rfl,hb.c 2 _ rfl,hb.c 3 _ rfl,hb.c 4 _ rfl,hb.c 5 _ rfl,hb.c 6 _ rfl,hb.c 7 _ rfl,hb.c 8 _ rfl⟩
     have g0:=(K0.out _ hI2).2.1;have hb:=AJ W1 (.cells #[.string ⟨#[98,108,111,99,107]⟩,.string z.n] 9);have hS:Ws (W1.alloc (.cells #[.string ⟨#[98,108,111,99,107]⟩,.string z.n] 9)) (.slice (some ⟨W1.heap.size,0,none⟩) 2 2) [⟨#[98,108,111,99,107]⟩,z.n]:=Ws.new W1 [⟨#[98,108,111,99,107]⟩,z.n] (show 2<=maxLen by decide);go_wp2_with fail;refine(Cx (hv.nx hb) hS (hI2.next hB hb).sz (by rw[DZ];omega)).mono ?_;rintro e w3 ⟨v3,rfl,hv3,hk3⟩;obtain⟨pv,mv,cv,rfl⟩:=hv3.sl;rw[DZ]at hv3;have PW:=(hI2.next hB hb).u8 hk3;obtain⟨N3,gK⟩:∃N3,N3=N2+100*Aj G5 (y.bs.take k)+(5+z.n.size+2)+1:=⟨_,rfl⟩;replace hv3:=hv3.up (k:=N3) (by omega);have g1:=(K0.out _ PW).2.2.1;go_wp2;go_loopw[3,10,11,12] (fun v i _ _ wr=>∃j:Nat,j<=z.ps.length/\i=.int .i64 (j:Int)/\(∃p m c,v=.slice p m c)/\BU wr w.heap.size v (N3+100*Aj Fb (z.ps.take j))/\Fp w w.heap.size [(w.heap.size,PC,27),(fb,FC,66),(bb,KC,82)] wr) (fun _ i _ _ _=>z.ps.length-(intOf i).toNat);exact⟨0,AY,rfl,⟨_,_,_,rfl⟩,hv3.up (by omega),PW⟩;obtain⟨j,hj,rfl,⟨pv,mv,cv,rfl⟩,hv,hI⟩:=hrel;obtain⟨wo,rfl⟩:=again wr;have g1:=(K0.out _ hI).2.2.1;by_cases AAe:j=z.ps.length
     ·subst AAe;rw[List.take_length]at hv;have g2:=(K0.out _ hI).2.2.2.1;go_wp2;go_loopw[3,13] (fun v i wr=>∃j:Nat,j<=z.cs.length/\i=.int .i64 (j:Int)/\(∃p m c,v=.slice p m c)/\BU wr w.heap.size v (N3+100*Aj Fb z.ps+100*Aj IJ (z.cs.take j))/\Fp w w.heap.size [(w.heap.size,PC,27),(fb,FC,66),(bb,KC,82)] wr) (fun _ i _=>z.cs.length-(intOf i).toNat);exact⟨0,AY,rfl,⟨_,_,_,rfl⟩,hv.up (by omega),hI⟩;obtain⟨j,hj,rfl,⟨pv,mv,cv,rfl⟩,hv,hI⟩:=hrel;obtain⟨wo,rfl⟩:=again wr;have g2:=(K0.out _ hI).2.2.2.1;by_cases Z4:j=z.cs.length
      ·subst Z4;rw[List.take_length]at hv;obtain⟨-,-,-,-,g3,g4,g5,g6,g7,g8⟩:=K0.out _ hI;have hE:=YG (hw hI) hv hVT hI.sz h0.size (by omega);go_wp2_with fail;refine hE.mono ?_;rintro e w5 ⟨v5,rfl,hv5,hk5⟩;obtain⟨p5,m5,c5,rfl⟩:=hv5.sl;have hIP:Fp w w.heap.size [(w.heap.size,PC,27),(fb,FC,66)] w5:=Fp.less (by':=[(bb,KC,82)]) (hI.u8 hk5);go_wp2;go_roundw;exact⟨k+1,by omega,by go_num,⟨_,_,_,rfl⟩,hv5.up (by omega),hIP⟩;simp[intOf];omega
      ·have hjt:j<z.cs.length:=(by omega);have hjI:(j:Int)<z.cs.length:=(by omega);obtain⟨a3,rfl,hA⟩:=hzc.out j z.cs[j] (by simp[hjt]);obtain⟨i1,i2,i3,hVI,d0,d1,d2,d3,d4,d5⟩:=hA.val;have AAY:=BD IJ hjt;have hle3:=F7 IJ z.cs (j+1);have wI:=rg2 z.cs[j] (List.getElem_mem hjt);generalize z.cs[j]=x at*;have hE:=YH (hw hI) hW hv hVI wI hI.sz h0.size (by omega);have e0:=AA (hw hI) d0;have e1:=AA (hw hI) d1;have e2:=AA (hw hI) d2;have e3:=AA (hw hI) d3;have e4:=AA (hw hI) d4;have e5:=AA (hw hI) d5;go_wp2_with fail;refine hE.mono ?_;rintro e w5 ⟨v5,rfl,hv5,hk5⟩;obtain⟨p5,m5,c5,rfl⟩:=hv5.sl;have TA:=hI.u8 hk5;go_wp2;go_roundw;exact⟨j+1,by omega,by go_num,⟨_,_,_,rfl⟩,hv5.up (by omega),TA⟩;simp[intOf];omega
     ·have hjt:j<z.ps.length:=(by omega);have hjI:(j:Int)<z.ps.length:=(by omega);obtain⟨a3,rfl,⟨d0,y0⟩,uf,d1,hvf⟩:=wE.out j z.ps[j] (by simp[hjt]);obtain⟨h1,h2,rfl,-,⟨hinl,-⟩,hin⟩:=hvf;replace hin:=Wx hin;have AAY:=BD Fb hjt;have hcH:Fb z.ps[j]=1+z.ps[j].d.size+Aj JK z.ps[j].is:=rfl;have hle3:=F7 Fb z.ps (j+1);have hrj:=rg1 z.ps[j] (List.getElem_mem hjt);generalize z.ps[j]=x at*;have e0:=AA (hw hI) d0;have hal:=AJ wo (.cells #[.string ⟨#[112,104,105]⟩,.string x.d] 9);have hS:Ce (wo.alloc (.cells #[.string ⟨#[112,104,105]⟩,.string x.d] 9)) w.heap.size (.slice (some ⟨wo.heap.size,0,none⟩) 2 2) (5+x.d.size):=(Ce.new wo hI.sz [⟨#[112,104,105]⟩,x.d] (show 2<=maxLen by decide)).up (by rw[DZ];omega);replace hv:=hv.nx hal;have hI2:=hI.next hB hal;go_upto_region 27 with fail;generalize hW1:wo.alloc _=W1 at*;generalize(some (⟨wo.heap.size,0,none⟩:Addr))=pn at*;generalize hN4:N3+100*Aj Fb (z.ps.take j)=N4 at*;go_wp2;go_loopw[11,12] (fun v i wr=>∃m:Nat,m<=x.is.length/\i=.int .i64 (m:Int)/\Ce wr w.heap.size v (5+x.d.size+100*Aj JK (x.is.take m))/\BU wr w.heap.size (.slice pv mv cv) N4/\Fp w w.heap.size [(w.heap.size,PC,27),(fb,FC,66),(bb,KC,82)] wr) (fun _ i _=>x.is.length-(intOf i).toNat);exact⟨0,AY,rfl,hS.up (by omega),hv,hI2⟩;obtain⟨m,hm,rfl,hS,hv,hI⟩:=hrel;obtain⟨ps,ms,cs,rfl⟩:=hS.sl;have e1:=AA (hw hI) d1;have g1:=(K0.out _ hI).2.2.1;by_cases Z4:m=x.is.length
      ·subst Z4;rw[List.take_length]at hS;obtain⟨lw,Sy,hll⟩:=hS.ws;go_wp2_with fail;refine(Cx hv Sy hI.sz (by omega)).mono ?_;rintro e w5 ⟨v5,rfl,hv5,hk5⟩;obtain⟨p5,m5,c5,rfl⟩:=hv5.sl;have TA:=hI.u8 hk5;go_wp2;go_roundw;exact⟨j+1,by omega,by go_num,⟨_,_,_,rfl⟩,hv5.up (by omega),TA⟩;simp[intOf];omega
      ·have hmt:m<x.is.length:=(by omega);have hmI:(m:Int)<x.is.length:=(by omega);obtain⟨a4,rfl,⟨f0,x0⟩,f1,⟨f2,x2⟩,f3⟩:=hin.out m x.is[m] (by simp[hmt]);have hs4:=BD JK hmt;have hcN:JK x.is[m]=1+x.is[m].b.size+x.is[m].a.s.size:=rfl;have AJd:=F7 JK x.is (m+1);have hA:=fun w=>MZ x2 (hrj x.is[m] (List.getElem_mem hmt)) w;generalize x.is[m]=u at*;have hId:=hI.next hB (Below.refl wr.heap.size wr).drew;go_wp2
       refine AV (S:=GC (fun v1=>Fp w w.heap.size [(w.heap.size,PC,27),(fb,FC,66),(bb,KC,82)] v1/\BU v1 w.heap.size (.slice pv mv cv) N4/\Ce v1 w.heap.size (.slice ps ms cs) (5+x.d.size+100*Aj JK (x.is.take m))) (R2 21 22 (fun v _=>∃t:ByteArray,v=.string t/\t.size<=u.a.s.size+32) (R1 22 23 (fun v v1=>∃(t:ByteArray) (pb:Nat),t.size<=u.a.s.size+32/\v=.slice (some ⟨pb,0,none⟩) 2 2/\Ae v1 pb [.string u.b,.string t]))) 23
        (fun v v1=>∃p m' c,v=.slice p m' c/\Ce v1 w.heap.size v (5+x.d.size+100*Aj JK (x.is.take (m+1)))/\BU v1 w.heap.size (.slice pv mv cv) N4/\Fp w w.heap.size [(w.heap.size,PC,27),(fb,FC,66),(bb,KC,82)] v1)) rfl (by kernel_rfl) (GC.start ⟨hId,hv.nx (Below.refl wr.heap.size wr).drew,hS.nx (Below.refl wr.heap.size wr).drew⟩) ?_
       (iterate 21((apply AU.z rfl;intro V L w1 _ _ _ z hK;(try(have hc:=z.f 23 (by kernel_rfl);have hI:=z.s.k hc;(have g1:=(K0.out _ hI.1).2.2.1;have e1:=AA (hw hI.1) d1;have e2:=AA (hw hI.1) f0;have e3:=AA (hw hI.1) f1;have e4:=AA (hw hI.1) f2;have e5:=AA (hw hI.1) f3)));go_simp;exact hK (z.s.keep rfl rfl);intros;rfl)));refine AU.free (fun _=>rfl) (fun V L w1 K' Q' hS hi hR hd hK=>?_) ?_
       ·have h22:=hR.out 22 21 (by kernel_rfl) hi;have hc:=hR.out 23 22 (by kernel_rfl) h22;have hI:=hS.k hc;go_simp;(go_wp2_with(refine(hA _).mono ?_;rintro e w2 ⟨⟨t,rfl,ht⟩,hb⟩));exact hK.out _ _ rfl (hS.made (CO (fun h=>absurd rfl h) (Cv fun _ _ h=>absurd h (by rw[h22];decide))) ⟨hI.1.next hB hb,hI.2.1.nx hb,hI.2.2.nx hb⟩ hc rfl ⟨t,rfl,ht⟩ rfl)
       (try simp only[pE]);refine AU.free (fun _=>rfl) (fun V L w1 K' Q' hS hi hR hd hK=>?_) ?_
       ·have hc:=hR.out 23 22 (by kernel_rfl) hi;obtain⟨t,hp,ht⟩:=hS.val hc rfl (hd.out 21 (by kernel_rfl)) hi;have hI:=hS.k hc;have hb:=AJ w1 (.cells #[.string u.b,.string t] 9);simp only[hp];go_simp;exact hK.out _ _ (by simp only[hp];rfl) (hS.made (CO (fun _ h=>absurd rfl h) (Cv fun h=>absurd rfl h)) ⟨hI.1.next hB hb,hI.2.1.nx hb,hI.2.2.nx hb⟩ hc rfl ⟨t,_,ht,rfl,Ae.alloc _ _ _⟩ rfl)
       (try simp only[pE]);refine AU.free (fun _=>rfl) (fun V L w1 K' Q' hS hi hR hd hK=>?_) ?_
       ·obtain⟨t,pb,ht,hp,hx⟩:=hS.val hi rfl (hd.out 22 (by kernel_rfl)) hi;have hI:=hS.k hi;refine Mc _ _ rfl rfl hI.2.2 [u.b,t] pb hp hx (by rw[DZ];omega) hI.1.sz (fun v' w' h1 h2=>?_);obtain⟨p5,m5,c5,rfl⟩:=h1.sl;exact hK.out _ _ rfl (GC.call ⟨_,_,_,rfl,h1.up (by rw[DZ];omega),hI.2.1.str h2,hI.1.str hB h2⟩)
       (try simp only[pE]);((refine AU.step (a1:=?_) (fun _=>rfl) (fun V L w1 K' Q' hS hi hR hd hK=>?_) ?_ ?_ ?_;rotate_left);(· (go_simp;(try simp only[pE]);exact hK.out _ (hS.keep rfl rfl)));(· (intro V;rfl));(· (exact fun L V V' Kt hl hv=>hv (23) (Classical.byContradiction fun h=>by have:=Kt (24) (23) (by kernel_rfl) (by simpa using h);rw[hl]at this;cases this))));refine AU.nil fun V w3 hS=>?_;obtain⟨p5,m5,c5,GX,ZM,LW,Pf⟩:=hS.done rfl;rw[GX]at ZM;simp only[GX];go_wp2;go_roundw;exact⟨m+1,by omega,by go_num,ZM,LW,Pf⟩;simp[intOf];omega
  ·have hlt:q<p.xs.length:=(by omega);have A8:(q:Int)<p.xs.length:=(by omega);obtain⟨a,rfl,⟨d0,y0⟩,d1⟩:=hx.out q p.xs[q] (by simp[hlt]);have hsum:=BD Fe hlt;have J7:Fe p.xs[q]=1+p.xs[q].n.size:=rfl;have hle:=F7 Fe p.xs (q+1);have hP:=fun w=>KL (hr.1 p.xs[q] (List.getElem_mem hlt)) w;generalize p.xs[q]=y at*;have hId:=hI.next hB (Below.refl wr.heap.size wr).drew;generalize hN0:N1+100*Aj Fe (p.xs.take q)=N0 at*;go_wp2
   refine AV (S:=GC (fun v1=>Fp w w.heap.size [(w.heap.size,PC,27)] v1/\BU v1 w.heap.size (.slice pv mv cv) N0) (R2 13 14 (fun v _=>∃t:ByteArray,v=.string t/\t.size<=20) (R1 14 15 (fun v v1=>∃t:ByteArray,t.size<=20/\XW [⟨#[101,120,116,101,114,110]⟩,y.n,t] v v1))) 15
    (fun v v1=>(∃p m c,v=.slice p m c)/\BU v1 w.heap.size v (N1+100*Aj Fe (p.xs.take (q+1)))/\Fp w w.heap.size [(w.heap.size,PC,27)] v1)) rfl (by kernel_rfl) (GC.start ⟨hId,hv.nx (Below.refl wr.heap.size wr).drew⟩) ?_
   (iterate 13((apply AU.z rfl;intro V L w1 _ _ _ z hK;(try(have hc:=z.f 15 (by kernel_rfl);have hI:=z.s.k hc;(have q1:=(P0.out _ _ hI.1).2.2.2.2.1;have e0:=AA (hw hI.1) d0;have e1:=AA (hw hI.1) d1)));go_simp;exact hK (z.s.keep rfl rfl);intros;rfl)));refine AU.free (fun _=>rfl) (fun V L w1 K' Q' hS hi hR hd hK=>?_) ?_
   ·have VO:=hR.out 14 13 (by kernel_rfl) hi;have hc:=hR.out 15 14 (by kernel_rfl) VO;have hI:=hS.k hc;go_simp;(go_wp2_with(refine(hP _).mono ?_;rintro e w2 ⟨⟨t,rfl,ht⟩,hb⟩));exact hK.out _ _ rfl (hS.made (CO (fun h=>absurd rfl h) (Cv fun _ _ h=>absurd h (by rw[VO];decide))) ⟨hI.1.next hB hb,hI.2.nx hb⟩ hc rfl ⟨t,rfl,ht⟩ rfl)
   (try simp only[pE]);refine AU.free (fun _=>rfl) (fun V L w1 K' Q' hS hi hR hd hK=>?_) ?_
   ·have hc:=hR.out 15 14 (by kernel_rfl) hi;obtain⟨t,hp,ht⟩:=hS.val hc rfl (hd.out 13 (by kernel_rfl)) hi;have hI:=hS.k hc;have hb:=AJ w1 (.cells #[.string ⟨#[101,120,116,101,114,110]⟩,.string y.n,.string t] 9);simp only[hp];go_simp;exact hK.out _ _ (by simp only[hp];rfl) (hS.made (CO (fun _ h=>absurd rfl h) (Cv fun h=>absurd rfl h)) ⟨hI.1.next hB hb,hI.2.nx hb⟩ hc rfl ⟨t,ht,XW.new w1 [⟨#[101,120,116,101,114,110]⟩,y.n,t] (show 3<=maxLen by decide)⟩ rfl)
   (try simp only[pE]);refine AU.free (fun _=>rfl) (fun V L w1 K' Q' hS hi hR hd hK=>?_) ?_
   ·obtain⟨t,ht,pb,hp,hx⟩:=hS.val hi rfl (hd.out 14 (by kernel_rfl)) hi;have hI:=hS.k hi;rw[hp]at hx;simp only[hp];go_simp;(go_wp2_with(refine(Cx hI.2 hx hI.1.sz (by rw[Ht];omega)).mono ?_;rintro e w2 ⟨v',rfl,h1,h2⟩));obtain⟨p6,m6,c6,rfl⟩:=h1.sl;exact hK.out _ _ (by simp only[hp];rfl) (GC.call ⟨⟨_,_,_,rfl⟩,h1.up (by rw[Ht];omega),hI.1.u8 h2⟩)
   (try simp only[pE]);((refine AU.step (a1:=?_) (fun _=>rfl) (fun V L w1 K' Q' hS hi hR hd hK=>?_) ?_ ?_ ?_;rotate_left);(· (go_simp;(try simp only[pE]);exact hK.out _ (hS.keep rfl rfl)));(· (intro V;rfl));(· (exact fun L V V' Kt hl hv=>hv (15) (Classical.byContradiction fun h=>by have:=Kt (16) (15) (by kernel_rfl) (by simpa using h);rw[hl]at this;cases this))));refine AU.nil fun V w3 hS=>?_;obtain⟨⟨p5,m5,c5,GX⟩,LW,Pf⟩:=hS.done rfl;rw[GX]at LW;simp only[GX];go_wp2;go_roundw;exact⟨q+1,by omega,by go_num,⟨_,_,_,rfl⟩,LW,Pf⟩;simp[intOf];omega
 ·have hlt:q<p.cs.length:=by omega
  have A8:(q:Int)<p.cs.length:=by omega
  obtain⟨a,rfl,⟨d0,y0⟩,uf,d1,hvf⟩:=hc q p.cs[q] (by simp[hlt]);have qL:=hvf;obtain⟨pq,kq,rfl,-⟩:=hvf;have hsum:=BD DV hlt;have J7:DV p.cs[q]=p.cs[q].n.size+CY p.cs[q].fs:=rfl;have hle:=F7 DV p.cs (q+1);generalize p.cs[q]=y at*;have hId:=hI.next hB (Below.refl wr.heap.size wr).drew;generalize hN0:5+10*q+100*Aj DV (p.cs.take q)=N0 at*;go_wp2
  refine AV (S:=GD (fun v1=>BU v1 w.heap.size (.slice pv mv cv) N0) 8 (fun v1=>Fp w w.heap.size [(w.heap.size,PC,27)] v1) (R2 7 8 (XW [⟨#[99,108,97,115,115]⟩,y.n]) (R1 8 15 (fun v v1=>(∃p m c,v=.slice p m c)/\BU v1 w.heap.size v (N0+y.n.size+8)))) 15
   (fun v v1=>(∃p m c,v=.slice p m c)/\BU v1 w.heap.size v (5+10*(q+1)+100*Aj DV (p.cs.take (q+1)))/\Fp w w.heap.size [(w.heap.size,PC,27)] v1)) rfl (by kernel_rfl) (GD.start hId (hv.nx (Below.refl wr.heap.size wr).drew)) ?_
  iterate 7((apply AU.z rfl;intro V L w1 _ _ _ z hK;(try(have hc:=z.f 15 (by kernel_rfl);have hI:=z.s.k hc;(have q1:=(P0.out _ _ hI).2.2.1;have e0:=AA (hw hI) d0;have e1:=AA (hw hI) d1)));go_simp;exact hK (z.s.keep rfl rfl);intros;rfl))
  refine AU.free (fun _=>rfl) (fun V L w1 K' Q' hS hi hR hd hK=>?_) ?_
  ·have h8:=hR.out 8 7 (by kernel_rfl) hi;have hc:=hR.out 15 8 (by kernel_rfl) h8;have hb:=AJ w1 (.cells #[.string ⟨#[99,108,97,115,115]⟩,.string y.n] 9);go_simp;(try simp only[pE]);exact hK.out _ _ rfl (hS.made (CO (fun h=>absurd rfl h) (Cv fun _ _ h=>absurd h (by rw[h8];decide))) ((hS.k hc).next hB hb) hc rfl (XW.new w1 [⟨#[99,108,97,115,115]⟩,y.n] (show 2<=maxLen by decide)) rfl fun _ _ h=>h.nx hb)
  (try simp only[pE]);refine AU.free (fun _=>rfl) (fun V L w1 K' Q' hS hi hR hd hK=>?_) ?_
  ·have hc:=hR.out 15 8 (by kernel_rfl) hi;obtain⟨pb,hp,hx⟩:=hS.val hc rfl (hd.out 7 (by kernel_rfl)) hi;have hI:=hS.k hc;rw[hp]at hx;simp only[hp];go_simp;(go_wp2_with(refine(Cx (hS.2 hi) hx hI.sz (by rw[DZ];omega)).mono ?_;rintro e w2 ⟨v',rfl,h1,h2⟩));obtain⟨p6,m6,c6,rfl⟩:=h1.sl;exact hK.out _ _ (by simp only[hp];rfl) (hS.made (CO (fun _ h=>absurd rfl h) (Cv fun h=>absurd rfl h)) (hI.u8 h2) hc rfl ⟨⟨_,_,_,rfl⟩,h1.up (by rw[DZ];omega)⟩ rfl fun h=>absurd rfl h)
  (try simp only[pE]);iterate 6((apply AU.z rfl;intro V L w1 _ _ _ z hK;(try(have hc:=z.f 15 (by kernel_rfl);have hI:=z.s.k hc;(have q1:=(P0.out _ _ hI).2.2.1;have e0:=AA (hw hI) d0;have e1:=AA (hw hI) d1)));go_simp;exact hK (z.s.keep rfl rfl);intros;rfl))
  refine AU.free (fun _=>rfl) (fun V L w1 K' Q' hS hi hR hd hK=>?_) ?_
  ·have h8:=hd.out 8 (by kernel_rfl);obtain⟨⟨p5,m5,c5,hp⟩,hx⟩:=hS.val hi rfl h8 hi;have hI:=hS.k hi;rw[hp]at hx;simp only[hp];go_simp;(go_wp2_with(refine(I9 (hw hI) (s:=⟨#[102,105,101,108,100]⟩) (show 5<=10 by decide) hx qL hI.sz h0.size (by omega)).mono ?_;rintro e w2 ⟨v',rfl,h1,h2⟩));obtain⟨p6,m6,c6,rfl⟩:=h1.sl;exact hK.out _ _ (by simp only[hp];rfl) (GD.call ⟨⟨_,_,_,rfl⟩,h1.up (by omega),hI.u8 h2⟩ h8)
  (try simp only[pE]);((refine AU.step (a1:=?_) (fun _=>rfl) (fun V L w1 K' Q' hS hi hR hd hK=>?_) ?_ ?_ ?_;rotate_left);(· (go_simp;(try simp only[pE]);exact hK.out _ (hS.keep rfl rfl)));(· (intro V;rfl));(· (exact fun L V V' Kt hl hv=>hv (15) (Classical.byContradiction fun h=>by have:=Kt (16) (15) (by kernel_rfl) (by simpa using h);rw[hl]at this;cases this))));refine AU.nil fun V w3 hS=>?_;obtain⟨⟨p5,m5,c5,GX⟩,LW,Pf⟩:=hS.done rfl;rw[GX]at LW;simp only[GX];go_wp2;go_roundw;exact⟨q+1,by omega,by go_num,⟨_,_,_,rfl⟩,LW,Pf⟩;simp[intOf];omega
end
section
structure Qy(TS e:TypeId)(sz b:Nat):Prop where
 u:prog.underlying TS=some (.slice e)
 i:∃z i,prog.info? e=some i/\i.zero=some z/\i.size=sz/\i.bytes=b/\z.cells.size=sz
 p:0<sz
theorem Qy.mk'{TS e:TypeId}{sz b:Nat}{z:Value}(u:prog.underlying TS=some (.slice e))(h:(prog.info? e).map (fun i=>(i.zero,i.size,i.bytes))=some (some z,sz,b))(hz:z.cells.size=sz)(p:0<sz):Qy TS e sz b:=by
 obtain⟨i,h1,h2,h3,h4⟩:=Cq h;exact⟨u,⟨z,i,h1,h2,h3,h4,hz⟩,p⟩
section
variable {w : World} {B sz by' pb : Nat} {TS e : TypeId} {l : List Dt} {v : Value} {d : Dt} {fp fd : List Nat} {cs : List Value}
theorem VZ{o:Oper}{a:Act}{K:Act->World->Prop}{Q:Exit->Act->World->Prop}(hT:Qy TS e sz by')(s x:Operand)(ho:o.op=.call {callee:=.builtin .append,args:=#[s,x],argTypes:=#[TS,TS]}) (hs:a.eval s=v) (h:AZ w B e sz l v fp) (hn:fp.Nodup)(hx:a.eval x=.slice (some ⟨pb,0,none⟩) 1 1) (hb:Ae w pb cs) (h1:∀u∈cs,u.oneCell'=true) (hd:Af w B d pb 0 fd) (hnd:fd.Nodup) (hdj:∀b,b∈fd->b∉fp) (hdw:d.wd=sz) (hcs:cs.length=sz)(hl:l.length+1<=100000000) (hby:by'<=1000) (hB:B<=w.heap.size)(hK:∀v' w' fp',(∃p c,v'=.slice p (l.length+1) c)->AZ w' B e sz (l++[d]) v' fp'->fp'.Nodup->(∀b,b∈fp'->b∈fp\/b∈fd\/w.heap.size<=b)->w.grownBy w' v.ownBlock->Below B w w'->K (a.put o.dst v') w'):o.wp prog a w K Q:=by
 obtain⟨z,i,hi,hz,hsz,hbt,hzs⟩:=hT.i;obtain⟨xs,hox⟩:=h.owns
 refine wp_append_own' s x TS ho B e i z sz by' hT.u hi hz hsz hbt hzs hT.p v _ xs hs hox ⟨pb,0,none⟩ 1 1 cs hx (by simpa using hcs) (fun j u hu=>by rw[Dk,Nat.zero_add];exact hb.c j u hu) h1 (by unfold maxLen;omega) (by
  have:(l.length+1)*by'<=100000000*1000:=Nat.mul_le_mul hl hby
  omega) hB fun v' w' k1 k2 k3=>?_
 obtain⟨fp',m1,m2,m3⟩:=AZ.app1 h hn hox hb hd hnd hdj hdw hcs k1 k2 k3;obtain⟨p,c,rfl⟩:=Bf k1;exact hK _ _ fp' ⟨p,c,rfl⟩ m1 m2 m3 k2 ((Below.refl B w).grown k2 hB fun k hk=>(hox.lt k hk).1)
theorem HY{ops:Array Oper}{rest:List Oper}{o:Oper}{a:Act}{Q:Exit->Act->World->Prop}(hgd:o.guard=none)(hT:Qy TS e sz by')(s x:Operand)(ho:o.op=.call {callee:=.builtin .append,args:=#[s,x],argTypes:=#[TS,TS]}) (hs:a.eval s=v) (h:AZ w B e sz l v fp) (hn:fp.Nodup)(hx:a.eval x=.slice (some ⟨pb,0,none⟩) 1 1) (hb:Ae w pb cs) (h1:∀u∈cs,u.oneCell'=true) (hd:Af w B d pb 0 fd) (hnd:fd.Nodup) (hdj:∀b,b∈fd->b∉fp) (hdw:d.wd=sz) (hcs:cs.length=sz)(hl:l.length+1<=100000000) (hby:by'<=1000) (hB:B<=w.heap.size)(hK:∀v' w' fp',(∃p c,v'=.slice p (l.length+1) c)->AZ w' B e sz (l++[d]) v' fp'->fp'.Nodup->(∀b,b∈fp'->b∈fp\/b∈fd\/w.heap.size<=b)->w.grownBy w' v.ownBlock->Below B w w'->wpList prog ops Q rest (a.put o.dst v') w'):wpList prog ops Q (o::rest) a w:=
 wpList_plain hgd fun _ hk=>VZ hT s x ho hs h hn hx hb h1 hd hnd hdj hdw hcs hl hby hB fun v' w' fp' k0 k1 k2 k3 k4 k5=>hk _ _ (hK v' w' fp' k0 k1 k2 k3 k4 k5)
end
theorem P5:Qy 78 9 1 16:=.mk' (z:=.string .empty) underlying78 (by kernel_rfl) rfl (by decide)
theorem AAD:Qy 242 249 2 32:=.mk' (z:=.agg #[.int .i64 0,.slice none 0 0]) underlying242 (by kernel_rfl) rfl (by decide)
structure Lw where (n:Int) (ws:List ByteArray)
def xE(x:Lw):Dt:=.agg [dN x.n,.row 9 1 (x.ws.map dS)]
def rT(w:World)(a:Addr)(x:Lw):Prop:=w.cell? a=some (.int .i64 x.n)/\∃u,At w a 1 u/\Row DL 1 w u x.ws
theorem vLw{g o:Nat}{F:List Nat}{x:Lw}(hx:x.ws.length<=10000000/\∀s∈x.ws,s.size<=10000000)(h:Af w B (xE x) g o F):rT w ⟨g,o,none⟩ x:=by
 obtain⟨_,_,h1,h2⟩:=h.l.hd;obtain⟨_,_,h3,_⟩:=h2.hd;exact⟨h1.c,h3.view (fun _=>rfl) (fun _ _ _ _ a b=>vS a b) (by unfold Ln;omega) fun s hs=>by have:=hx.2 s hs;unfold Sz;omega⟩
theorem Af.str{s:ByteArray}(hb:Ae w pb [.string s]):Af w B (dS s) pb 0 []:=by
 unfold dS Af;exact⟨hb.c 0 _ rfl,rfl,rfl⟩
structure LU(w w1:World)(m:Nat)(L:List Lw)(ls:List ByteArray)(bs:List UInt8)(out lv wv:Value)(F fl:List Nat):Prop where
 o:AZ w1 w.heap.size 249 2 (L.map xE) out F
 on:F.Nodup
 l:AZ w1 w.heap.size 9 1 (ls.map dS) lv fl
 ln:fl.Nodup
 d:∀b,b∈fl->b∉F
 y:w1.ownsRow w.heap.size 5 1 wv bs.length (bs.map TF)
 wd:∀k,wv.ownBlock=some k->k∉F/\k∉fl
 b:AA6 w w1
 n:L.length<=m/\ls.length<=m/\bs.length<=m
 s:∀s∈ls,s.size<=10000000
 a:∀x∈L,x.ws≠ []/\x.ws.length<=10000000/\∀s∈x.ws,s.size<=10000000
section
variable {w w1 w2 : World} {m : Nat} {L : List Lw} {ls : List ByteArray} {bs : List UInt8} {out lv wv v' : Value} {F fl vY : List Nat}
theorem kI{s k:Nat}{e:TypeId}{xs:List Value}(h:w.ownsRow B e s v n xs)(hk:v.ownBlock=some k):k<w.heap.size:=(h.lt k hk).2
theorem LU.shape(h:LU w w1 m L ls bs out lv wv F fl):(∃p c,out=.slice p L.length c)/\(∃p c,lv=.slice p ls.length c)/\∃p c,wv=.slice p bs.length c:=⟨by simpa using h.o.slice,by simpa using h.l.slice,Bf h.y⟩
theorem LU.nx(h:LU w w1 m L ls bs out lv wv F fl)(hb:AA6 w1 w2):LU w w2 m L ls bs out lv wv F fl:=
 ⟨h.o.same fun b hb'=>hb.block b (h.o.fp b hb').2,h.on,h.l.same fun b hb'=>hb.block b (h.l.fp b hb').2,h.ln,h.d,Dh h.y hb (AQ),h.wd,AB h.b hb,h.n,h.s,h.a⟩
theorem LU.up(h:LU w w1 m L ls bs out lv wv F fl){k:Nat}(hk:m<=k):LU w w1 k L ls bs out lv wv F fl:=⟨h.o,h.on,h.l,h.ln,h.d,h.y,h.wd,h.b,by have:=h.n;omega,h.s,h.a⟩
theorem LU.now(h:LU w w1 m L ls bs out lv wv F fl):LU w w1 m L ls [] out lv (.slice none 0 0) F fl:=⟨h.o,h.on,h.l,h.ln,h.d,World.ownsRow_nil _ _ _ _,(fun k e=>by cases e),h.b,⟨h.n.1,h.n.2.1,AY⟩,h.s,h.a⟩
theorem LU.nol(h:LU w w1 m L ls bs out lv wv F fl):LU w w1 m L [] bs out (.slice none 0 0) wv F []:=⟨h.o,h.on,.nil,by simp,by simp,h.y,fun k e=>⟨(h.wd k e).1,by simp⟩,h.b,⟨h.n.1,AY,h.n.2.2⟩,by simp,h.a⟩
theorem LU.byte(h:LU w w1 m L ls bs out lv wv F fl)(c:UInt8)(ho:w2.ownsRow w.heap.size 5 1 v' (bs.length+1) (bs.map TF++[TF c]))(hg:w1.grownBy w2 wv.ownBlock)(hf:∀k,v'.ownBlock=some k->wv.ownBlock=some k\/w1.heap.size<=k):LU w w2 (m+1) L ls (bs++[c]) out lv v' F fl where
 o:=h.o.same fun b hb=>hg.block b (h.o.fp b hb).2 fun e=>(h.wd b e.symm).1 hb
 on:=h.on
 l:=h.l.same fun b hb=>hg.block b (h.l.fp b hb).2 fun e=>(h.wd b e.symm).2 hb
 ln:=h.ln
 d:=h.d
 y:=by rw[List.length_append,List.map_append];exact ho
 wd:=fun k e=>by
  rcases hf k e with h1|h1
  ·exact h.wd k h1
  ·exact⟨fun h2=>by have:=(h.o.fp k h2).2;omega,fun h2=>by have:=(h.l.fp k h2).2;omega⟩
 b:=h.b.grown hg h.b.size fun k hk=>(h.y.lt k hk).1
 n:=by have:=h.n;simp;omega
 s:=h.s
 a:=h.a
theorem LU.word(h:LU w w1 m L ls bs out lv wv F fl)(t:ByteArray)(ht:t.size<=10000000)(hl:AZ w2 w.heap.size 9 1 (ls.map dS++[dS t]) v' vY)(hn:vY.Nodup)(hf:∀b,b∈vY->b∈fl\/b∈([]:List Nat)\/w1.heap.size<=b)(hg:w1.grownBy w2 lv.ownBlock):LU w w2 (m+1) L (ls++[t]) [] out v' (.slice none 0 0) F vY where
 o:=h.o.same fun b hb=>hg.block b (h.o.fp b hb).2 fun e=>h.d b (h.l.own b e.symm) hb
 on:=h.on
 l:=by rw[List.map_append];exact hl
 ln:=hn
 d:=fun b hb hF=>by
  rcases hf b hb with h1|h1|h1
  ·exact h.d b h1 hF
  ·cases h1
  ·have:=(h.o.fp b hF).2;omega
 y:=World.ownsRow_nil _ _ _ _
 wd:=fun k e=>by cases e
 b:=h.b.grown hg h.b.size fun k hk=>(h.l.fp k (h.l.own k hk)).1
 n:=by have:=h.n;simp;omega
 s:=fun s hs=>by
  rcases List.mem_append.1 hs with h1|h1
  ·exact h.s s h1
  ·rw[List.mem_singleton.1 h1];exact ht
 a:=h.a
theorem LU.line(h:LU w w1 m L ls bs out lv wv F fl)(k:Int)(hne:ls≠ [])(hm:m<=10000000){F':List Nat}(ho:AZ w2 w.heap.size 249 2 (L.map xE++[xE ⟨k,ls⟩]) v' F')(hn:F'.Nodup)(hf:∀b,b∈F'->b∈F\/b∈fl\/w1.heap.size<=b)(hg:w1.grownBy w2 out.ownBlock):LU w w2 (m+1) (L++[⟨k,ls⟩]) [] bs v' (.slice none 0 0) wv F' [] where
 o:=by rw[List.map_append];exact ho
 on:=hn
 l:=.nil
 ln:=by simp
 d:=by simp
 y:=h.y.kept hg (by
  cases hw:wv.ownBlock with
  |none=>exact .inl rfl
  |some g=>exact .inr fun e=>(h.wd g hw).1 (h.o.own g e.symm))
 wd:=fun j e=>⟨fun h2=>by
  rcases hf j h2 with h1|h1|h1
  ·exact(h.wd j e).1 h1
  ·exact(h.wd j e).2 h1
  ·have:=kI h.y e
   omega,by simp⟩
 b:=h.b.grown hg h.b.size fun k hk=>(h.o.fp k (h.o.own k hk)).1
 n:=by have:=h.n;simp;omega
 s:=by simp
 a:=fun x hx=>by
  rcases List.mem_append.1 hx with h1|h1
  ·exact h.a x h1
  ·rw[List.mem_singleton.1 h1];exact⟨hne,by have:=h.n;show ls.length<=_;omega,h.s⟩
end
theorem Uc(s:ByteArray)(hs:s.size<=1000000)(w:World):Calls prog 167 #[.string s] w fun e w'=>AA6 w w'/\∃v at' why,e=.returned (.tuple #[v,.int .i64 at',.int .i64 why])/\(why=0->∃L,Row rT 2 w' v L/\L.length<=2000002/\∀x∈L,x.ws≠ []/\x.ws.length<=10000000/\∀s∈x.ws,s.size<=10000000):=by
 have hsI:¬(4194304:Int)<s.size:=by omega
 go_enter func167,ntmps167;go_wp2;go_loopw[5,6,7,8,9,10,11,12] (fun out lv wv n rm bad i _ wr=>∃(q:Nat) (L:List Lw) (ls:List ByteArray) (bs:List UInt8) (F fl:List Nat) (k:Int) (r d:Bool),q<=s.size+1/\i=.int .i64 (q:Int)/\LU w wr (2*q) L ls bs out lv wv F fl/\n=.int .i64 k/\0<=k/\k<=q+1/\rm=.bool r/\bad=.bool d) (fun _ _ _ _ _ _ i _ _=>s.size+1-(intOf i).toNat);exact⟨0,[],[],[],[],[],1,false,false,by omega,rfl,⟨.nil,by simp,.nil,by simp,by simp,World.ownsRow_nil _ _ _ _,(fun k e=>by cases e),AL,by simp,by simp,by simp⟩,rfl,by omega,by omega,rfl,rfl⟩;obtain⟨q,L,ls,bs,F,fl,k,r,d,hq,rfl,hS,rfl,hk0,hk1,rfl,rfl⟩:=hrel;obtain⟨⟨p1,c1,rfl⟩,⟨p2,c2,rfl⟩,p3,c3,rfl⟩:=hS.shape;obtain⟨wo,rfl⟩:=again wr;by_cases hend:q=s.size+1
 ·subst hend;have hgt:¬((s.size+1:Nat):Int)<=s.size:=by omega
  have hgt2:¬s.size+1<=s.size:=by omega
  go_wp2;go_ret3;refine⟨hS.b,_,_,_,rfl,fun _=>⟨L,?_,by have:=hS.n;omega,fun x hx=>hS.a x hx⟩⟩;have hv:=hS.o.view (E:=rT) (ok:=fun x:Lw=>x.ws.length<=10000000/\∀s∈x.ws,s.size<=10000000) (fun _=>rfl) (fun x g o f h1 h2=>vLw h1 h2) (by have:=hS.n;unfold Ln;omega) (fun x hx=>(hS.a x hx).2);exact hv
 ·have hle:(q:Int)<=s.size:=by omega
  have hle2:q<=s.size:=by omega
  go_upto_region 12 with fail;go_cut[12]from 22 to 31 (fun e wx=>∃b:Bool,e=.bool b/\(b=false->q<s.size)/\wx=wo)
  ·cases he:((q:Int)==(s.size:Int))with
   |true=>
    go_wp2;go_meet
    exact⟨_,rfl,(fun h=>by cases h),rfl⟩
   |false=>
    have hlt:q<s.size:=by
     have:(q:Int)≠s.size:=(by simpa using he);omega
    have A8:(q:Int)<s.size:=(by omega);go_wp2;go_meet;exact⟨_,rfl,fun _=>hlt,rfl⟩
  obtain⟨e,rfl,he,rfl⟩:=hcut;obtain⟨wo,rfl⟩:=again wc;go_upto_region 13 with fail;go_cut[39]from 32 to 38 (fun e wx=>∃b:Bool,e=.bool b/\wx=wo)
  ·cases e
   ·have hlt:=he rfl;have A8:(q:Int)<s.size:=(by omega);go_wp2;go_meet;exact⟨_,rfl,rfl⟩
   ·go_wp2;go_meet;exact⟨_,rfl,rfl⟩
  obtain⟨f,rfl,rfl⟩:=hcut;obtain⟨wo,rfl⟩:=again wc;go_upto_if 39 with fail;go_cut[9]from 9 to 9 (fun e wx=>∃b:Bool,e=.bool b/\wx=wo)
  ·cases f
   ·go_wp2;go_meet;exact⟨_,rfl,rfl⟩
   ·go_wp2;go_meet;exact⟨_,rfl,rfl⟩
  obtain⟨r,rfl,rfl⟩:=hcut;obtain⟨wo,rfl⟩:=again wc;go_upto_region 15 with fail;go_cut[55]from 40 to 54 (fun x wx=>∃b:Bool,x=.bool b/\(e=true->b=true)/\wx=wo)
  ·cases e
   ·have hlt:=he rfl;have A8:(q:Int)<s.size:=(by omega);cases r
    ·go_wp2;all_goals (go_meet;case rel=>exact⟨_,rfl,(fun h=>by cases h),rfl⟩)
    ·go_wp2;go_meet;exact⟨_,rfl,(fun h=>by cases h),rfl⟩
   ·go_wp2;go_meet;exact⟨_,rfl,(fun _=>rfl),rfl⟩
  obtain⟨g,rfl,hg,rfl⟩:=hcut;obtain⟨wo,rfl⟩:=again wc;go_upto_if 55 with fail;go_cut[6,7,10]from 56 to 82 (fun lv wv bad wx=>∃(ls:List ByteArray) (bs:List UInt8) (fl:List Nat) (d:Bool),LU w wx (2*q+1) L ls bs (.slice p1 L.length c1) lv wv F fl/\(∃p c,lv=.slice p ls.length c)/\(∃p c,wv=.slice p bs.length c)/\bad=.bool d)
  ·cases g
   ·have hlt:q<s.size:=by
     cases e
     ·exact he rfl
     ·exact absurd (hg rfl) (by decide)
    have A8:(q:Int)<s.size:=(by omega);go_upto_region 19 with fail;go_cut[10]from 64 to 76 (fun x wx=>∃b:Bool,x=.bool b/\wx=wo)
    ·cases d
     ·go_wp2;all_goals (go_meet;case rel=>exact⟨_,rfl,rfl⟩)
     ·go_wp2;go_meet;exact⟨_,rfl,rfl⟩
    obtain⟨d,rfl,rfl⟩:=hcut;have hB2:=Ae.alloc wc [TF s[q]] 5;have hS2:=hS.nx (AJ wc (.cells #[TF s[q]] 5));have hn:=hS.n;obtain⟨i0,hi,hz0,hz1,hz2⟩:=Cq (P:=prog) (t:=5) (z:=.int .u8 0) (s:=1) (b:=1) (by kernel_rfl);(go_wp2_with(at_builtin;refine wpList_append_own' rfl _ _ 250 rfl w.heap.size 5 i0 _ 1 1 underlying250 hi hz0 hz1 hz2 rfl (by decide) _ bs.length (bs.map TF) rfl hS2.y ⟨wc.heap.size,0,none⟩ 1 1 [TF s[q]] rfl rfl (fun j u hu=>by rw[Dk,Nat.zero_add];exact hB2.c j u hu) (by simp[Value.oneCell']) (by unfold maxLen;omega) (by omega) hS2.b.size ?_;intro v' w3 ho hg hf;obtain⟨N7,Nh,rfl⟩:=Bf ho));go_meet;exact⟨ls,bs++[s[q]],fl,d,hS2.byte s[q] ho hg hf,⟨_,_,rfl⟩,⟨N7,Nh,by simp⟩,rfl⟩
   ·by_cases hbs:0<bs.length
    ·have wO:(0:Int)<bs.length:=(by omega);have hcv:=D7 underlying250 underlying5 underlying9 (show wo.ownsRow w.heap.size 5 1 (.slice p3 bs.length c3) bs.length (bs.map Gg)from hS.y);have hB2:=Ae.alloc wo [.string ⟨bs.toArray⟩] 9;have hS2:=hS.nx (AJ wo (.cells #[.string ⟨bs.toArray⟩] 9));have hn:=hS.n;(go_wp2_with(at_builtin;refine HY rfl P5 _ _ rfl rfl hS2.l hS2.ln rfl hB2 (by simp[Value.oneCell']) (Af.str hB2) (by simp) (by simp) rfl rfl (by rw[List.length_map];omega) (by decide) hS2.b.size ?_;rintro v' w3 vY ⟨N7,Nh,rfl⟩ h1 h2 h3 h4-));rw[List.length_map]at h1;go_meet;exact⟨ls++[⟨bs.toArray⟩],[],vY,d,hS2.word _ (by show bs.toArray.size<=10000000;rw[List.size_toArray];omega) h1 h2 h3 h4,⟨N7,Nh,by simp⟩,⟨_,_,rfl⟩,rfl⟩
    ·have wO:¬(0:Int)<bs.length:=(by omega);go_wp2;go_meet;exact⟨ls,[],fl,d,hS.now.up (Aa),⟨_,_,rfl⟩,⟨_,_,rfl⟩,rfl⟩
  obtain⟨ls,bs,fl,d,hS,⟨p2,c2,rfl⟩,⟨p3,c3,rfl⟩,rfl⟩:=hcut;obtain⟨wo,rfl⟩:=again wc;go_upto_if 83 with fail;cases e
  ·go_wp2;go_roundw;exact⟨q+1,L,ls,bs,F,fl,k,r,d,by omega,by go_num,hS.up (by omega),rfl,hk0,by omega,rfl,rfl⟩;simp[intOf];omega
  ·cases d
   ·by_cases hls:0<ls.length
    ·have iI:(0:Int)<ls.length:=(by omega);have hB2:=Ae.alloc wo [.int .i64 k,.slice p2 ls.length c2] 249;have hS2:=hS.nx (AJ wo (.cells #[.int .i64 k,.slice p2 ls.length c2] 249));have hn:=hS.n;have hL:Af (wo.alloc (.cells #[.int .i64 k,.slice p2 ls.length c2] 249)) w.heap.size (xE ⟨k,ls⟩) wo.heap.size 0 (fl++[]):=Af.of (AP.cc (hB2.c 0 _ rfl) rfl (AP.cr (hB2.c 1 _ rfl) hS2.l AP.cn));rw[List.append_nil]at hL;(go_wp2_with(at_builtin;refine HY rfl AAD _ _ rfl rfl hS2.o hS2.on rfl hB2 (by simp[Value.oneCell']) hL hS2.ln hS2.d rfl rfl (by rw[List.length_map];omega) (by decide) hS2.b.size ?_;rintro v' w3 F' ⟨N7,Nh,rfl⟩ h1 h2 h3 h4-));rw[List.length_map]at h1;go_roundw;exact⟨q+1,L++[⟨k,ls⟩],[],bs,F',[],k+1,false,false,by omega,by go_num,(hS2.line k (by intro h;subst h;simp at hls) (by omega) h1 h2 h3 h4),by go_num,by omega,by omega,rfl,rfl⟩;simp[intOf];omega
    ·have iI:¬(0:Int)<ls.length:=(by omega);go_wp2;go_roundw;exact⟨q+1,L,[],bs,F,[],k+1,false,false,by omega,by go_num,hS.nol.up (by omega),by go_num,by omega,by omega,rfl,rfl⟩;simp[intOf];omega
   ·go_wp2;go_ret3;exact⟨hS.b,_,_,_,rfl,fun h=>absurd h (by decide)⟩
end
section
open Word Num Dp
def zF(e:Ending):Prop:=∃(n:Int) (b:Bool),e=.returned (.tuple #[.int .i64 n,.bool b])/\Bo n
theorem eH(l:List UInt8):Bo (Nt l).1:=by
 unfold Nt;split
 ·exact FR _
 grind
theorem eG(l:List UInt8):Bo (LZ l).1:=by
 unfold LZ;split
 ·exact FR _
 grind
theorem JU(s:ByteArray)(hs:s.size<=10000000)(w:World):Calls prog 236 #[.string s] w fun e w'=>zF e/\AA6 w w':=by
 by_cases h1:1<=s.size
 ·refine(Uv s w (by omega) h1).mono fun e w' ⟨he,hb⟩=>⟨⟨_,_,he,eH _⟩,hb⟩
 ·obtain rfl:s=ByteArray.empty:=ByteArray.ext (Array.eq_empty_of_size_eq_zero (by show s.size=0;omega));have hb:=Below.refl w.heap.size w;have hz:wrap64 0=0:=by decide+kernel
  go_enter func236,ntmps236;go_wp2;refine wp_loop_rounds 1 ?_;rw[rounds_succ];go_wp2_with(first|((with_reducible refine(Mw _ _).mono ?_);rintro e w' ⟨rfl,rfl⟩)|((with_reducible refine(KL ⟨by decide,by decide⟩ _).mono ?_);rintro e w1 ⟨⟨t,rfl,-⟩,h⟩;replace hb:=AAt hb h;clear h))
  all_goals (go_ret2;exact⟨⟨_,_,rfl,by decide,by decide⟩,hb⟩)
theorem tK(s:ByteArray)(w:World):Calls prog 250 #[.string s] w fun e w'=>zF e/\AA6 w w':=
 (bg s w).mono fun _ _ ⟨he,hb⟩=>⟨⟨_,_,he,eG _⟩,hb⟩
theorem uS(s:ByteArray)(hs:s.size<=10000000)(w:World):Calls prog 245 #[.string s] w fun e w'=>AA6 w w'/\∃(x:Ag) (b:Bool),e=.returned (.tuple #[.agg #[.int .i64 x.k,.string x.s,.int .i64 x.n],.bool b])/\x.s.size<=10000000:=by
 have hN:=fun w=>JU s hs w;have hV:=fun w=>tK s w;have hR:=fun w=>JU (s.extract 1 s.size) (by rw[ByteArray.size_extract];omega) w;have hR0:=fun w=>JU ⟨#[]⟩ (AY) w;go_enter func245,ntmps245;go_upto_if 15 with fail;generalize hW:w.alloc _=W at*;obtain⟨hb0,hA⟩:=ng hW;go_cut[4]from 15 to 17 (fun v wx=>∃r:ByteArray,v=.string r/\r.size<=10000000/\wx=W)
 ·by_cases h1:0<s.size
  ·have Fw:(0:Int)<s.size:=(by omega);go_wp2;go_meet;exact⟨_,rfl,by rw[ByteArray.size_extract];omega,rfl⟩
  ·have Fw:¬(0:Int)<s.size:=(by omega);go_wp2;go_meet;exact⟨_,rfl,AY,rfl⟩
 obtain⟨r,rfl,hr,rfl⟩:=hcut;replace hR:=fun w=>JU r hr w;go_wp2_with fail;refine(hN _).mono ?_;rintro e w1 ⟨⟨k1,b1,rfl,z1⟩,hb1⟩;go_wp2_with fail;refine(hV _).mono ?_;rintro e w2 ⟨⟨k2,b2,rfl,z2⟩,hb2⟩;go_wp2_with fail;refine(hR _).mono ?_;rintro e w3 ⟨⟨k3,b3,rfl,z3⟩,hb3⟩;have hb:=AB (AB (AB hb0 hb1) hb2) hb3;replace hA:=((hA.nx hb1).nx hb2).nx hb3;have hb3:=hb.alloc hb.size (.cells #[.int .i64 1,.string s,.int .i64 0,.int .i64 2,.string ⟨#[]⟩,.int .i64 k1,.int .i64 3,.string ⟨#[]⟩,.int .i64 k2,.int .i64 4,.string ⟨#[]⟩,.int .i64 0,.int .i64 5,.string ⟨#[]⟩,.int .i64 k3] 327);replace hA:=hA.al (.cells #[.int .i64 1,.string s,.int .i64 0,.int .i64 2,.string ⟨#[]⟩,.int .i64 k1,.int .i64 3,.string ⟨#[]⟩,.int .i64 k2,.int .i64 4,.string ⟨#[]⟩,.int .i64 0,.int .i64 5,.string ⟨#[]⟩,.int .i64 k3] 327);have z0:Bo 0:=⟨by decide,by decide⟩;have hel:Hid (∀(q:Nat) (v:World),q<5->Ae v w3.heap.size [.int .i64 1,.string s,.int .i64 0,.int .i64 2,.string ⟨#[]⟩,.int .i64 k1,.int .i64 3,.string ⟨#[]⟩,.int .i64 k2,.int .i64 4,.string ⟨#[]⟩,.int .i64 0,.int .i64 5,.string ⟨#[]⟩,.int .i64 k3]->∃x:Ag,v.cell? ⟨w3.heap.size,q*3,none⟩=some (.int .i64 x.k)/\v.cell? ⟨w3.heap.size,q*3+1,none⟩=some (.string x.s)/\v.cell? ⟨w3.heap.size,q*3+2,none⟩=some (.int .i64 x.n)/\x.s.size<=10000000/\Bo x.n):=Wx fun q v hq h=>by
  have:q=0\/q=1\/q=2\/q=3\/q=4:=by omega
  rcases this with rfl|rfl|rfl|rfl|rfl
  ·exact⟨⟨1,s,0⟩,h.c 0 _ rfl,h.c 1 _ rfl,h.c 2 _ rfl,hs,z0⟩
  ·exact⟨⟨2,_,k1⟩,h.c 3 _ rfl,h.c 4 _ rfl,h.c 5 _ rfl,AY,z1⟩
  ·exact⟨⟨3,_,k2⟩,h.c 6 _ rfl,h.c 7 _ rfl,h.c 8 _ rfl,AY,z2⟩
  ·exact⟨⟨4,_,0⟩,h.c 9 _ rfl,h.c 10 _ rfl,h.c 11 _ rfl,AY,z0⟩
  ·exact⟨⟨5,_,k3⟩,h.c 12 _ rfl,h.c 13 _ rfl,h.c 14 _ rfl,AY,z3⟩
 go_upto_region 8 with fail;generalize hW:w3.alloc _=W at*;obtain⟨-,hL⟩:=ng hW;have hw3:w.heap.size<=w3.heap.size:=hb.size;generalize w3.heap.size=lb at*;go_wp2;go_loopw[12] (fun i wr=>∃q:Nat,q<=5/\i=.int .i64 (q:Int)/\AA6 w wr/\Ae wr w.heap.size [.int .i64 0,.string ⟨#[]⟩,.int .i64 0]/\Ae wr lb [.int .i64 1,.string s,.int .i64 0,.int .i64 2,.string ⟨#[]⟩,.int .i64 k1,.int .i64 3,.string ⟨#[]⟩,.int .i64 k2,.int .i64 4,.string ⟨#[]⟩,.int .i64 0,.int .i64 5,.string ⟨#[]⟩,.int .i64 k3]) (fun i _=>5-(intOf i).toNat);exact⟨0,AY,rfl,hb3,hA,hL⟩;obtain⟨q,hq,rfl,hb,hA,hL⟩:=hrel;by_cases hend:q=5
 ·subst hend;obtain⟨r0,r1,r2⟩:=hA.c3;obtain⟨f0,f1,f2⟩:=hA.f3;go_wp2;(refine rB rfl (by go_simp;try rfl) rfl ?_);refine⟨?_,⟨0,⟨#[]⟩,0⟩,false,rfl,AY⟩;(repeat(first|with_reducible assumption|exact AJ _ _|exact AL|refine Below.drew ?_|refine Below.setCell ?_ (by first|exact AQ|(dsimp only;omega)) _|refine Below.alloc ?_ (by first|exact AQ|(simp;omega)|simp) _))
 ·have hlt:q<5:=by omega
  have A8:(q:Int)<5:=by omega
  obtain⟨x,e0,e1,e2,xs,xn⟩:=hel.out q wr hlt hL;have Kt:=fun v=>ND x.k x.s (Wx (by omega)) x.n _ rfl v;generalize KI x.k x.s.data.toList x.n=rv at Kt;have hPt:=fun v=>MZ (x:=x) (by unfold Sz;omega) xn v;go_wp2_with fail;refine(Kt _).mono ?_;rintro e w5 ⟨rfl,hb5⟩;replace e0:=AA hb5 e0;replace e1:=AA hb5 e1;replace e2:=AA hb5 e2;replace hA:=hA.nx hb5;replace hL:=hL.nx hb5;replace hb:=AB hb hb5;cases rv
  ·go_wp2;go_roundw;exact⟨q+1,by omega,by go_num,hb,hA,hL⟩;simp[intOf];omega
  ·go_wp2_with fail;refine(hPt _).mono ?_;rintro e w6 ⟨⟨t,rfl,ht⟩,hb6⟩;replace e0:=AA hb6 e0;replace e1:=AA hb6 e1;replace e2:=AA hb6 e2;replace hA:=hA.nx hb6;replace hL:=hL.nx hb6;replace hb:=AB hb hb6
   cases hts:(t.toList==s.toList)with
   |true=>
    obtain⟨r0,r1,r2⟩:=hA.c3;obtain⟨f0,f1,f2⟩:=hA.f3;go_wp2;(refine rB rfl (by go_simp;try rfl) rfl ?_);refine⟨?_,x,true,rfl,xs⟩
    (repeat(first|with_reducible assumption|exact AJ _ _|exact AL|refine Below.drew ?_|refine Below.setCell ?_ (by first|exact AQ|(dsimp only;omega)) _|refine Below.alloc ?_ (by first|exact AQ|(simp;omega)|simp) _))
   |false=>
    go_wp2;go_roundw;exact⟨q+1,by omega,by go_num,hb,hA,hL⟩;simp[intOf];omega
end
section
open Word Num Dp
abbrev nm(s:ByteArray):Bool:=Eb s.data.toList
abbrev Wz(l:List ByteArray):Prop:=l.length<=10000000/\∀s∈l,s.size<=10000000
def mU(e:Ending):Prop:=∃b:Bool,e=.returned (.bool b)
def uW(n m:Int)(e:Ending):Prop:=∃r:Int,e=.returned (.int .i64 r)/\(r=0->n<m)
def AAx(e:Ending):Prop:=∃(op:Int) (b:Bool),e=.returned (.tuple #[.int .i64 op,.bool b])/\(b=true->1<=op/\op<=34)
theorem DN{l:List ByteArray}(hb:Ae w pb (l.map Value.string))(hz:Wz l):Row DL 1 w (.slice (some ⟨pb,0,none⟩) l.length l.length) l:=by
 refine⟨some ⟨pb,0,none⟩,l.length,rfl,(fun e=>by cases e),⟨by have:=hz.1;omega,AQ⟩,fun i x hx=>⟨_,rfl,?_,?_⟩⟩
 ·rw[Dk,Nat.zero_add,Nat.mul_one];exact hb.c i _ (by simp[hx])
 grind
theorem Bn(h0:AA6 w0 w){l:List ByteArray}(hl:Row DL 1 w0 u l):Calls prog 230 #[u] w fun e w'=>e=.returned (.bool (l.all nm))/\w=w':=by
 obtain⟨p,c,rfl,-,⟨hn,-⟩,hl⟩:=hl;obtain⟨R,hR⟩:∃R,R=l.all nm:=⟨_,rfl⟩;rw[<-hR];go_enter func230,ntmps230;go_wp2;go_loopw[3] (fun i wr=>∃q:Nat,q<=l.length/\i=.int .i64 (q:Int)/\Hid (R=(l.drop q).all nm)/\wr=w) (fun i _=>l.length-(intOf i).toNat);exact⟨0,AY,rfl,Wx hR,rfl⟩;clear hR;obtain⟨q,hq,rfl,hR,rfl⟩:=hrel;by_cases hend:q=l.length
 ·subst hend;have hR:=hR.out;rw[List.drop_length]at hR;obtain rfl:R=true:=hR;go_wp2;go_ret;exact⟨rfl,rfl⟩
 ·have hlt:q<l.length:=by omega
  have A8:(q:Int)<l.length:=by omega
  have hR:=hR.out;rw[List.drop_eq_getElem_cons hlt,List.all_cons]at hR;obtain⟨a,rfl,d0,z0⟩:=hl q l[q] (by simp[hlt]);rw[Nat.mul_one]at d0;replace d0:=AA h0 d0;have hN:=fun w=>KZ l[q] _ rfl (by unfold Sz at z0;omega) w;generalize l[q]=s at*;change R=(nm s&&_)at hR
  cases hs:nm s with
  |false=>
   rw[hs]at hR;change Eb s.data.toList=false at hs;rw[hs]at hN;obtain rfl:R=false:=(by simpa using hR);clear hl hs hR;go_wp2_with fail;refine(hN _).mono ?_;rintro e w2 ⟨rfl,rfl⟩;go_wp2;go_ret
   exact⟨rfl,rfl⟩
  |true=>
   rw[hs,Bool.true_and]at hR;change Eb s.data.toList=true at hs;rw[hs]at hN;replace hR:=Wx hR;go_wp2_with fail;refine(hN _).mono ?_;rintro e w2 ⟨rfl,rfl⟩;go_wp2;go_roundw;exact⟨q+1,by omega,by go_num,hR,trivial⟩;simp[intOf];omega
theorem dz(s:ByteArray)(hs:s.size<=10000000)(w:World):Calls prog 246 #[.string s] w fun e w'=>mU e/\w=w':=by
 have hN:=fun w=>KZ s _ rfl (by omega) w;generalize Eb s.data.toList=b at hN
 cases h1:(s.toList==[105,110,116])with
 |true=>
  go_enter func246,ntmps246;go_wp2;go_ret
  exact⟨⟨_,rfl⟩,rfl⟩
 |false=>
  cases h2:(s.toList==[102,108,111,97,116])with
  |true=>
   go_enter func246,ntmps246;go_wp2;go_ret
   exact⟨⟨_,rfl⟩,rfl⟩
  |false=>
   go_enter func246,ntmps246;go_wp2_with fail;refine(hN _).mono ?_;rintro e w2 ⟨rfl,rfl⟩;go_wp2;go_ret;exact⟨⟨_,rfl⟩,rfl⟩
theorem D8(n m:Int)(w:World):Calls prog 234 #[.int .i64 n,.int .i64 m] w fun e w'=>uW n m e/\w=w':=by
 by_cases h:m<=n
 ·go_enter func234,ntmps234;go_wp2;go_ret;exact⟨⟨_,rfl,fun h=>absurd h (by decide)⟩,rfl⟩
 ·go_enter func234,ntmps234;go_wp2;go_ret;exact⟨⟨_,rfl,fun _=>by omega⟩,rfl⟩
theorem jw(s:ByteArray)(w:World)(hW:Words w):Calls prog 231 #[.string s] w fun e w'=>AAx e/\w=w':=by
 go_enter func231,ntmps231;go_wp2;go_loop[4] (fun i=>∃q:Nat,1<=q/\q<=35/\i=.int .i64 (q:Int)) (fun i=>35-(intOf i).toNat);exact⟨1,by omega,by omega,rfl⟩;obtain⟨q,hq1,hq,rfl⟩:=hrel;by_cases hend:q=35
 ·subst hend;go_wp2;go_ret2;exact⟨⟨_,_,rfl,fun h=>absurd h (by decide)⟩,rfl⟩
 ·have hlt:(q:Int)<=34:=by omega
  have hlt2:(q:Int)<35:=by omega
  have hlt3:q<=34:=by omega
  obtain⟨t,ht,-⟩:=hW q (by omega)
  cases hts:(t.toList==s.toList)with
  |true=>
   go_wp2;go_ret2
   exact⟨⟨_,_,rfl,fun _=>⟨by omega,hlt⟩⟩,rfl⟩
  |false=>
   go_wp2;go_round;exact⟨q+1,by omega,by omega,by go_num⟩;simp[intOf];omega
end
section
open Word Num Dp
def AAv(l:List ByteArray)(e:Ending):Prop:=∃b:Bool,e=.returned (.bool b)/\(b=true->l.length=3/\nm (l.getD 1 Bv)=true)
theorem CV{p:Option Addr}{c:Nat}{l:List ByteArray}(h:Row DL 1 w (.slice p n c) l)(hq:q<l.length):∃a,p=some a/\w.cell? (a.add q)=some (.string l[q]):=by
 obtain⟨p',c',e,-,-,hl⟩:=h;obtain⟨rfl,rfl,rfl⟩:p=p'/\n=l.length/\c=c':=by simpa using e
 obtain⟨a,rfl,h1,-⟩:=hl q l[q] (by simp[hq]);grind
theorem BQ{p:Option Addr}{c:Nat}{l:List ByteArray}(h:Row DL 1 w (.slice p n c) l)(hq:q+1<l.length):∃a,p=some a/\w.cell? ⟨a.block,a.off+(q+1),none⟩=some (.string l[q+1]):=by
 obtain⟨a,h1,h2⟩:=CV h hq;refine⟨a,h1,?_⟩;have:a.add (q+1)=⟨a.block,a.off+(q+1),none⟩:=by simp[Addr.add]
 grind
theorem Dl{l:List ByteArray}(h:Wz l)(hq:q<l.length):l[q].size<=10000000:=h.2 _ (List.getElem_mem hq)
theorem Gr(h0:AA6 w0 w){l:List ByteArray}(hl:Row DL 1 w0 u l)(hz:Wz l):Calls prog 235 #[u] w fun e w'=>AAv l e/\AA6 w w':=by
 obtain⟨p,c,rfl⟩:=hl.slice
 cases h3:((l.length:Int)==3)with
 |false=>
  go_enter func235,ntmps235;go_wp2;go_ret
  exact⟨⟨_,rfl,fun h=>by cases h⟩,AL⟩
 |true=>
  have hl3:l.length=3:=by
   have:(l.length:Int)=3:=(by simpa using h3);omega
  have Fw:(1:Int)<l.length:=by omega
  have Qj:(2:Int)<l.length:=by omega
  have C8:1<l.length:=by omega
  have LQ:2<l.length:=by omega
  obtain⟨a,rfl,d1⟩:=BQ hl (q:=0) C8;obtain⟨a',ea,d2⟩:=BQ hl (q:=1) LQ;simp only[Nat.zero_add,Nat.reduceAdd]at d1 d2;obtain rfl:a=a':=by simpa using ea
  replace d1:=AA h0 d1;replace d2:=AA h0 d2;have hz1:=Dl hz C8;have hz2:=Dl hz LQ;have hg:l.getD 1 Bv=l[1]:=by rw[List.getD_eq_getElem?_getD,List.getElem?_eq_getElem C8];rfl
  have hb:=AJ w (.cells #[.string l[1]] 9);have hN:=Bn (Below.refl (w.alloc (.cells #[.string l[1]] 9)).heap.size _) (DN (l:=[l[1]]) (Ae.alloc w [.string l[1]] 9) ⟨show 1<=10000000 by decide,by simpa using hz1⟩);simp only[List.length_cons,List.length_nil,Nat.zero_add,List.all_cons,List.all_nil,Bool.and_true]at hN;have hK:=fun w=>dz l[2] hz2 w;replace hl3:=Wx hl3;generalize l[1]=s1 at*;generalize l[2]=s2 at*;generalize hv:nm s1=v at*;replace hg:=Wx hg;replace hv:=Wx hv;go_enter func235,ntmps235;go_wp2_with fail;refine hN.mono ?_;rintro e w2 ⟨rfl,rfl⟩;replace d2:=AA hb d2;cases v
  ·go_wp2;go_ret;exact⟨⟨_,rfl,fun h=>by cases h⟩,hb⟩
  ·go_wp2_with fail;refine(hK _).mono ?_;rintro e w2 ⟨⟨b,rfl⟩,rfl⟩;go_wp2;go_ret;exact⟨⟨_,rfl,fun _=>⟨hl3.out,by rw[hg.out];exact hv.out⟩⟩,hb⟩
theorem aF:Qy 129 77 3 32:=.mk' (z:=.agg #[.int .i64 0,.string .empty,.int .i64 0]) underlying129 (by kernel_rfl) rfl (by decide)
theorem aZ{x:Ag}(hb:Ae w pb [.int .i64 x.k,.string x.s,.int .i64 x.n]):Af w B (Ls x) pb 0 []:=Af.of (AP.cc (hb.c 0 _ rfl) rfl (AP.cc (hb.c 1 _ rfl) rfl (AP.cc (hb.c 2 _ rfl) rfl AP.cn)))
abbrev Az(al:List Ag):Prop:=∀a∈al,a.s.size<=10000000
def AA3(w w':World)(n:Nat)(e:Ending):Prop:=∃(v:Value) (b:Bool) (al:List Ag) (F:List Nat),e=.returned (.tuple #[v,.bool b])/\(∃p m c,v=.slice p m c)/\(b=true->al.length=n/\AZ w' w.heap.size 77 3 (al.map Ls) v F/\F.Nodup/\Az al)
theorem FT(h0:AA6 w0 w){l:List ByteArray}(hl:Row DL 1 w0 u l)(hz:Wz l)(ob:Bool):Calls prog 233 #[u,.bool ob] w fun e w'=>AA3 w w' l.length e/\AA6 w w':=by
 have hlr:=hl;obtain⟨p,c,rfl⟩:=hl.slice;have hzl:=hz.1;go_enter func233,ntmps233;go_wp2;go_loopw[6,7,8,9] (fun v i _ _ wr=>∃(q:Nat) (al:List Ag) (F:List Nat),q<=l.length/\i=.int .i64 (q:Int)/\al.length=q/\AZ wr w.heap.size 77 3 (al.map Ls) v F/\F.Nodup/\Az al/\AA6 w wr) (fun _ i _ _ _=>l.length-(intOf i).toNat);exact⟨0,[],[],AY,rfl,rfl,.nil,by simp,(fun a h=>by cases h),AL⟩;obtain⟨q,al,F,hq,rfl,hal,hv,hF,haz,hb⟩:=hrel;obtain⟨pv,cv,rfl⟩:=hv.slice;rw[List.length_map]at hv⊢;by_cases hend:q=l.length
 ·subst hend;replace hal:=Wx hal;go_wp2;go_ret2;exact⟨⟨_,true,al,F,rfl,⟨_,_,_,rfl⟩,fun _=>⟨hal.out,hv,hF,haz⟩⟩,hb⟩
 ·have hlt:q<l.length:=by omega
  have A8:(q:Int)<l.length:=by omega
  obtain⟨a,rfl,d0⟩:=CV hlr hlt;replace d0:=AA (AB h0 hb) d0;have hG:=fun w=>uS l[q] (Dl hz hlt) w;generalize l[q]=s at*;replace hal:=Wx hal;go_wp2_with fail;refine(hG _).mono ?_;rintro e w2 ⟨hb2,x,b,rfl,hxs⟩;have hb3:=(AB hb hb2).alloc (AB hb hb2).size (.cells #[.int .i64 x.k,.string x.s,.int .i64 x.n] 77);replace hv:=hv.same (w':=w2.alloc (.cells #[.int .i64 x.k,.string x.s,.int .i64 x.n] 77)) fun b hb'=>(Below.heap_alloc _ _ _ (A9 (hv.fp b hb').2 hb2.size)).trans (hb2.block b (hv.fp b hb').2);go_upto_region 6 with fail;have hbl:w2.heap.size<(w2.alloc (.cells #[.int .i64 x.k,.string x.s,.int .i64 x.n] 77)).heap.size:=by simp
  generalize Cr:w2.alloc _=W at*;obtain⟨-,hB⟩:=ng Cr;clear Cr;generalize w2.heap.size=ab at*;go_cut[34]from 24 to 33 (fun v wx=>∃r:Bool,v=.bool r/\wx=W)
  ·have e0:=hB.c 0 _ rfl;cases b
   ·go_wp2;go_meet;exact⟨_,rfl,rfl⟩
   ·cases h5:(x.k==5)with
    |false=>
     go_wp2;go_meet
     exact⟨_,rfl,rfl⟩
    |true=>
     go_wp2;go_meet;exact⟨_,rfl,rfl⟩
  obtain⟨r,rfl,rfl⟩:=hcut;obtain⟨W,rfl⟩:=again wc;cases r
  ·obtain⟨e0,e1,e2⟩:=hB.c3;have hB2:=Ae.alloc W [.int .i64 x.k,.string x.s,.int .i64 x.n] 77;have hb4:=hb3.alloc hb3.size (.cells #[.int .i64 x.k,.string x.s,.int .i64 x.n] 77);replace hv:=hv.same (w':=W.alloc (.cells #[.int .i64 x.k,.string x.s,.int .i64 x.n] 77)) fun b hb'=>Below.heap_alloc _ _ _ (hv.fp b hb').2;(go_wp2_with(at_builtin;refine HY rfl aF _ _ rfl rfl hv hF rfl hB2 (by simp[Value.oneCell']) (aZ hB2) (by simp) (by simp) rfl rfl (by rw[List.length_map,hal.out];omega) (by decide) hb4.size ?_;rintro v' w3 F' ⟨N7,Nh,rfl⟩ h1 h2 h3 h4 h5));have hb5:=hb4.trans h5;have h1':AZ w3 w.heap.size 77 3 ((al++[x]).map Ls) (.slice N7 ((List.map Ls al).length+1) Nh) F':=(by rw[List.map_append];exact h1);rw[List.length_map]at h1';go_roundw
   ·exact⟨q+1,al++[x],F',by omega,by go_num,by simp[hal.out],h1',h2,fun a ha=>(by
    rcases List.mem_append.1 ha with h|h
    ·exact haz a h
    ·rw[List.mem_singleton.1 h];exact hxs),hb5⟩
   simp[intOf];omega
  ·go_wp2;go_ret2;exact⟨⟨_,false,[],[],rfl,⟨none,0,0,rfl⟩,fun h=>by cases h⟩,hb3⟩
end
end Go.Proofs.YtlffomedflegdaaGreatDoor
