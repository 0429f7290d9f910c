/- Part 26 of 49 of the proof: Oe. -/
import Derived.Test.YtlffomedflegdaaGreatDoorPz00
import Derived.Test.YtlffomedflegdaaGreatDoorPz25
set_option linter.all false
set_option maxHeartbeats 16000000
set_option maxRecDepth 100000
namespace Go.Proofs.YtlffomedflegdaaGreatDoor
open Go.Proofs.Tryz
open Go.RowKit
def VT(i:Is):Prop:=(∀a∈i.as,Bo a.n)/\(∀f∈i.fr,Bo f.i/\∀b∈f.vs,Bo b.a.n)/\∀o∈i.ob,∀a∈o.vs,Bo a.n
structure Jd(w:World)(B xb:Nat)(cs:List Value)(T:TypeId)(w1:World):Prop where
 k:Kp 5 B w w1
 x:Ni w1 xb cs T
section
variable {w w1 w2 : World} {B C xb n : Nat} {cs : List Value} {T e : TypeId} {v : Value}
theorem Kp.old(h:Kp e B w w1)(hb:Below w.heap.size w1 w2)(hB:B<=w.heap.size):Kp e B w w2:=⟨h.b.trans (hb.mono hB),fun r hr hn=>by
 rw[hb.block r hr]
 exact h.k r hr hn⟩
theorem Jd.next(h:Jd w B xb cs T w1)(hB:B<=w.heap.size)(hb:AA6 w1 w2):Jd w B xb cs T w2:=⟨h.k.nx hB hb,h.x.nx hb⟩
theorem Jd.al(h:Jd w B xb cs T w1)(hB:B<=w.heap.size)(o:Obj):Jd w B xb cs T (w1.alloc o):=h.next hB (AJ _ o)
theorem Jd.str(h:Jd w B xb cs T w1)(hB:B<=w.heap.size)(hk:Kp 9 w.heap.size w1 w2)(hT:T≠9):Jd w B xb cs T w2:=⟨h.k.old hk.b hB,h.x.kp hk hT⟩
theorem Jd.u8(h:Jd w B xb cs T w1)(hk:Kp 5 B w1 w2)(hT:T≠5):Jd w B xb cs T w2:=⟨h.k.trans hk,h.x.kp hk hT⟩
theorem Jd.sz(h:Jd w B xb cs T w1):w.heap.size<=w1.heap.size:=h.k.b.size
theorem BU.str(h:BU w B v n)(hk:Kp 9 C w w1):BU w1 B v n:=by
 obtain⟨bs,h1,h2⟩:=h;exact⟨bs,h1,hk.row h2 (by decide)⟩
end
theorem DZ(a b:ByteArray):lens [a,b]=a.size+b.size+2:=by simp[lens,Aj];omega
theorem YE(a b c d:ByteArray):lens [a,b,c,d]=a.size+b.size+c.size+d.size+4:=by simp[lens,Aj];omega
theorem Rv(l:List Ag):En l+l.length<=100*JF l:=by
 induction l with
 |nil=>exact AQ
 |cons a r ih=>
  unfold En JF at*;simp only[Aj,List.length_cons];omega
theorem YF(l:List Ag)(q:Nat):En (l.take q)+En (l.drop q)=En l:=by
 unfold En;rw[<-D5,List.take_append_drop]
theorem Row.cut{α:Type}{E:World->Addr->α->Prop}{sz n c:Nat}{w:World}{p:Option Addr}{l:List α}(h:Row E sz w (.slice p n c) l){k:Nat}(hk:k<=l.length):Row E sz w (.slice p k c) (l.take k):=by
 obtain⟨p',c',e,h0,⟨h1,h2⟩,hl⟩:=h;obtain⟨rfl,rfl,rfl⟩:p=p'/\n=l.length/\c=c':=by simpa using e
 have hlen:(l.take k).length=k:=by simp;omega
 refine⟨p,c,by rw[hlen],fun e=>⟨by have:=(h0 e).1;omega,(h0 e).2⟩,⟨by omega,by omega⟩,fun i x hx=>hl i x ?_⟩;grind
theorem add_add(a:Addr)(m n:Nat):(a.add m).add n=a.add (m+n):=by
 obtain⟨g,o,s⟩:=a;by_cases hm:m=0
 ·subst hm;simp[Addr.add]
 ·by_cases hn:n=0
  ·subst hn;simp[Addr.add]
  ·have:m+n≠0:=(by omega);simp[Addr.add,hm,hn,Nat.add_assoc]
theorem Row.tail{α:Type}{E:World->Addr->α->Prop}{sz n c m:Nat}{w:World}{a b:Addr}{l:List α}(h:Row E sz w (.slice (some a) n c) l){k:Nat}(hk:k<=l.length)(hm:l.length-k<=m)(hb:k<l.length->b=a.add (k*sz)):Row E sz w (.slice (some b) (l.length-k) m) (l.drop k):=by grind [Row,add_add]
theorem fC{r:Option Fm}{e:Ending}(h:aA r e):∃(s:ByteArray) (d nn:Bool) (l m:Int) (ok:Bool),s.size<=10/\e=.returned (.tuple #[.agg #[.string s,.bool d,.bool nn,.int .i64 l,.int .i64 m],.bool ok]):=by
 cases r with
 |none=>exact⟨_,_,_,_,_,_,AY,h⟩
 |some f=>
  obtain⟨s,hs,h⟩:=h;exact⟨_,_,_,_,_,_,hs,h⟩
theorem YH{w0 w:World}(h0:AA6 w0 w)(hW:Words w0){B n:Nat}{v vx u1 u2 u3:Value}{x:Is}(hv:BU w B v n)(hx:Pv w0 vx x u1 u2 u3)(hr:VT x)(hB:B<=w.heap.size)(hB0:w0.heap.size<=B)(hn:n+100*IJ x<=100000000):Calls prog 174 #[v,vx] w fun e w'=>∃v',e=.returned v'/\BU w' B v' (n+100*IJ x)/\Kp 5 B w w':=by
 obtain⟨rfl,⟨hz1,hz2⟩,hxa,mh,hxo⟩:=hx;have hcI:IJ x=1+x.d.size+x.fr.length+x.ob.length+x.n.size+JF x.as+Aj EW x.fr+Aj Fz x.ob:=rfl;have hlA:=Rv x.as;have h61:(⟨#[61]⟩:ByteArray).size=1:=rfl;have h97:(⟨#[97,116]⟩:ByteArray).size=2:=rfl;have AJw:(⟨#[111,98,106]⟩:ByteArray).size=3:=rfl;obtain⟨p0,m0,c0,rfl⟩:=hv.sl;have iw:=hxa;obtain⟨p1,k1,rfl,-,⟨hl1,hc1⟩,hxa⟩:=hxa;obtain⟨p2,k2,rfl,-,⟨hl2,hc2⟩,mh⟩:=mh;obtain⟨p3,k3,rfl,-,⟨hl3,hc3⟩,hxo⟩:=hxo;have hI:Jd w B w.heap.size [.int .i64 x.op,.string x.d,.string x.n,.slice p1 x.as.length k1,.slice p2 x.fr.length k2,.slice p3 x.ob.length k3] 133 _:=⟨Kp.of (AJ w _) hB,Ni.new w _ _⟩;have hO:=JV x.op _ (hW.kp (h0.trans (hI.k.b.mono hB0)));go_enter func174,ntmps174;go_wp2_with fail;refine hO.mono ?_;rintro e w1 ⟨hb1,ho⟩;obtain⟨wd,fd,fn,fl,fm,ok,hwd,rfl⟩:=fC ho;have hbw:=AB (AJ w _) hb1;have uy:=hv.nx (hbw.alloc hbw.size (.cells #[.string wd,.bool fd,.bool fn,.int .i64 fl,.int .i64 fm] 261));replace hI:=(hI.next hB hb1).al hB (.cells #[.string wd,.bool fd,.bool fn,.int .i64 fl,.int .i64 fm] 261);have hF:=Ni.new w1 [.string wd,.bool fd,.bool fn,.int .i64 fl,.int .i64 fm] 261;go_upto_if 19 with fail;generalize hW1:w1.alloc _=W at*;generalize w1.heap.size=fb at*;go_cut[7]from 20 to 24 (fun v wx=>Ce wx w.heap.size v (x.d.size+3)/\Jd w B w.heap.size [.int .i64 x.op,.string x.d,.string x.n,.slice p1 x.as.length k1,.slice p2 x.fr.length k2,.slice p3 x.ob.length k3] 133 wx/\Ni wx fb [.string wd,.bool fd,.bool fn,.int .i64 fl,.int .i64 fm] 261/\BU wx B (.slice p0 m0 c0) n)
 ·cases fd
  ·go_wp2;go_meet;exact⟨Ce.nil.up (AY),hI,hF,uy⟩
  ·have t1:=hI.x.b.c 1 _ rfl;(go_wp2_with(at_builtin;refine Fh rfl _ _ rfl rfl (Ce.nil (w:=W.alloc (.cells #[.string x.d,.string ⟨#[61]⟩] 9)) (B:=w.heap.size)) [x.d,⟨#[61]⟩] _ rfl (Ae.alloc _ _ _) (by rw[DZ];omega) (hI.al hB _).sz ?_;intro v' w3 hv3 hk3;obtain⟨p3,m3,c3,rfl⟩:=hv3.sl));go_meet;exact⟨hv3.up (by rw[DZ];omega),(hI.al hB _).str hB hk3 (by decide),(hF.al _).kp hk3 (by decide),(uy.nx (AJ _ _)).str hk3⟩
 obtain⟨hS,hI,hF,uy⟩:=hcut;obtain⟨ps,ms,cs,rfl⟩:=hS.sl;have t1:=hF.b.c 0 _ rfl;have t2:=hI.x.b.c 0 _ rfl;have hS1:=hS.nx (AJ wc (.cells #[.string wd] 9));go_upto_region 6 with(at_builtin;refine Fh rfl _ _ rfl rfl hS1 [wd] _ rfl (Ae.alloc _ _ _) (by rw[Aw];omega) (hI.al hB _).sz ?_;intro v' w3 hv3 hk3;obtain⟨pr,mr,cr,rfl⟩:=hv3.sl)
 have PW:=(hI.al hB _).str hB hk3 (by decide);have qB:=(hF.al _).kp hk3 (by decide);have hv4:=(uy.nx (AJ _ _)).str hk3;go_cut[43]from 30 to 43 (fun c wx=>∃b:Bool,c=.bool b/\(b=true->0<x.as.length)/\wx=w3)
 ·obtain⟨t0,-,-,t3⟩:=PW.x.b.c4;have hl2:∃b,decide (0<(x.as.length:Int))=b/\decide (0<x.as.length)=b/\(b=true->0<x.as.length):=⟨decide (0<x.as.length),by simp,rfl,BK⟩;obtain⟨b,hl3,hl4,hl5⟩:=hl2
  cases h26:(x.op==26)with
  |true=>
   go_wp2;go_meet
   exact⟨_,rfl,hl5,rfl⟩
  |false=>
   cases h27:(x.op==27)with
   |true=>
    go_wp2;go_meet
    exact⟨_,rfl,hl5,rfl⟩
   |false=>
    go_wp2;go_meet;exact⟨_,rfl,(fun h=>by simp at h),rfl⟩
 obtain⟨b,rfl,hb,rfl⟩:=hcut;obtain⟨w5,rfl⟩:∃w5:World,w5=wc:=⟨_,rfl⟩;go_upto_if 43 with fail;have hgo:∀(v u:Value) (l:List Ag) (m:Nat) (w6:World),Jd w B w.heap.size [.int .i64 x.op,.string x.d,.string x.n,.slice p1 x.as.length k1,.slice p2 x.fr.length k2,.slice p3 x.ob.length k3] 133 w6->BU w6 B (.slice p0 m0 c0) n->Ce w6 w.heap.size v m->Row Lg 3 w0 u l->(∀a∈l,Bo a.n)->m+En l<=100000000->
   Calls prog 218 #[v,u] w6 fun e w7=>∃p7 m7 c7,e=.returned (.slice p7 m7 c7)/\Ce w7 w.heap.size (.slice p7 m7 c7) (m+En l)/\Jd w B w.heap.size [.int .i64 x.op,.string x.d,.string x.n,.slice p1 x.as.length k1,.slice p2 x.fr.length k2,.slice p3 x.ob.length k3] 133 w7/\BU w7 B (.slice p0 m0 c0) n:=fun v u l m w6 g1 g2 g3 g4 g5 g6=>
  (Ow (h0.trans (g1.k.b.mono hB0)) g3 g4 g5 g1.sz (AX hB0 hB) g6).mono fun e w7 ⟨v',e1,e2,e3⟩=>by
   obtain⟨p7,m7,c7,rfl⟩:=e2.sl;exact⟨p7,m7,c7,e1,e2,g1.str hB e3 (by decide),g2.str e3⟩
 go_cut[7]from 44 to 69 (fun v wx=>Ce wx w.heap.size v (x.d.size+16+x.n.size+En x.as)/\Jd w B w.heap.size [.int .i64 x.op,.string x.d,.string x.n,.slice p1 x.as.length k1,.slice p2 x.fr.length k2,.slice p3 x.ob.length k3] 133 wx/\BU wx B (.slice p0 m0 c0) n)
 ·have t3:=PW.x.b.c 3 _ rfl;cases b
  ·have t2:=qB.b.c 2 _ rfl;cases fn
   ·go_wp2_with fail;refine(hgo _ _ _ _ _ PW hv4 hv3 iw hr.1 (by rw[Aw];omega)).mono ?_;rintro e w7 ⟨p7,m7,c7,rfl,g1,g2,g3⟩;go_wp2;go_meet;exact⟨g1.up (by rw[Aw];omega),g2,g3⟩
   ·have t4:=PW.x.b.c 2 _ rfl;have hS1:=hv3.nx (AJ w5 (.cells #[.string x.n] 9));(go_upto_region 12 with(at_builtin;refine Fh rfl _ _ rfl rfl hS1 [x.n] _ rfl (Ae.alloc _ _ _) (by rw[Aw,Aw];omega) (PW.al hB _).sz ?_;intro v' w6 hv6 wJ;obtain⟨p6,m6,c6,rfl⟩:=hv6.sl));have Yx:=(PW.al hB _).str hB wJ (by decide);have t3:=Yx.x.b.c 3 _ rfl;have hv7:=(hv4.nx (AJ _ _)).str wJ;go_wp2_with fail;refine(hgo _ _ _ _ _ Yx hv7 hv6 iw hr.1 (by rw[Aw,Aw];omega)).mono ?_;rintro e w7 ⟨p7,m7,c7,rfl,g1,g2,g3⟩;go_wp2;go_meet;exact⟨g1.up (by rw[Aw,Aw];omega),g2,g3⟩
  ·have hpos:=hb rfl;obtain⟨a1,rfl,-⟩:=hxa 0 x.as[0] (by simp[hpos]);have hcut:=YF x.as 1;go_wp2_with fail;refine(hgo _ _ _ _ _ PW hv4 hv3 (iw.cut (k:=1) (by omega)) (fun a ha=>hr.1 a (List.mem_of_mem_take ha)) (by rw[Aw];omega)).mono ?_;rintro e w6 ⟨p6,m6,c6,rfl,hv6,Yx,hv7⟩;have t4:=Yx.x.b.c 2 _ rfl;have hS1:=hv6.nx (AJ w6 (.cells #[.string x.n] 9));(go_upto_region 9 with(at_builtin;refine Fh rfl _ _ rfl rfl hS1 [x.n] _ rfl (Ae.alloc _ _ _) (by rw[Aw,Aw];omega) (Yx.al hB _).sz ?_;intro v' w8 hv8 hk8;obtain⟨p8,m8,c8,rfl⟩:=hv8.sl));have hI8:=(Yx.al hB _).str hB hk8 (by decide);have t3:=hI8.x.b.c 3 _ rfl;have QX:=(hv7.nx (AJ _ _)).str hk8;have AGe:(0:Int)<x.as.length:=(by omega);have hl2:∀(b:Addr) (m:Nat),x.as.length-1<=m->(1<x.as.length->b=a1.add (1*3))->Row Lg 3 w0 (.slice (some b) (x.as.length-1) m) (x.as.drop 1):=fun b m h1 h2=>iw.tail (by omega) h1 h2;go_wp2_with fail
   ·obtain rfl:k1=1:=(by omega);refine(hgo _ _ _ _ _ hI8 QX hv8 (hl2 _ _ (by omega) fun _=>by omega) (fun a ha=>hr.1 a (List.mem_of_mem_drop ha)) (by rw[Aw,Aw];omega)).mono ?_;rintro e w7 ⟨p7,m7,c7,rfl,g1,g2,g3⟩;go_wp2;go_meet;exact⟨g1.up (by rw[Aw,Aw];omega),g2,g3⟩
   ·refine(hgo _ _ _ _ _ hI8 QX hv8 (hl2 _ _ (by omega) fun _=>by simp[Addr.add]) (fun a ha=>hr.1 a (List.mem_of_mem_drop ha)) (by rw[Aw,Aw];omega)).mono ?_;rintro e w7 ⟨p7,m7,c7,rfl,g1,g2,g3⟩;go_wp2;go_meet;exact⟨g1.up (by rw[Aw,Aw];omega),g2,g3⟩
 obtain⟨hS,hI,hv⟩:=hcut;obtain⟨ps,ms,cs,rfl⟩:=hS.sl;obtain⟨M,hM⟩:∃M,M=n+100*(1+x.d.size+x.n.size+JF x.as):=⟨_,rfl⟩;go_wp2_with fail;obtain⟨lw,Sy,hll⟩:=hS.ws;refine(Cx hv Sy (AX hB hI.sz) (by omega)).mono ?_;rintro e w2 ⟨v2,rfl,hv2,hk2⟩;replace hI:=hI.u8 hk2 (by decide);replace hv2:=hv2.up (k:=M) (by omega);obtain⟨pv,mv,cv,rfl⟩:=hv2.sl;have hnM:M+100*(x.fr.length+Aj EW x.fr)+100*(x.ob.length+Aj Fz x.ob)=n+100*IJ x:=by omega
 go_wp2;go_loopw[0,8,9,10] (fun v i _ _ wr=>∃q:Nat,q<=x.fr.length/\i=.int .i64 (q:Int)/\BU wr B v (M+100*(q+Aj EW (x.fr.take q)))/\Jd w B w.heap.size [.int .i64 x.op,.string x.d,.string x.n,.slice p1 x.as.length k1,.slice p2 x.fr.length k2,.slice p3 x.ob.length k3] 133 wr) (fun _ i _ _ _=>x.fr.length-(intOf i).toNat);exact⟨0,AY,rfl,hv2.up (by omega),hI⟩;obtain⟨q,hq,rfl,hv,hI⟩:=hrel;obtain⟨pv,mv,cv,rfl⟩:=hv.sl;obtain⟨wo,rfl⟩:∃wo:World,wo=wr:=⟨_,rfl⟩;by_cases hend:q=x.fr.length
 ·subst hend;rw[List.take_length]at hv;have b4:=hI.x.b.c 4 _ rfl;replace hxo:=hidden hxo;go_wp2_with fail;go_loopw[0,11] (fun v i wr=>∃q:Nat,q<=x.ob.length/\i=.int .i64 (q:Int)/\BU wr B v (M+100*(x.fr.length+Aj EW x.fr)+100*(q+Aj Fz (x.ob.take q)))/\Jd w B w.heap.size [.int .i64 x.op,.string x.d,.string x.n,.slice p1 x.as.length k1,.slice p2 x.fr.length k2,.slice p3 x.ob.length k3] 133 wr) (fun _ i _=>x.ob.length-(intOf i).toNat);exact⟨0,AY,rfl,hv.up (by omega),hI⟩;obtain⟨q,hq,rfl,hv,hI⟩:=hrel;obtain⟨pv,mv,cv,rfl⟩:=hv.sl;have b5:=hI.x.b.c 5 _ rfl;by_cases hend:q=x.ob.length
  ·subst hend;rw[List.take_length]at hv;go_wp2_with fail;go_ret;exact⟨_,rfl,hv.up (by omega),hI.k⟩
  ·have hlt:q<x.ob.length:=(by omega);have A8:(q:Int)<x.ob.length:=(by omega);obtain⟨a,rfl,⟨d0,y0⟩,uf,d1,hvf⟩:=hxo.out q x.ob[q] (by simp[hlt]);have qL:=hvf;obtain⟨pq,kq,rfl,-⟩:=hvf;have hsum:=BD Fz hlt;have J7:Fz x.ob[q]=x.ob[q].c.size+JF x.ob[q].vs:=rfl;have hle:=D5 Fz (x.ob.take (q+1)) (x.ob.drop (q+1));rw[List.take_append_drop]at hle;have hrv:=hr.2.2 x.ob[q] (List.getElem_mem hlt);have hla:=Rv x.ob[q].vs;generalize x.ob[q]=y at*;have hw:=fun v (hv:Jd w B w.heap.size [.int .i64 x.op,.string x.d,.string x.n,.slice p1 x.as.length k1,.slice p2 x.fr.length k2,.slice (some a) x.ob.length k3] 133 v)=>h0.trans (hv.k.b.mono hB0);have hId:=hI.next hB (Below.refl wr.heap.size wr).drew;generalize hN0:M+100*(x.fr.length+Aj EW x.fr)+100*(q+Aj Fz (x.ob.take q))=N0 at*;go_wp2_with fail
   refine AV (S:=GC (fun v1=>Jd w B w.heap.size [.int .i64 x.op,.string x.d,.string x.n,.slice p1 x.as.length k1,.slice p2 x.fr.length k2,.slice (some a) x.ob.length k3] 133 v1/\BU v1 B (.slice pv mv cv) N0) (R2 7 14 (fun v v1=>(∃p m c,v=.slice p m c)/\Ce v1 w.heap.size v (5+y.c.size)) (R1 14 15 (fun v v1=>(∃p m c,v=.slice p m c)/\Ce v1 w.heap.size v (5+y.c.size+En y.vs)))) 15
    (fun v v1=>(∃p m c,v=.slice p m c)/\BU v1 B v (M+100*(x.fr.length+Aj EW x.fr)+100*(q+1+Aj Fz (x.ob.take (q+1))))/\Jd w B w.heap.size [.int .i64 x.op,.string x.d,.string x.n,.slice p1 x.as.length k1,.slice p2 x.fr.length k2,.slice (some a) x.ob.length k3] 133 v1)) rfl (by kernel_rfl) (GC.start ⟨hId,hv.nx (Below.refl wr.heap.size wr).drew⟩) ?_
   (iterate 7((apply AU.z rfl;intro V L w1 _ _ _ z hK;(try(have hc:=z.f 15 (by kernel_rfl);have hI:=z.s.k hc;(have b5:=hI.1.x.b.c 5 _ rfl;have e0:=AA (hw _ hI.1) d0;have e1:=AA (hw _ hI.1) d1)));go_simp;exact hK (z.s.keep rfl rfl);intros;rfl)));refine AU.free (fun _=>rfl) (fun V L w1 K' Q' hS hi hR hd hK=>?_) ?_
   ·have yG:=hR.out 14 7 (by kernel_rfl) hi;have hc:=hR.out 15 14 (by kernel_rfl) yG;have hI:=hS.k hc;have hb:=AJ w1 (.cells #[.string ⟨#[111,98,106]⟩,.string y.c] 9);have hN:=Ce.new (B:=w.heap.size) w1 hI.1.sz [⟨#[111,98,106]⟩,y.c] (show 2<=maxLen by decide);go_simp;exact hK.out _ _ rfl (hS.made (CO (fun h=>absurd rfl h) (Cv fun _ _ h=>absurd h (by rw[yG];decide))) ⟨hI.1.next hB hb,hI.2.nx hb⟩ hc rfl ⟨⟨_,_,_,rfl⟩,hN.up (by rw[DZ];omega)⟩ rfl)
   (try simp only[pE]);(iterate 6((apply AU.z rfl;intro V L w1 _ _ _ z hK;(try(have hc:=z.f 15 (by kernel_rfl);have hI:=z.s.k hc;(have b5:=hI.1.x.b.c 5 _ rfl;have e0:=AA (hw _ hI.1) d0;have e1:=AA (hw _ hI.1) d1)));go_simp;exact hK (z.s.keep rfl rfl);intros;rfl)));refine AU.free (fun _=>rfl) (fun V L w1 K' Q' hS hi hR hd hK=>?_) ?_
   ·have hc:=hR.out 15 14 (by kernel_rfl) hi;obtain⟨⟨p5,m5,c5,hp⟩,hx⟩:=hS.val hc rfl (hd.out 7 (by kernel_rfl)) hi;have hI:=hS.k hc;rw[hp]at hx;simp only[hp];go_simp;(go_wp2_with(refine(Ow (hw _ hI.1) hx qL hrv hI.1.sz (AX hB0 hB) (by omega)).mono ?_;rintro e w2 ⟨v',rfl,h1,h2⟩));obtain⟨p6,m6,c6,rfl⟩:=h1.sl;exact hK.out _ _ (by simp only[hp];rfl) (hS.made (CO (fun _ h=>absurd rfl h) (Cv fun h=>absurd rfl h)) ⟨hI.1.str hB h2 (by decide),hI.2.str h2⟩ hc rfl ⟨⟨_,_,_,rfl⟩,h1⟩ rfl)
   (try simp only[pE]);refine AU.free (fun _=>rfl) (fun V L w1 K' Q' hS hi hR hd hK=>?_) ?_
   ·obtain⟨⟨p5,m5,c5,hp⟩,hx⟩:=hS.val hi rfl (hd.out 14 (by kernel_rfl)) hi;have hI:=hS.k hi;rw[hp]at hx;obtain⟨lw,Sy,hll⟩:=hx.ws;simp only[hp];go_simp;(go_wp2_with(refine(Cx hI.2 Sy (AX hB hI.1.sz) (by omega)).mono ?_;rintro e w2 ⟨v',rfl,h1,h2⟩));obtain⟨p6,m6,c6,rfl⟩:=h1.sl;exact hK.out _ _ (by simp only[hp];rfl) (GC.call ⟨⟨_,_,_,rfl⟩,h1.up (by omega),hI.1.u8 h2 (by decide)⟩)
   (try simp only[pE]);((refine AU.step (a1:=?_) (fun _=>rfl) (fun V L w1 K' Q' hS hi hR hd hK=>?_) ?_ ?_ ?_;rotate_left);(· (go_simp;(try simp only[pE]);exact hK.out _ (hS.keep rfl rfl)));(· (intro V;rfl));(· (exact fun L V V' Kt hl hv=>hv (15) (Classical.byContradiction fun h=>by have:=Kt (16) (15) (by kernel_rfl) (by simpa using h);rw[hl]at this;cases this))));refine AU.nil fun V w3 hS=>?_;obtain⟨⟨p5,m5,c5,GX⟩,LW,Pf⟩:=hS.done rfl;rw[GX]at LW;simp only[GX];go_wp2_with fail;go_roundw;exact⟨q+1,by omega,by go_num,LW,Pf⟩;simp[intOf];omega
 ·have hlt:q<x.fr.length:=by omega
  have A8:(q:Int)<x.fr.length:=by omega
  obtain⟨a,rfl,⟨d0,y0⟩,⟨d1,y1⟩,d2,uf,d3,hvf⟩:=mh q x.fr[q] (by simp[hlt]);obtain⟨pq,kq,rfl,-,⟨hq1,hq2⟩,hvs⟩:=hvf;have hsum:=BD EW hlt;have J7:EW x.fr[q]=x.fr[q].f.size+x.fr[q].b.size+Aj JL x.fr[q].vs:=rfl;have hle:=D5 EW (x.fr.take (q+1)) (x.fr.drop (q+1));rw[List.take_append_drop]at hle;obtain⟨hi,hrv⟩:=hr.2.1 x.fr[q] (List.getElem_mem hlt);have hP:=fun w=>KL hi w;generalize x.fr[q]=y at*;have hw:=fun v (hv:Jd w B w.heap.size [.int .i64 x.op,.string x.d,.string x.n,.slice p1 x.as.length k1,.slice (some a) x.fr.length k2,.slice p3 x.ob.length k3] 133 v)=>h0.trans (hv.k.b.mono hB0);have b4:=hI.x.b.c 4 _ rfl;have hId:=hI.next hB (Below.refl wo.heap.size wo).drew;go_wp2_with fail
  refine AV (S:=GC (fun v1=>Jd w B w.heap.size [.int .i64 x.op,.string x.d,.string x.n,.slice p1 x.as.length k1,.slice (some a) x.fr.length k2,.slice p3 x.ob.length k3] 133 v1/\BU v1 B (.slice pv mv cv) (M+100*(q+Aj EW (x.fr.take q)))) (R1 18 19 (fun v _=>∃t:ByteArray,v=.string t/\t.size<=20)) 19
   (fun v v1=>(∃pb,v=.slice (some ⟨pb,0,none⟩) 4 4)/\Ce v1 w.heap.size v (28+y.f.size+y.b.size)/\BU v1 B (.slice pv mv cv) (M+100*(q+Aj EW (x.fr.take q)))/\Jd w B w.heap.size [.int .i64 x.op,.string x.d,.string x.n,.slice p1 x.as.length k1,.slice (some a) x.fr.length k2,.slice p3 x.ob.length k3] 133 v1)) rfl (by kernel_rfl) (GC.start ⟨hId,hv.nx (Below.refl wo.heap.size wo).drew⟩) ?_
  iterate 18((apply AU.z rfl;intro V L w1 _ _ _ z hK;(try(have hc:=z.f 19 (by kernel_rfl);have hI:=z.s.k hc;(have b4:=hI.1.x.b.c 4 _ rfl;have e0:=AA (hw _ hI.1) d0;have e1:=AA (hw _ hI.1) d1;have e2:=AA (hw _ hI.1) d2)));go_simp;exact hK (z.s.keep rfl rfl);intros;rfl))
  refine AU.free (fun _=>rfl) (fun V L w1 K' Q' hS hi hR hd hK=>?_) ?_
  ·have hc:=hR.out.far (j:=19) (by kernel_rfl) hi;have hI:=hS.k hc;go_simp;(go_wp2_with(refine(hP _).mono ?_;rintro e w2 ⟨⟨t,rfl,ht⟩,hb⟩));exact hK.out _ _ rfl (hS.made (Cv fun h=>absurd rfl h) ⟨hI.1.next hB hb,hI.2.nx hb⟩ hc rfl ⟨t,rfl,ht⟩ rfl)
  (try simp only[pE]);refine AU.free (fun _=>rfl) (fun V L w1 K' Q' hS hi hR hd hK=>?_) ?_
  ·obtain⟨t,hp,ht⟩:=hS.val hi rfl (hd.out 18 (by kernel_rfl)) hi;have hI:=hS.k hi;simp only[hp];go_simp;have hN:=Ce.new (B:=w.heap.size) w1 hI.1.sz [⟨#[97,116]⟩,y.f,y.b,t] (show 4<=maxLen by decide);exact hK.out _ _ (by simp only[hp];rfl) (GC.call ⟨⟨_,rfl⟩,hN.up (by rw[YE];omega),hI.2.nx (AJ _ _),hI.1.al hB _⟩)
  (try simp only[pE]);((refine AU.step (a1:=?_) (fun _=>rfl) (fun V L w1 K' Q' hS hi hR hd hK=>?_) ?_ ?_ ?_;rotate_left);(· (go_simp;(try simp only[pE]);exact hK.out _ (hS.keep rfl rfl)));(· (intro V;rfl));(· (exact fun L V V' Kt hl hv=>hv (19) (Classical.byContradiction fun h=>by have:=Kt (20) (19) (by kernel_rfl) (by simpa using h);rw[hl]at this;cases this))));refine AU.nil fun V w3 hS=>?_;obtain⟨⟨pb,GX⟩,pG,hsO,hsI⟩:=hS.done rfl;rw[GX]at pG;simp only[GX];generalize hN1:28+y.f.size+y.b.size=N1 at*;generalize hN0:M+100*(q+Aj EW (x.fr.take q))=N0 at*;go_wp2_with fail;go_loopw[9,10] (fun v i wr=>∃j:Nat,j<=y.vs.length/\i=.int .i64 (j:Int)/\Ce wr w.heap.size v (N1+100*Aj JL (y.vs.take j))/\BU wr B (.slice pv mv cv) N0/\Jd w B w.heap.size [.int .i64 x.op,.string x.d,.string x.n,.slice p1 x.as.length k1,.slice (some a) x.fr.length k2,.slice p3 x.ob.length k3] 133 wr) (fun _ i _=>y.vs.length-(intOf i).toNat);exact⟨0,AY,rfl,pG.up (by omega),hsO,hsI⟩;obtain⟨j,hj,rfl,pG,hsO,hsI⟩:=hrel;obtain⟨ps,ms,cs,rfl⟩:=pG.sl;have e3:=AA (hw _ hsI) d3;have b4:=hsI.x.b.c 4 _ rfl;by_cases IZ:j=y.vs.length
  ·subst IZ;rw[List.take_length]at pG;obtain⟨lw,Sy,hll⟩:=pG.ws;go_wp2_with fail;refine(Cx hsO Sy (AX hB hsI.sz) (by omega)).mono ?_;rintro e w5 ⟨v5,rfl,hv5,hk5⟩;obtain⟨p5,m5,c5,rfl⟩:=hv5.sl;have TA:=hsI.u8 hk5 (by decide);go_wp2_with fail;go_roundw;exact⟨q+1,by omega,by go_num,hv5.up (by omega),TA⟩;simp[intOf];omega
  ·have hjt:j<y.vs.length:=(by omega);have hjI:(j:Int)<y.vs.length:=(by omega);obtain⟨a2,rfl,⟨f0,x0⟩,f1,⟨f2,x2⟩,f3⟩:=hvs j y.vs[j] (by simp[hjt]);have hs2:=BD JL hjt;have hcB:JL y.vs[j]=1+y.vs[j].n.size+y.vs[j].a.s.size:=rfl;have hle2:=D5 JL (y.vs.take (j+1)) (y.vs.drop (j+1));rw[List.take_append_drop]at hle2;have hA:=fun w=>MZ x2 (hrv y.vs[j] (List.getElem_mem hjt)) w;generalize y.vs[j]=z at*;have hId:=hsI.next hB (Below.refl wr.heap.size wr).drew;go_wp2_with fail
   refine AV (S:=GC (fun v1=>Jd w B w.heap.size [.int .i64 x.op,.string x.d,.string x.n,.slice p1 x.as.length k1,.slice (some a) x.fr.length k2,.slice p3 x.ob.length k3] 133 v1/\BU v1 B (.slice pv mv cv) N0/\Ce v1 w.heap.size (.slice ps ms cs) (N1+100*Aj JL (y.vs.take j))) (R2 21 22 (fun v _=>∃t:ByteArray,v=.string t/\t.size<=z.a.s.size+32) (R1 22 23 (fun v v1=>∃(t:ByteArray) (pb:Nat),t.size<=z.a.s.size+32/\v=.slice (some ⟨pb,0,none⟩) 2 2/\Ae v1 pb [.string z.n,.string t]))) 23
    (fun v v1=>∃p m c,v=.slice p m c/\Ce v1 w.heap.size v (N1+100*Aj JL (y.vs.take (j+1)))/\BU v1 B (.slice pv mv cv) N0/\Jd w B w.heap.size [.int .i64 x.op,.string x.d,.string x.n,.slice p1 x.as.length k1,.slice (some a) x.fr.length k2,.slice p3 x.ob.length k3] 133 v1)) rfl (by kernel_rfl) (GC.start ⟨hId,hsO.nx (Below.refl wr.heap.size wr).drew,pG.nx (Below.refl wr.heap.size wr).drew⟩) ?_
   (iterate 21((apply AU.z rfl;intro V L w1 _ _ _ z hK;(try(have hc:=z.f 23 (by kernel_rfl);have hI:=z.s.k hc;(have b4:=hI.1.x.b.c 4 _ rfl;have e3:=AA (hw _ hI.1) d3;have g0:=AA (hw _ hI.1) f0;have g1:=AA (hw _ hI.1) f1;have g2:=AA (hw _ hI.1) f2;have g3:=AA (hw _ hI.1) f3)));go_simp;exact hK (z.s.keep rfl rfl);intros;rfl)));refine AU.free (fun _=>rfl) (fun V L w1 K' Q' hS hi hR hd hK=>?_) ?_
   ·have hc:=hR.out.far (j:=23) (by kernel_rfl) hi;have h22:=hR.out 22 21 (by kernel_rfl) hi;have hI:=hS.k hc;go_simp;(go_wp2_with(refine(hA _).mono ?_;rintro e w2 ⟨⟨t,rfl,ht⟩,hb⟩));exact hK.out _ _ rfl (hS.made (CO (fun h=>absurd rfl h) (Cv fun _ _ h=>absurd h (by rw[h22];decide))) ⟨hI.1.next hB hb,hI.2.1.nx hb,hI.2.2.nx hb⟩ hc rfl ⟨t,rfl,ht⟩ rfl)
   (try simp only[pE]);refine AU.free (fun _=>rfl) (fun V L w1 K' Q' hS hi hR hd hK=>?_) ?_
   ·have hc:=hR.out 23 22 (by kernel_rfl) hi;obtain⟨t,hp,ht⟩:=hS.val hc rfl (hd.out 21 (by kernel_rfl)) hi;have hI:=hS.k hc;have hb:=AJ w1 (.cells #[.string z.n,.string t] 9);simp only[hp];go_simp;exact hK.out _ _ (by simp only[hp];rfl) (hS.made (CO (fun _ h=>absurd rfl h) (Cv fun h=>absurd rfl h)) ⟨hI.1.next hB hb,hI.2.1.nx hb,hI.2.2.nx hb⟩ hc rfl ⟨t,_,ht,rfl,Ae.alloc _ _ _⟩ rfl)
   (try simp only[pE]);refine AU.free (fun _=>rfl) (fun V L w1 K' Q' hS hi hR hd hK=>?_) ?_
   ·obtain⟨t,pb,ht,hp,hx⟩:=hS.val hi rfl (hd.out 22 (by kernel_rfl)) hi;have hI:=hS.k hi;refine Mc _ _ rfl rfl hI.2.2 [z.n,t] pb hp hx (by rw[DZ];omega) hI.1.sz (fun v' w' h1 h2=>?_);obtain⟨p5,m5,c5,rfl⟩:=h1.sl;exact hK.out _ _ rfl (GC.call ⟨_,_,_,rfl,h1.up (by rw[DZ];omega),hI.2.1.str h2,hI.1.str hB h2 (by decide)⟩)
   (try simp only[pE]);((refine AU.step (a1:=?_) (fun _=>rfl) (fun V L w1 K' Q' hS hi hR hd hK=>?_) ?_ ?_ ?_;rotate_left);(· (go_simp;(try simp only[pE]);exact hK.out _ (hS.keep rfl rfl)));(· (intro V;rfl));(· (exact fun L V V' Kt hl hv=>hv (23) (Classical.byContradiction fun h=>by have:=Kt (24) (23) (by kernel_rfl) (by simpa using h);rw[hl]at this;cases this))));refine AU.nil fun V w3 hS=>?_;obtain⟨p5,m5,c5,GX,ZM,LW,Pf⟩:=hS.done rfl;rw[GX]at ZM;simp only[GX];go_wp2_with fail;go_roundw;exact⟨j+1,by omega,by go_num,ZM,LW,Pf⟩;simp[intOf];omega
end Go.Proofs.YtlffomedflegdaaGreatDoor
