/- Part 14 of the proof: Ok, Ol, Om, On, Oo, Op, Oq. -/
import Derived.Test.YtlffomedflegdaaGreatDoorPc13
set_option linter.all false
set_option maxHeartbeats 16000000
set_option maxRecDepth 100000
namespace Go.Proofs.YtlffomedflegdaaGreatDoor
open Go.Proofs.Tryz
open Go.RowKit
variable {B N R c g k n s:Nat}{a:Addr}{e:TypeId}{f:Fn}{fr:List Fn}{l:List ByteArray}{lg wh:Int}{q:Pg}{u v:Value}{w w0:World}{xs:List Value}{α:Type}
section
open Word Num Dp
abbrev Bz(bl:List Bd):Prop:=∀x∈bl,x.n.size<=10000000/\x.a.s.size<=10000000
def VY(w w':World)(k n:Nat)(e:Ending):Prop:=∃(v:Value) (b:Bool) (bl:List Bd) (F:List Nat),e=.returned (.tuple #[v,.bool b])/\(∃p m c,v=.slice p m c)/\(b=true->k<=n/\bl.length<=n/\AZ w' w.heap.size 234 4 (bl.map nT) v F/\F.Nodup/\Bz bl)
theorem AAI:Qy 230 234 4 48:=.mk' (z:=.agg #[.string .empty,.int .i64 0,.string .empty,.int .i64 0]) underlying230 (by kernel_rfl) rfl (by decide)
theorem uP{pb:Nat}{x:Bd}(hb:Ae w pb [.string x.n,.int .i64 x.a.k,.string x.a.s,.int .i64 x.a.n]):Af w B (nT x) pb 0 []:=
 Af.of (AP.cc (hb.c 0 _ rfl) rfl (AP.ca (l:=[dN x.a.k,dS x.a.s,dN x.a.n]) (AP.cc (hb.c 1 _ rfl) rfl (AP.cc (hb.c 2 _ rfl) rfl (AP.cc (hb.c 3 _ rfl) rfl AP.cn))) AP.cn))
theorem row_one{m q:Nat}(h:Row DL 1 w (.slice (some a) n c) l)(hq:q+1<l.length)(hm:1<=m):Row DL 1 w (.slice (some ⟨a.block,a.off+(q+1),none⟩) 1 m) [l[q+1]]:=by
 have hz:Sz l[q+1]:=by
  obtain⟨_,_,e,-,-,hl⟩:=h;obtain⟨b,-,-,hz⟩:=hl (q+1) l[q+1] (by simp[hq]);exact hz
 obtain⟨b,e,hc⟩:=BQ h hq;obtain rfl:a=b:=by simpa using e
 refine⟨_,m,rfl,(fun e=>by cases e),⟨show 1<=140737488351232 by decide,hm⟩,fun i x hx=>⟨_,rfl,?_⟩⟩;have hi:i=0:=by have:=(List.getElem?_eq_some_iff.1 hx).1;simpa using this
 subst hi;obtain rfl:l[q+1]=x:=by simpa using hx
 rw[Nat.zero_mul];exact⟨by simpa[Addr.add]using hc,hz⟩
theorem Oi(h0:AA6 w0 w)(hl:Row DL 1 w0 u l)(hz:Wz l)(k:Nat)(hk:k<=100)(ob:Bool):Calls prog 237 #[u,.int .i64 (k:Int),.bool ob] w fun e w'=>VY w w' k l.length e/\AA6 w w':=by
 have hlr:=hl;obtain⟨p,c,rfl,-,⟨-,hcap⟩,-⟩:=hl;have hzl:=hz.1;go_enter func237,ntmps237;go_upto_region 2 with fail;go_cut[23]from 12 to 22 (fun v wx=>∃r:Bool,v=.bool r/\(r=false->k<=l.length/\(l.length-k)%2=0)/\wx=w)
 ·by_cases h1:l.length<k
  ·have Fw:(l.length:Int)<k:=(by omega);go_wp2;go_meet;exact⟨_,rfl,(fun h=>by cases h),rfl⟩
  ·have Fw:¬(l.length:Int)<k:=(by omega);go_wp2;go_meet
   ·exact⟨_,rfl,fun h=>⟨by omega,by
    have:((l.length:Int)-(k:Int))%2=0:=by simpa using h
    omega⟩,rfl⟩
 obtain⟨r,rfl,hr,rfl⟩:=hcut;cases r;rotate_left
 ·go_wp2;go_ret2;exact⟨⟨_,false,[],[],rfl,⟨none,0,0,rfl⟩,fun h=>by cases h⟩,AL⟩
 obtain⟨hr1,hr2⟩:=hr rfl;replace hr2:=Wx hr2;go_wp2;go_loopw[8,9,10,11] (fun v i _ _ wr=>∃(q:Nat) (bl:List Bd) (F:List Nat),q<=l.length/\i=.int .i64 (q:Int)/\Hid ((l.length-q)%2=0)/\bl.length<=q/\AZ wr wc.heap.size 234 4 (bl.map nT) v F/\F.Nodup/\Bz bl/\AA6 wc wr) (fun _ i _ _ _=>l.length-(intOf i).toNat);exact⟨k,[],[],hr1,rfl,hr2,AY,.nil,by simp,(fun a h=>by cases h),AL⟩;obtain⟨q,bl,F,hq,rfl,hmod,hbl,hv,hF,hbz,hb⟩:=hrel;obtain⟨wo,rfl⟩:=again wr;obtain⟨pv,cv,rfl⟩:=hv.slice;rw[List.length_map]at hv⊢;by_cases hend:q=l.length
 ·subst hend;go_wp2;go_ret2;exact⟨⟨_,true,bl,F,rfl,⟨_,_,_,rfl⟩,fun _=>⟨hr1,hbl,hv,hF,hbz⟩⟩,hb⟩
 ·have hlt2:q+2<=l.length:=by have:=hmod.out;omega
  have hlt:q<l.length:=by omega
  have A8:(q:Int)<l.length:=by omega
  have AGh:(q:Int)+2<=(c:Int):=by omega
  have hwx:IntKind.i64.wrap ((q:Int)+1)=((q+1:Nat):Int):=IntWalk.i64_in _ (by omega);have AJF:IntKind.i64.wrap ((q:Int)+2)=((q+2:Nat):Int):=IntWalk.i64_in _ (by omega);obtain⟨a,rfl,d0⟩:=CV hlr hlt;have hw:=AB h0 hb;replace d0:=AA hw d0;have hlt1:q+1<l.length:=by omega
  have hA:=FT hw (row_one hlr hlt1 (m:=c-(q+1)) (by omega)) ⟨show 1<=10000000 by decide,by simpa using Dl hz hlt1⟩ ob;go_wp2_with fail;refine hA.mono ?_;rintro e w2 ⟨⟨v1,b1,al,F1,rfl,⟨p1,m1,c1,rfl⟩,h1⟩,hb2⟩;have hn1:al.length=1\/b1=false:=by
   cases b1
   ·exact .inr rfl
   ·exact .inl (h1 rfl).1
  have d2:=AA hb2 d0;have hN:=Bn (Below.refl (w2.alloc (.cells #[.string l[q]] 9)).heap.size _) (DN (l:=[l[q]]) (Ae.alloc w2 [.string l[q]] 9) ⟨show 1<=10000000 by decide,by simpa using Dl hz hlt⟩);simp only[List.length_cons,List.length_nil,Nat.zero_add,List.all_cons,List.all_nil,Bool.and_true]at hN;have hzs:=Dl hz hlt;have hb3:=(AB hb hb2).alloc (AB hb hb2).size (.cells #[.string l[q]] 9);have hbn:=AB hb2 (AJ w2 (.cells #[.string l[q]] 9));replace hv:=hv.same (w':=w2.alloc (.cells #[.string l[q]] 9)) fun b hb'=>hbn.block b (hv.fp b hb').2;have d3:=AA hbn d0;have h2:b1=true->al.length=1/\AZ (w2.alloc (.cells #[.string l[q]] 9)) wo.heap.size 77 3 (al.map Ls) (.slice p1 m1 c1) F1/\Az al:=fun e=>by
   obtain⟨k1,k2,k3,k4⟩:=h1 e;exact⟨k1,k2.same fun b hb'=>Below.heap_alloc _ _ _ (k2.fp b hb').2,k4⟩
  generalize hs1:l[q]=s1 at*;generalize nm s1=nv at*;go_wp2_with fail;refine hN.mono ?_;rintro e w3 ⟨rfl,rfl⟩;generalize hW:w2.alloc _=W at*;have hno:VY wc W k l.length (.returned (.tuple #[.slice none 0 0,.bool false])):=⟨_,false,[],[],rfl,⟨none,0,0,rfl⟩,fun h=>by cases h⟩;cases nv
  ·go_wp2;go_ret2;exact⟨hno,hb3⟩
  cases b1
  ·go_wp2;go_ret2;exact⟨hno,hb3⟩
  obtain⟨k1,k2,k3⟩:=h2 rfl;obtain⟨x,rfl⟩:∃x,al=[x]:=List.length_eq_one_iff.1 k1;have hxz:x.s.size<=10000000:=k3 x (by simp)
  have hrow:=k2.view (E:=Lg) (ok:=VJ) MX (fun x g o f h1 h2=>vA h1 h2) (by unfold Ln;simp) (fun y hy=>by
   obtain rfl:=List.mem_singleton.1 hy;unfold VJ Sz
   omega)
  obtain⟨pa,ca,he,-,-,hat⟩:=hrow;obtain⟨ag,rfl,f0,⟨f1,-⟩,f2⟩:=hat 0 x rfl;obtain⟨rfl,rfl,rfl⟩:p1=some ag/\m1=1/\c1=ca:=by simpa using he
  rw[Nat.zero_mul]at f0 f1 f2;change W.cell? ag=_ at f0;change W.cell? ⟨ag.block,ag.off+1,none⟩=_ at f1;change W.cell? ⟨ag.block,ag.off+2,none⟩=_ at f2;have Fw:(0:Int)<((1:Nat):Int):=by decide
  replace hv:=hv.same (w':=W.drew) fun b hb'=>(Below.refl W.heap.size W).drew.block b (hv.fp b hb').2;have hbd:AA6 wc W.drew:=hb3.drew;go_wp2
  refine AV (S:=GC (fun v1=>AA6 W v1/\AZ v1 wc.heap.size 234 4 (bl.map nT) (.slice pv bl.length cv) F/\AA6 wc v1) (R1 9 10 (fun v v1=>∃pb,v=.slice (some ⟨pb,0,none⟩) 1 1/\Ae v1 pb [.string s1,.int .i64 x.k,.string x.s,.int .i64 x.n])) 10
   (fun v v1=>∃p c F',v=.slice p (bl.length+1) c/\AZ v1 wc.heap.size 234 4 ((bl++[(⟨s1,x⟩:Bd)]).map nT) v F'/\F'.Nodup/\AA6 wc v1)) rfl (by kernel_rfl) (GC.start ⟨(Below.refl W.heap.size W).drew,hv,hbd⟩) ?_
  iterate 9((apply AU.z rfl;intro V L w1 _ _ _ z hK;(try(have hc:=z.f 10 (by kernel_rfl);have hI:=z.s.k hc;(have e0:=AA hI.1 d3;have e1:=AA hI.1 f0;have e2:=AA hI.1 f1;have e3:=AA hI.1 f2)));go_simp;exact hK (z.s.keep rfl rfl);intros;rfl))
  refine AU.free (fun _=>rfl) (fun V L w1 K' Q' hS hi hR hd hK=>?_) ?_
  ·have hc:=hR.out 10 9 (by kernel_rfl) hi;have hI:=hS.k hc;have hb:=AJ w1 (.cells #[.string s1,.int .i64 x.k,.string x.s,.int .i64 x.n] 234);go_simp;(try simp only[pE]);exact hK.out _ _ rfl (hS.made (Cv fun h=>absurd rfl h) ⟨AB hI.1 hb,hI.2.1.same fun b hb'=>hb.block b (hI.2.1.fp b hb').2,AB hI.2.2 hb⟩ hc rfl ⟨_,rfl,Ae.alloc _ _ _⟩ rfl)
  (try simp only[pE]);refine AU.free (fun _=>rfl) (fun V L w1 K' Q' hS hi hR hd hK=>?_) ?_
  ·obtain⟨pb,hp,hx⟩:=hS.val hi rfl (hd.out 9 (by kernel_rfl)) hi;have hI:=hS.k hi;refine VZ AAI _ _ rfl rfl hI.2.1 hF hp hx (by simp[Value.oneCell']) (uP (x:=⟨s1,x⟩) hx) (by simp) (by simp) rfl rfl (by rw[List.length_map];omega) (by decide) hI.2.2.size ?_;rintro v' w3 F' ⟨N7,Nh,rfl⟩ h1 h2 h3 h4 h5;rw[List.length_map]at h1⊢;exact hK.out _ _ rfl (GC.call ⟨_,_,F',rfl,by rw[List.map_append];exact h1,h2,hI.2.2.trans h5⟩)
  (try simp only[pE]);((refine AU.step (a1:=?_) (fun _=>rfl) (fun V L w1 K' Q' hS hi hR hd hK=>?_) ?_ ?_ ?_;rotate_left);(· (go_simp;(try simp only[pE]);exact hK.out _ (hS.keep rfl rfl)));(· (intro V;rfl));(· (exact fun L V V' Kt hl hv=>hv (10) (Classical.byContradiction fun h=>by have:=Kt (11) (10) (by kernel_rfl) (by simpa using h);rw[hl]at this;cases this))));refine AU.nil fun V w4 hS=>?_;obtain⟨p5,c5,F',GX,hv4,gM,hb4⟩:=hS.done rfl;rw[GX]at hv4;simp only[GX];have AEB:Bz (bl++[(⟨s1,x⟩:Bd)]):=fun y hy=>by
   rcases List.mem_append.1 hy with h|h
   ·exact hbz y h
   ·rw[List.mem_singleton.1 h];exact⟨hzs,hxz⟩
  have hl4:(bl++[(⟨s1,x⟩:Bd)]).length=bl.length+1:=by simp
  rw[<-hl4]at hv4⊢;generalize bl++[(⟨s1,x⟩:Bd)]=bl2 at*;go_wp2;go_roundw;exact⟨q+2,bl2,F',by omega,by go_num,Wx (by have:=hmod.out;omega),by omega,hv4,gM,AEB,hb4⟩;simp[intOf];omega
end
section
open Word Num Dp
def Rw{α:Type}(k:Nat)(P:α->Prop)(l:List α):Prop:=l.length<=k/\∀v∈l,P v
theorem Rw.nil{P:α->Prop}:Rw k P []:=by simp[Rw]
theorem Rw.up{k':Nat}{P P':α->Prop}{l:List α}(h:Rw k P l)(hk:k<=k')(hP:∀v,P v->P' v):Rw k' P' l:=by grind [Rw]
theorem Rw.snoc{P P':α->Prop}{l:List α}(h:Rw k P l)(hP:∀v,P v->P' v){x:α}(hx:P' x):Rw (k+1) P' (l++[x]):=by grind [Rw]
theorem Rw.last{P:α->Prop}{l:List α}{x:α}(h:Rw k P (l++[x])):P x:=h.2 x (by simp)
theorem Rw.turn{k':Nat}{P P':α->Prop}{l:List α}{x y:α}(h:Rw k P (l++[x]))(hk:k<=k')(hP:∀v,P v->P' v)(hy:P' y):Rw k' P' (l++[y]):=by grind [Rw]
abbrev Tz(s:ByteArray):Prop:=s.size<=10000000
def um(x:Vr):Prop:=Tz x.n/\Tz x.t
def QW(k:Nat)(x:Cl):Prop:=nm x.n=true/\Tz x.n/\Rw k um x.fs
def qEx(x:Ex):Prop:=nm x.n=true/\Tz x.n
def qAg(x:Ag):Prop:=Tz x.s
def qBd(x:Bd):Prop:=Tz x.n/\Tz x.a.s
def qFr(x:Fr):Prop:=Tz x.f/\Tz x.b/\Rw 10000000 qBd x.vs
def qVt(x:Vt):Prop:=Tz x.c/\Rw 10000000 qAg x.vs
def gG(k:Nat)(x:Is):Prop:=RP x/\Tz x.d/\Tz x.n/\Rw 10000000 qAg x.as/\Rw k qFr x.fr/\Rw k qVt x.ob
def qIn(x:TH):Prop:=Tz x.b/\Tz x.a.s
def qPh(x:Ph):Prop:=Tz x.d/\Rw 10000000 qIn x.is
def qTm(x:Tm):Prop:=(x.k=1->x.to.length=1)/\(x.k=2->x.to.length=2)/\Tz x.a.s/\Rw 10 Tz x.to
def WI(k:Nat)(x:Bk):Prop:=Tz x.n/\Rw k qPh x.ps/\Rw k (gG k) x.cs/\qTm x.e
def QV(k:Nat)(x:Fn):Prop:=Tz x.n/\Tz x.r/\Rw k um x.ps/\Rw k um x.vs/\Rw k (WI k) x.bs
def WH(k:Nat)(x:Pg):Prop:=Rw k (QW k) x.cs/\Rw k um x.gs/\Rw k qEx x.xs/\Rw k (QV k) x.fs
section
variable {k k' : Nat} (hk : k <= k')
include hk
theorem QW.up{x:Cl}(h:QW k x):QW k' x:=⟨h.1,h.2.1,h.2.2.up hk fun _ h=>h⟩
theorem gG.up{x:Is}(h:gG k x):gG k' x:=⟨h.1,h.2.1,h.2.2.1,h.2.2.2.1,h.2.2.2.2.1.up hk fun _ h=>h,h.2.2.2.2.2.up hk fun _ h=>h⟩
theorem WI.up{x:Bk}(h:WI k x):WI k' x:=⟨h.1,h.2.1.up hk fun _ h=>h,h.2.2.1.up hk fun _ h=>gG.up hk h,h.2.2.2⟩
theorem QV.up{x:Fn}(h:QV k x):QV k' x:=⟨h.1,h.2.1,h.2.2.1.up hk fun _ h=>h,h.2.2.2.1.up hk fun _ h=>h,h.2.2.2.2.up hk fun _ h=>WI.up hk h⟩
theorem WH.up{x:Pg}(h:WH k x):WH k' x:=⟨h.1.up hk fun _ h=>QW.up hk h,h.2.1.up hk fun _ h=>h,h.2.2.1.up hk fun _ h=>h,h.2.2.2.up hk fun _ h=>QV.up hk h⟩
end
theorem Tz.sz{s:ByteArray}(h:Tz s):Sz s:=by grind
theorem Rw.ln{P:α->Prop}{l:List α}(h:Rw k P l)(hk:k<=10000000):Ln l:=by have:=h.1;unfold Ln;omega
theorem um.o{x:Vr}(h:um x):oq x:=⟨h.1.sz,h.2.sz⟩
theorem WH.o(hk:k<=10000000){x:Pg}(h:WH k x):oPg x:=by
 have m:(10000000:Nat)<=10000000:=AQ;refine⟨⟨h.1.ln hk,fun c hc=>?_⟩,⟨h.2.1.ln hk,fun v hv=>(h.2.1.2 v hv).o⟩,⟨h.2.2.1.ln hk,fun v hv=>(h.2.2.1.2 v hv).2.sz⟩,h.2.2.2.ln hk,fun f hf=>?_⟩
 ·obtain⟨h1,h2,h3⟩:=h.1.2 c hc;exact⟨h2.sz,h3.ln hk,fun v hv=>(h3.2 v hv).o⟩
 ·obtain⟨h1,h2,h3,h4,h5⟩:=h.2.2.2.2 f hf;refine⟨h1.sz,h2.sz,⟨h3.ln hk,fun v hv=>(h3.2 v hv).o⟩,⟨h4.ln hk,fun v hv=>(h4.2 v hv).o⟩,h5.ln hk,fun b hb=>?_⟩;obtain⟨g1,g2,g3,g4⟩:=h5.2 b hb;refine⟨g1.sz,⟨g2.ln hk,fun x hx=>?_⟩,⟨g3.ln hk,fun x hx=>?_⟩,g4.2.2.1.sz,g4.2.2.2.ln (by decide),fun s hs=>(g4.2.2.2.2 s hs).sz⟩
  ·obtain⟨i1,i2⟩:=g2.2 x hx;exact⟨i1.sz,i2.ln m,fun y hy=>⟨(i2.2 y hy).1.sz,(i2.2 y hy).2.sz⟩⟩
  ·obtain⟨-,i2,i3,i4,i5,i6⟩:=g3.2 x hx;refine⟨i2.sz,i3.sz,⟨i4.ln m,fun y hy=>(i4.2 y hy).sz⟩,⟨i5.ln hk,fun y hy=>?_⟩,i6.ln hk,fun y hy=>?_⟩
   ·obtain⟨j1,j2,j3⟩:=i5.2 y hy;exact⟨j1.sz,j2.sz,j3.ln m,fun z hz=>⟨(j3.2 z hz).1.sz,(j3.2 z hz).2.sz⟩⟩
   ·obtain⟨j1,j2⟩:=i6.2 y hy;exact⟨j1.sz,j2.ln m,fun z hz=>(j2.2 z hz).sz⟩
structure qSt(q:Pg)(wh:Int):Prop where
 r:0<=wh/\wh<=9
 c:wh=1->q.cs≠ []
 f:3<=wh->q.fs≠ []
 b:5<=wh->wh<=8->∃fr f br b,q.fs=fr++[f]/\f.bs=br++[b]
 i:7<=wh->wh<=8->∃fr f br b cr x,q.fs=fr++[f]/\f.bs=br++[b]/\b.cs=cr++[x]
def IL(q:Pg)(wh lg:Int):Dt:=.agg [Qk q,dN wh,dN lg]
structure Ct(w:World)(B N R:Nat)(q:Pg)(wh lg:Int)(k:Nat):Prop where
 own:Own w B N (IL q wh lg) R 0
 typ:∃cur,w.heap[R]? =some (.cells cur 247 (0,0))
 qq:WH k q
 ss:qSt q wh
 kk:k<=5000000
 ll:0<=lg/\lg<=k
theorem Vv{s:ByteArray}(h:nm s=true):s≠BA/\s≠Ao/\s≠Fx/\s≠Bv:=by
 refine⟨?_,?_,?_,?_⟩<;>(intro e;subst e;revert h;decide)
def DC(w:World)(g:Nat)(e:TypeId):Prop:=∃cur,w.heap[g]? =some (.cells cur e (0,0))
section
variable {w w1 : World} {B N R g : Nat} {q q' : Pg} {wh lg : Int} {k : Nat} {e T : TypeId}
theorem DC.Bw(h:DC w g e)(i:Nat):w.frozen? ⟨g,i,none⟩=false:=by
 obtain⟨cur,e⟩:=h;unfold World.frozen?;grind
theorem DC.lt(h:DC w g e):g<w.heap.size:=by grind [DC]
theorem DC.nx(h:DC w g e)(hb:AA6 w w1):DC w1 g e:=by
 have hl:=h.lt;obtain⟨cur,h⟩:=h;exact⟨cur,(hb.block g hl).trans h⟩
theorem QE(h:w.ownsRow B e s (.slice (some ⟨g,0,none⟩) n c) n xs):DC w g e:=by
 rcases h.2 with⟨h1,_⟩|⟨g',cap,cur,h1,_,h2,_⟩
 ·cases h1
 ·obtain rfl:g=g':=by simpa using(Value.slice.inj h1).1
  exact⟨cur,h2⟩
theorem own_ne(h:w.ownsRow B e s v n xs)(hT:DC w g T)(hne:T≠e):v.ownBlock≠some g:=fun e1=>by
 obtain⟨cur,hT⟩:=hT;rcases h.2 with⟨rfl,_⟩|⟨g',cap,cur',rfl,_,h2,_⟩
 ·cases e1
 ·obtain rfl:g'=g:=by simpa[Value.ownBlock]using e1
  rw[hT]at h2;injection h2 with h2;injection h2 with _ h2;exact hne h2
theorem Ed(h:w.ownsRow B e s v n xs)(hg:g<B):v.ownBlock≠some g:=fun e1=>by
 have:=(h.lt g e1).1;omega
theorem Ct.kp(h:Ct w B N R q wh lg k)(hb:AA6 w w1):Ct w1 B N R q wh lg k:=⟨h.own.kp (hb.mono h.own.sz),DC.nx h.typ hb,h.qq,h.ss,h.kk,h.ll⟩
theorem Ct.Bw(h:Ct w B N R q wh lg k)(i:Nat):w.frozen? ⟨R,i,none⟩=false:=DC.Bw h.typ i
theorem Ct.lt(h:Ct w B N R q wh lg k):R<w.heap.size:=by grind [cases Ct]
theorem Ct.cw(h:Ct w B N R q wh lg k):w.cell? ⟨R,5,none⟩=some (.int .i64 wh):=by
 have s0:=h.own.spot;unfold IL at s0;exact Aq.cell (s0.nth 1 rfl (n:=5) (by simp[Dt.DF,Ig]))
theorem Ct.cl(h:Ct w B N R q wh lg k):w.cell? ⟨R,6,none⟩=some (.int .i64 lg):=by
 have s0:=h.own.spot;unfold IL at s0;exact Aq.cell (s0.nth 2 rfl (n:=6) (by simp[Dt.DF,Dt.wd,Ig,dN]))
theorem Ct.ssa(h:Ct w B N R q wh lg k):w.cell? ⟨R,0,none⟩=some (.bool q.ssa):=by
 have s0:=h.own.spot;unfold IL at s0;have s1:=s0.nth 0 rfl rfl;unfold Qk at s1;exact Aq.cell (s1.nth 0 rfl rfl)
theorem Ew{cur:Array Value}(e1:w.heap[R]? =some (.cells cur T (0,0)))(a:Addr)(v:Value):DC (w.setCell a v) R T:=by
 by_cases h:a.block=R
 ·subst h;unfold DC World.setCell;simp only[Array.getElem?_modify,if_true,e1,Option.map_some];split<;>exact⟨_,rfl⟩
 ·exact⟨cur,(Below.heap_setCell _ _ _ _ (fun e=>h e.symm)).trans e1⟩
theorem Ct.setW(h:Ct w B N R q wh lg k)(n:Int)(hs:qSt q n):Ct (w.setCell ⟨R,5,none⟩ (.int .i64 n)) B N R q n lg k:=by
 have s0:=h.own.spot;unfold IL at s0;have s1:=s0.nth 1 rfl (n:=5) (by simp[Dt.DF,Ig]);obtain⟨cur,ht⟩:=h.typ;exact⟨s1.set1 (v1:=.int .i64 n) rfl,Ew ht _ _,h.qq,hs,h.kk,h.ll⟩
theorem Ct.qH(h:Ct w B N R q wh lg k)(n:Int)(hn:0<=n/\n<=k):Ct (w.setCell ⟨R,6,none⟩ (.int .i64 n)) B N R q wh n k:=by
 have s0:=h.own.spot;unfold IL at s0;have s1:=s0.nth 2 rfl (n:=6) (by simp[Dt.DF,Dt.wd,Ig,dN]);obtain⟨cur,ht⟩:=h.typ;exact⟨s1.set1 (v1:=.int .i64 n) rfl,Ew ht _ _,h.qq,h.ss,h.kk,hn⟩
theorem Ct.up(h:Ct w B N R q wh lg k)(hk:k+1<=5000000):Ct w B N R q wh lg (k+1):=⟨h.own,h.typ,WH.up (Aa) h.qq,h.ss,hk,by have:=h.ll;omega⟩
theorem Ct.low(h:Ct w B N R q wh lg k)(v:Value)(i:Nat):Below B w (w.setCell ⟨R,i,none⟩ v):=(AL).setCell h.own.ge v
theorem Ct.sp(h:Ct w B N R q wh lg k):Aq w B N (IL q wh lg) R 0 (Qk q) R 0 (fun y=> .agg [y,dN wh,dN lg]):=by
 have s0:=h.own.spot;unfold IL at s0;exact s0.nth 0 rfl rfl
end
theorem Ad.Yq{W:World}{bs ap st g0 o0:Nat}{one:List Value}{V:Nat->Value}{L:Nat->Bool}{q':Pg}{l:List Dt}{d:Dt}{F:Dt->Dt}(h:Ad W B e s bs ap st one n xs v ⟨g0,o0,none⟩ V L w) (ha:L ap=true) (hst:L st=true) (hR:Ct W B N R q wh lg k) (h0:Aq W B N (IL q wh lg) R 0 (.row e s l) g0 o0 F) (hc:W.cell? ⟨g0,o0,none⟩=some v) (hx:W.ownsRow B e s v n xs) (hn:n=l.length) (he:247≠e)(hd:∀w1 pb,AA6 W w1->Ae w1 pb one->∃fd,Af w1 N d pb 0 fd/\fd.Nodup) (hdw:d.wd=s) (h1:one.length=s) (hF:F (.row e s (l++[d]))=IL q' wh lg) (hq:WH (k+1) q') (hs:qSt q' wh) (hk:k+1<=5000000):Ct w B w.heap.size R q' wh lg (k+1)/\Below B W w:=by
 obtain⟨⟨N',ho⟩,hb,-,w2,u,hw,hg2⟩:=h.done ha hst h0 (AL) hc hx hn (fun w1 pb a1 a2 a3 a4=>hd w1 pb a1 a4) hdw h1;have hown:v.ownBlock≠some R:=own_ne hx hR.typ he;refine⟨⟨(hF▸ho).up ho.sz (AQ),?_,hq,hs,hk,by have:=hR.ll;omega⟩,hb⟩;obtain⟨cur,ht⟩:=hR.typ;by_cases hg:g0=R
 ·subst hg hw;exact Ew (hg2.trans ht) _ _
 ·exact⟨cur,(h.far ha hst (fun e=>hg e.symm) hown hR.lt).trans ht⟩
end
section
open Word Num Dp
def Gb(w:World)(B R k:Nat)(e:Ending)(w':World):Prop:=∃(b:Bool) (why:Int),e=.returned (.tuple #[.bool b,.int .i64 why])/\(b=true->why=0->∃N q wh lg,Ct w' B N R q wh lg (k+1))/\(b=false->AA6 w w')
theorem ABJ{w':World}{n:Int}(h:n≠0):Gb w B R k (.returned (.tuple #[.bool true,.int .i64 n])) w':=⟨_,_,rfl,(fun _ e=>absurd e h),fun e=>by cases e⟩
def mR(wh:Int)(e:Ending):Prop:=∃b:Bool,e=.returned (.bool b)/\(b=true->wh<=2\/wh=9)
def uX(wh:Int)(e:Ending):Prop:=∃b:Bool,e=.returned (.bool b)/\(b=true->5<=wh/\wh<=8)
theorem Ey(hR:Ct w B N R q wh lg k):Calls prog 169 #[.pointer (some ⟨R,0,none⟩)] w fun e w'=>mR wh e/\w=w':=by
 have c:=hR.cw;go_enter func169,ntmps169
 cases h1:decide (wh<=2)with
 |true=>
  go_wp2;go_ret
  exact⟨⟨_,rfl,fun _=> .inl (BK h1)⟩,rfl⟩
 |false=>
  go_wp2;go_ret;exact⟨⟨_,rfl,fun h=> .inr (by simpa using h)⟩,rfl⟩
theorem Hu(hR:Ct w B N R q wh lg k):Calls prog 232 #[.pointer (some ⟨R,0,none⟩)] w fun e w'=>uX wh e/\w=w':=by
 have c:=hR.cw;go_enter func232,ntmps232
 cases h1:decide (5<=wh)with
 |true=>
  have h2:=BK h1;go_wp2;go_ret
  exact⟨⟨_,rfl,fun h=>⟨h2,by simpa using h⟩⟩,rfl⟩
 |false=>
  go_wp2;go_ret;exact⟨⟨_,rfl,fun h=>by cases h⟩,rfl⟩
section
variable {w : World} {B N R : Nat} {q : Pg} {wh lg : Int} {k : Nat}
theorem Ct.IV(h:Ct w B N R q wh lg k):∃v xs,w.cell? ⟨R,1,none⟩=some v/\w.ownsRow B 153 2 v q.cs.length xs/\(∃p c,v=.slice p q.cs.length c)/\∃F,Aq w B N (IL q wh lg) R 0 (.row 153 2 (q.cs.map gP)) R 1 F/\∀l,F (.row 153 2 (l.map gP))=IL {q with cs:=l} wh lg:=by
 have s0:=h.sp;unfold Qk at s0;have s1:=s0.nth 1 rfl (n:=1) (by simp[Dt.DF,Dt.wd]);rw[Nat.zero_add]at s1;obtain⟨v,xs,h1,h2,h3⟩:=s1.owns;rw[List.length_map]at h2 h3;exact⟨v,xs,h1,h2,h3,_,s1,fun l=>rfl⟩
theorem Ct.ADU(h:Ct w B N R q wh lg k):∃v xs,w.cell? ⟨R,2,none⟩=some v/\w.ownsRow B 71 2 v q.gs.length xs/\(∃p c,v=.slice p q.gs.length c)/\∃F,Aq w B N (IL q wh lg) R 0 (.row 71 2 (q.gs.map IQ)) R 2 F/\∀l,F (.row 71 2 (l.map IQ))=IL {q with gs:=l} wh lg:=by
 have s0:=h.sp;unfold Qk at s0;have s1:=s0.nth 2 rfl (n:=2) (by simp[Dt.DF,Dt.wd]);rw[Nat.zero_add]at s1;obtain⟨v,xs,h1,h2,h3⟩:=s1.owns;rw[List.length_map]at h2 h3;exact⟨v,xs,h1,h2,h3,_,s1,fun l=>rfl⟩
theorem Ct.ADT(h:Ct w B N R q wh lg k):∃v xs,w.cell? ⟨R,3,none⟩=some v/\w.ownsRow B 155 2 v q.xs.length xs/\(∃p c,v=.slice p q.xs.length c)/\∃F,Aq w B N (IL q wh lg) R 0 (.row 155 2 (q.xs.map nS)) R 3 F/\∀l,F (.row 155 2 (l.map nS))=IL {q with xs:=l} wh lg:=by
 have s0:=h.sp;unfold Qk at s0;have s1:=s0.nth 3 rfl (n:=3) (by simp[Dt.DF,Dt.wd]);rw[Nat.zero_add]at s1;obtain⟨v,xs,h1,h2,h3⟩:=s1.owns;rw[List.length_map]at h2 h3;exact⟨v,xs,h1,h2,h3,_,s1,fun l=>rfl⟩
theorem Ct.Tc(h:Ct w B N R q wh lg k):∃v xs,w.cell? ⟨R,4,none⟩=some v/\w.ownsRow B 66 5 v q.fs.length xs/\(∃p c,v=.slice p q.fs.length c)/\∃F,Aq w B N (IL q wh lg) R 0 (.row 66 5 (q.fs.map dFn)) R 4 F/\∀l,F (.row 66 5 (l.map dFn))=IL {q with fs:=l} wh lg:=by
 have s0:=h.sp;unfold Qk at s0;have s1:=s0.nth 4 rfl (n:=4) (by simp[Dt.DF,Dt.wd]);rw[Nat.zero_add]at s1;obtain⟨v,xs,h1,h2,h3⟩:=s1.owns;rw[List.length_map]at h2 h3;exact⟨v,xs,h1,h2,h3,_,s1,fun l=>rfl⟩
end
theorem Bg(h:Row DL 1 w (.slice (some a) n c) l)(hq:0<l.length):w.cell? a=some (.string l[0]):=by
 obtain⟨b,e,h1⟩:=CV h hq;obtain rfl:a=b:=by simpa using e
 simpa[Addr.add]using h1
theorem AAH:(prog.info? 153).map (fun i=>(i.zero,i.size,i.bytes))=some (some (.agg #[.string .empty,.slice none 0 0]),2,40):=by kernel_rfl
theorem U3(h0:AA6 w0 w)(hR:Ct w B N R q wh lg k)(hB:w0.heap.size<=B)(hk:k+1<=5000000)(hl:Row DL 1 w0 u l)(hz:Wz l)(hp:0<l.length)(hw:l[0]=⟨#[99,108,97,115,115]⟩):Calls prog 213 #[.pointer (some ⟨R,0,none⟩),u] w fun e w'=>Gb w B R k e w'/\Below B w w':=by
 obtain⟨p,c,rfl⟩:=hl.slice;obtain⟨a,rfl,-⟩:=CV hl hp;have d0:=AA h0 (Bg hl hp);rw[hw]at d0;have PV:(0:Int)<l.length:=by omega
 have hBw:B<=w.heap.size:=by have:=hR.own.ge;have:=hR.lt;omega
 go_enter func213,ntmps213;go_upto_region 3 with fail;go_cut[34]from 19 to 33 (fun v wx=>∃r:Bool,v=.bool r/\(r=false->(wh<=2\/wh=9)/\l.length=2/\nm (l.getD 1 Bv)=true)/\AA6 w wx)
 ·have hO:=Ey hR;go_wp2_with fail;refine hO.mono ?_;rintro e w2 ⟨⟨b,rfl,hb0⟩,rfl⟩;cases b
  ·go_wp2;go_meet;exact⟨_,rfl,(fun h=>by cases h),AL⟩
  replace hb0:=hb0 rfl
  cases h2:((l.length:Int) !=2)with
  |true=>
   go_wp2;go_meet
   exact⟨_,rfl,(fun h=>by cases h),AL⟩
  |false=>
   have hl2:l.length=2:=by
    have:(l.length:Int)=2:=(by simpa using h2);omega
   have C8:1<l.length:=(by omega);have Fw:(1:Int)<l.length:=(by omega);obtain⟨a',ea,d1⟩:=BQ hl (q:=0) C8;obtain rfl:a=a':=(by simpa using ea);simp only[Nat.zero_add]at d1;replace d1:=AA h0 d1;have hg:l.getD 1 Bv=l[1]:=(by rw[List.getD_eq_getElem?_getD,List.getElem?_eq_getElem C8];rfl);have hz1:=Dl hz C8;have hb:=AJ w (.cells #[.string l[1]] 9);have hN:=Bn (Below.refl (w.alloc (.cells #[.string l[1]] 9)).heap.size _) (DN (l:=[l[1]]) (Ae.alloc w [.string l[1]] 9) ⟨show 1<=10000000 by decide,by simpa using hz1⟩);simp only[List.length_cons,List.length_nil,Nat.zero_add,List.all_cons,List.all_nil,Bool.and_true]at hN;rw[<-hg]at hN d1 hb;generalize l.getD 1 Bv=s1 at*;replace hl2:=Wx hl2;generalize hv:nm s1=v at*;clear hg hO;go_wp2_with fail;refine hN.mono ?_;rintro e w3 ⟨rfl,rfl⟩;cases v
   ·go_wp2;go_meet;exact⟨_,rfl,(fun h=>by cases h),hb⟩
   ·go_wp2;go_meet;exact⟨_,rfl,(fun _=>⟨hb0,hl2.out,by trivial⟩),hb⟩
 obtain⟨r,rfl,hr,hb⟩:=hcut;replace hR:=hR.kp hb;have hBb:=hb.mono hBw;cases r;rotate_left
 ·go_wp2;go_ret2;exact⟨ABJ (by decide),hBb⟩
 obtain⟨WJ,hl2,hnm⟩:=hr rfl;have BO:=hR.kp (Below.refl wc.heap.size wc).drew;obtain⟨vc,xs,hc,hox,⟨pc,cc,rfl⟩,F,hsp,hF⟩:=BO.IV;have hc':wc.cell? ⟨R,1,none⟩=some (.slice pc q.cs.length cc):=hc;have Qi:=fun w=>D8 (q.cs.length:Int) 8 w;go_wp2_with fail;refine(Qi _).mono ?_;rintro e w3 ⟨⟨r,rfl,hr2⟩,rfl⟩;by_cases hr0:r=0;rotate_left
 ·have ADk:(r==0)=false:=by simpa using hr0
  go_wp2;go_ret2;exact⟨⟨_,_,rfl,(fun _ h=>absurd h hr0),fun h=>by cases h⟩,hBb⟩
 subst hr0;have hl8:=hr2 rfl;have C8:1<l.length:=by omega
 have Fw:(1:Int)<l.length:=by omega
 obtain⟨a',ea,d1⟩:=BQ hl (q:=0) C8;obtain rfl:a=a':=by simpa using ea
 simp only[Nat.zero_add]at d1;replace d1:=AA (AB h0 hb) d1;have hag:a.block<B:=A9 (World.block_lt_of_cell? w0 _ (Bg hl hp)) hB;have hg:l.getD 1 Bv=l[1]:=by rw[List.getD_eq_getElem?_getD,List.getElem?_eq_getElem C8];rfl
 have hz1:Tz l[1]:=Dl hz C8;rw[hg]at hnm;generalize l[1]=s1 at*;have EY:(Value.slice pc q.cs.length cc).ownBlock≠some R:=own_ne hox BO.typ (by decide);have DT:(Value.slice pc q.cs.length cc).ownBlock≠some a.block:=Ed hox hag;have hfz:=BO.Bw 1;have hlt:=BO.lt;have hsz:B<=wc.drew.heap.size:=AX hBw hb.size;replace hnm:=Wx hnm;go_wp2;clear hc';refine AV (S:=Ad wc.drew B 153 2 10 11 15 [.string s1,.slice none 0 0] q.cs.length xs (.slice pc q.cs.length cc) ⟨R,1,none⟩) rfl (by kernel_rfl) (Ad.start (AL)) ?_;iterate 10((apply AU.z rfl;intro V L w1 _ _ _ z hK;(try(have hs:=z.f 15 (by kernel_rfl);(have c1:=z.s.cellOf hs hc EY;have c2:=z.s.cellOf hs (show wc.drew.cell? ⟨a.block,a.off+1,none⟩=some (.string s1)from d1) DT)));go_simp;exact hK (z.s.keep rfl rfl rfl);intros;rfl))
 (apply AU.w rfl;intro V L w1 _ _ _ z hK;go_simp;exact hK rfl (z.s.made (z.o 11 (by kernel_rfl)) rfl _);(try simp only[pE]));(refine AU.free (fun _=>rfl) (fun V L w1 _ _ hS hi hR hd hK=>hS.go hi (hR.out (15) _ (by kernel_rfl) hi) (hd.out (10) (by kernel_rfl)) (AAH) (underlying22) (hox) rfl rfl rfl rfl rfl rfl (by decide) (by simp[Value.oneCell']) (by unfold maxLen;omega) fun v' w' h=>hK.out _ _ rfl h) ?_;(try simp only[pE]));iterate 3((apply AU.z rfl;intro V L w1 _ _ _ z hK;(try(have hs:=z.f 15 (by kernel_rfl);(skip)));go_simp;exact hK (z.s.keep rfl rfl rfl);intros;rfl))
 (apply AU.val undef (fun _=>rfl);intro V L w1 _ _ hS hi hR hd hK;have ha:=hd.out (11) (by kernel_rfl);(have cs:=hS.cellOf hi hc EY;have fs:=hS.EA hi (o:=1) hlt hfz EY);have hS2:=hS.stored ha hi rfl;obtain⟨pu,ku,CX⟩:=hS.val ha;rw[CX]at hS2;simp only[CX];go_simp;exact hK.out _ _ (by simp only[CX];rfl) hS2;simp only[Act.put]);refine AU.nil fun V w1 hS=>?_;obtain⟨Dc,hb4⟩:=hS.Yq (d:=gP ⟨s1,[]⟩) (q':={q with cs:=q.cs++[⟨s1,[]⟩]}) rfl rfl BO hsp hc hox (by simp) (by decide) (fun w1 pb _ hx=>⟨[]++[],Af.of (AP.cc (hx.c 0 _ rfl) rfl (AP.cr (l:=[]) (hx.c 1 _ rfl) AZ.nil AP.cn)),by simp⟩) rfl rfl (by rw[<-hF,List.map_append];rfl) ⟨BO.qq.1.snoc (fun _ h=>QW.up (Aa) h) ⟨hnm.out,hz1,Rw.nil⟩,BO.qq.2.1.up (Aa) fun _ h=>h,BO.qq.2.2.1.up (Aa) fun _ h=>h,BO.qq.2.2.2.up (Aa) fun _ h=>QV.up (Aa) h⟩ ⟨BO.ss.r,(fun _=>by simp),BO.ss.f,(fun h1 h2=>by omega),fun h1 h2=>by omega⟩ hk;have hb5:=(hBb.trans ((Below.refl wc.heap.size wc).drew.mono (AX hBw hb.size))).trans hb4;have c5:=Dc.cw;have f5:=Dc.Bw 5;have CS:=Dc.setW 1 ⟨by omega,(fun _=>by simp),(fun h=>absurd h (by decide)),(fun h=>absurd h (by decide)),fun h=>absurd h (by decide)⟩;have hb6:=hb5.trans (Dc.low (.int .i64 1) 5);go_wp2;go_ret2;exact⟨⟨_,_,rfl,(fun _ _=>⟨_,_,_,_,CS⟩),fun h=>by cases h⟩,hb6⟩
end
section
open Word Num Dp
section
variable {w : World} {B N R : Nat} {q : Pg} {wh lg : Int} {k : Nat}
theorem Gi{o g0 o0:Nat}{d:Dt}{l1 l2:List Dt}{x:Dt}{F:Dt->Dt}(h:Aq w B N d g o (.row e s (l1++x::l2)) g0 o0 F):∃g' cap,w.cell? ⟨g0,o0,none⟩=some (.slice (some ⟨g',0,none⟩) (l1.length+1+l2.length) cap)/\DC w g' e/\B<=g'/\Aq w B N d g o x g' (l1.length*s) (fun y=>F (.row e s (l1++y::l2))):=by
 obtain⟨g',cap,h1,-,-,h2⟩:=h.row;obtain⟨v,xs,h3,h4,-⟩:=h.owns;rw[h1]at h3;obtain rfl:_=v:=by simpa using h3
 rw[show(l1++x::l2).length=l1.length+1+l2.length by simp;omega]at h4;exact⟨g',cap,h1,QE h4,h2.at.1,h2⟩
structure Ji(w:World)(B N R:Nat)(q:Pg)(wh lg:Int)(g o:Nat)(e:TypeId)(s:Nat)(l:List Dt)(n:Nat)(F:Dt->Dt)(v:Value)(xs:List Value):Prop where
 rc:w.cell? ⟨g,o,none⟩=some v
 rx:w.ownsRow B e s v n xs
 rs:∃p c,v=.slice p n c
 rp:Aq w B N (IL q wh lg) R 0 (.row e s l) g o F
 rn:n=l.length
theorem rowAt{o:Nat}{l:List Dt}{F:Dt->Dt}(h:Aq w B N (IL q wh lg) R 0 (.row e s l) g o F)(hn:n=l.length):∃v xs,Ji w B N R q wh lg g o e s l n F v xs:=by
 obtain⟨v,xs,h1,h2,h3⟩:=h.owns;subst hn;exact⟨v,xs,h1,h2,h3,h,rfl⟩
theorem Ct.AAS(h:Ct w B N R q wh lg k){cr:List Cl}{c0:Cl}(hq:q.cs=cr++[c0]):∃CB cap F v xs,w.cell? ⟨R,1,none⟩=some (.slice (some ⟨CB,0,none⟩) (cr.length+1) cap)/\DC w CB 153/\Ji w B N R q wh lg CB (cr.length*2+1) 71 2 (c0.fs.map IQ) c0.fs.length F v xs/\∀l,F (.row 71 2 (l.map IQ))=IL {q with cs:=cr++[{c0 with fs:=l}]} wh lg:=by
 obtain⟨_,_,_,_,_,F,s1,hF⟩:=h.IV;rw[hq,List.map_append,List.map_singleton]at s1;obtain⟨CB,cap,h1,h2,-,s2⟩:=Gi s1;rw[List.length_map]at h1 s2;have s3:=Aq.nth (l:=[dS c0.n,.row 71 2 (c0.fs.map IQ)]) s2 1 rfl (n:=1) (by simp[Dt.DF,Dt.wd,dS]);obtain⟨v,xs,hr⟩:=rowAt s3 (n:=c0.fs.length) (by simp);have key:∀c':Cl,F (.row 153 2 (cr.map gP++[gP c']))=IL {q with cs:=cr++[c']} wh lg:=fun c'=>by
  rw[<-hF (cr++[c']),List.map_append,List.map_singleton]
 exact⟨CB,cap,_,v,xs,h1,h2,hr,fun l=>key {c0 with fs:=l}⟩
structure RO(w:World)(B N R:Nat)(q:Pg)(wh lg:Int)(fr:List Fn)(f:Fn)(FB cap:Nat):Prop where
 lc:w.cell? ⟨R,4,none⟩=some (.slice (some ⟨FB,0,none⟩) (fr.length+1) cap)
 lt:DC w FB 66
 lp:∃F v xs,Ji w B N R q wh lg FB (fr.length*5+2) 71 2 (f.ps.map IQ) f.ps.length F v xs/\∀l,F (.row 71 2 (l.map IQ))=IL {q with fs:=fr++[{f with ps:=l}]} wh lg
 lv:∃F v xs,Ji w B N R q wh lg FB (fr.length*5+3) 71 2 (f.vs.map IQ) f.vs.length F v xs/\∀l,F (.row 71 2 (l.map IQ))=IL {q with fs:=fr++[{f with vs:=l}]} wh lg
 lb:∃F v xs,Ji w B N R q wh lg FB (fr.length*5+4) 82 9 (f.bs.map Pb) f.bs.length F v xs/\∀l,F (.row 82 9 (l.map Pb))=IL {q with fs:=fr++[{f with bs:=l}]} wh lg
theorem Ct.Fy(h:Ct w B N R q wh lg k)(hq:q.fs=fr++[f]):∃FB cap,RO w B N R q wh lg fr f FB cap:=by
 obtain⟨_,_,_,_,_,F,s1,hF⟩:=h.Tc;rw[hq,List.map_append,List.map_singleton]at s1;obtain⟨FB,cap,h1,h2,-,s2⟩:=Gi s1;rw[List.length_map]at h1 s2;have key:∀f':Fn,F (.row 66 5 (fr.map dFn++[dFn f']))=IL {q with fs:=fr++[f']} wh lg:=fun f'=>by
  rw[<-hF (fr++[f']),List.map_append,List.map_singleton]
 refine⟨FB,cap,h1,h2,?_,?_,?_⟩
 ·obtain⟨v,xs,hr⟩:=rowAt (Aq.nth (l:=[dS f.n,dS f.r,.row 71 2 (f.ps.map IQ),.row 71 2 (f.vs.map IQ),.row 82 9 (f.bs.map Pb)]) s2 2 rfl (n:=2) (by simp[Dt.DF,Dt.wd,dS])) (n:=f.ps.length) (by simp);exact⟨_,v,xs,hr,fun l=>key {f with ps:=l}⟩
 ·obtain⟨v,xs,hr⟩:=rowAt (Aq.nth (l:=[dS f.n,dS f.r,.row 71 2 (f.ps.map IQ),.row 71 2 (f.vs.map IQ),.row 82 9 (f.bs.map Pb)]) s2 3 rfl (n:=3) (by simp[Dt.DF,Dt.wd,dS])) (n:=f.vs.length) (by simp);exact⟨_,v,xs,hr,fun l=>key {f with vs:=l}⟩
 ·obtain⟨v,xs,hr⟩:=rowAt (Aq.nth (l:=[dS f.n,dS f.r,.row 71 2 (f.ps.map IQ),.row 71 2 (f.vs.map IQ),.row 82 9 (f.bs.map Pb)]) s2 4 rfl (n:=4) (by simp[Dt.DF,Dt.wd,dS])) (n:=f.bs.length) (by simp);exact⟨_,v,xs,hr,fun l=>key {f with bs:=l}⟩
structure LastB(w:World)(B N R:Nat)(q:Pg)(wh lg:Int)(fr:List Fn)(f:Fn)(FB cap:Nat)(br:List Bk)(b:Bk)(BB cap2:Nat):Prop where
 lf:RO w B N R q wh lg fr f FB cap
 lc:w.cell? ⟨FB,fr.length*5+4,none⟩=some (.slice (some ⟨BB,0,none⟩) (br.length+1) cap2)
 lt:DC w BB 82
 lp:∃F v xs,Ji w B N R q wh lg BB (br.length*9+1) 211 2 (b.ps.map PZ) b.ps.length F v xs/\∀l,F (.row 211 2 (l.map PZ))=IL {q with fs:=fr++[{f with bs:=br++[{b with ps:=l}]}]} wh lg
 li:∃F v xs,Ji w B N R q wh lg BB (br.length*9+2) 133 6 (b.cs.map TD) b.cs.length F v xs/\∀l,F (.row 133 6 (l.map TD))=IL {q with fs:=fr++[{f with bs:=br++[{b with cs:=l}]}]} wh lg
 le:∃F,Aq w B N (IL q wh lg) R 0 (TW b.e) BB (br.length*9+3) F/\∀t,F (TW t)=IL {q with fs:=fr++[{f with bs:=br++[{b with e:=t}]}]} wh lg
theorem Ct.lastB(h:Ct w B N R q wh lg k){FB cap:Nat}(hf:RO w B N R q wh lg fr f FB cap){br:List Bk}{b:Bk}(hb:f.bs=br++[b]):∃BB cap2,LastB w B N R q wh lg fr f FB cap br b BB cap2:=by
 obtain⟨F,v,xs,hr,hF⟩:=hf.lb;have s1:=hr.rp;rw[hb,List.map_append,List.map_singleton]at s1;obtain⟨BB,cap2,h1,h2,-,s2⟩:=Gi s1;rw[List.length_map]at h1 s2;have key:∀b':Bk,F (.row 82 9 (br.map Pb++[Pb b']))=IL {q with fs:=fr++[{f with bs:=br++[b']}]} wh lg:=fun b'=>by
  rw[<-hF (br++[b']),List.map_append,List.map_singleton]
 refine⟨BB,cap2,hf,h1,h2,?_,?_,?_⟩
 ·obtain⟨v,xs,hr⟩:=rowAt (Aq.nth (l:=[dS b.n,.row 211 2 (b.ps.map PZ),.row 133 6 (b.cs.map TD),TW b.e]) s2 1 rfl (n:=1) (by simp[Dt.DF,Dt.wd,dS])) (n:=b.ps.length) (by simp);exact⟨_,v,xs,hr,fun l=>key {b with ps:=l}⟩
 ·obtain⟨v,xs,hr⟩:=rowAt (Aq.nth (l:=[dS b.n,.row 211 2 (b.ps.map PZ),.row 133 6 (b.cs.map TD),TW b.e]) s2 2 rfl (n:=2) (by simp[Dt.DF,Dt.wd,dS])) (n:=b.cs.length) (by simp);exact⟨_,v,xs,hr,fun l=>key {b with cs:=l}⟩
 ·exact⟨_,Aq.nth (l:=[dS b.n,.row 211 2 (b.ps.map PZ),.row 133 6 (b.cs.map TD),TW b.e]) s2 3 rfl (n:=3) (by simp[Dt.DF,Dt.wd,dS]),fun t=>key {b with e:=t}⟩
structure AA4(w:World)(B N R:Nat)(q:Pg)(wh lg:Int)(fr:List Fn)(f:Fn)(br:List Bk)(b:Bk)(BB:Nat)(cr:List Is)(x:Is)(IB Nv:Nat):Prop where
 lc:w.cell? ⟨BB,br.length*9+2,none⟩=some (.slice (some ⟨IB,0,none⟩) (cr.length+1) Nv)
 lt:DC w IB 133
 lf:∃F v xs,Ji w B N R q wh lg IB (cr.length*6+4) 232 4 (x.fr.map nR) x.fr.length F v xs/\∀l,F (.row 232 4 (l.map nR))=IL {q with fs:=fr++[{f with bs:=br++[{b with cs:=cr++[{x with fr:=l}]}]}]} wh lg
 lo:∃F v xs,Ji w B N R q wh lg IB (cr.length*6+5) 238 2 (x.ob.map nQ) x.ob.length F v xs/\∀l,F (.row 238 2 (l.map nQ))=IL {q with fs:=fr++[{f with bs:=br++[{b with cs:=cr++[{x with ob:=l}]}]}]} wh lg
theorem LastB.oH{FB cap:Nat}{br:List Bk}{b:Bk}{BB cap2:Nat}(h:LastB w B N R q wh lg fr f FB cap br b BB cap2){cr:List Is}{x:Is}(hb:b.cs=cr++[x]):∃IB Nv,AA4 w B N R q wh lg fr f br b BB cr x IB Nv:=by
 obtain⟨F,v,xs,hr,hF⟩:=h.li;have s1:=hr.rp;rw[hb,List.map_append,List.map_singleton]at s1;obtain⟨IB,Nv,h1,h2,-,s2⟩:=Gi s1;rw[List.length_map]at h1 s2;have key:∀x':Is,F (.row 133 6 (cr.map TD++[TD x']))=IL {q with fs:=fr++[{f with bs:=br++[{b with cs:=cr++[x']}]}]} wh lg:=fun x'=>by
  rw[<-hF (cr++[x']),List.map_append,List.map_singleton]
 refine⟨IB,Nv,h1,h2,?_,?_⟩
 ·obtain⟨v,xs,hr⟩:=rowAt (Aq.nth (l:=[dN x.op,dS x.d,dS x.n,.row 77 3 (x.as.map Ls),.row 232 4 (x.fr.map nR),.row 238 2 (x.ob.map nQ)]) s2 4 rfl (n:=4) (by simp[Dt.DF,Dt.wd,dS,dN])) (n:=x.fr.length) (by simp);exact⟨_,v,xs,hr,fun l=>key {x with fr:=l}⟩
 ·obtain⟨v,xs,hr⟩:=rowAt (Aq.nth (l:=[dN x.op,dS x.d,dS x.n,.row 77 3 (x.as.map Ls),.row 232 4 (x.fr.map nR),.row 238 2 (x.ob.map nQ)]) s2 5 rfl (n:=5) (by simp[Dt.DF,Dt.wd,dS,dN])) (n:=x.ob.length) (by simp);exact⟨_,v,xs,hr,fun l=>key {x with ob:=l}⟩
end
end
section
open Word Num Dp
theorem KF(h:Row DL 1 w (.slice (some a) n c) l)(h3:l.length=3)(hz:Wz l):∃s1 s2,l.getD 1 Bv=s1/\Tz s1/\Tz s2/\w.cell? ⟨a.block,a.off+1,none⟩=some (.string s1)/\w.cell? ⟨a.block,a.off+2,none⟩=some (.string s2):=by
 have h1:0+1<l.length:=by omega
 have h2:1+1<l.length:=by omega
 grind [BQ,Dl]
theorem EN(h:Row DL 1 w (.slice (some a) n c) l)(h1:0+1<l.length)(hz:Wz l):∃s1,l.getD 1 Bv=s1/\Tz s1/\w.cell? ⟨a.block,a.off+1,none⟩=some (.string s1):=by grind [BQ,Dl]
theorem Q9:(prog.info? 71).map (fun i=>(i.zero,i.size,i.bytes))=some (some (.agg #[.string .empty,.string .empty]),2,32):=by kernel_rfl
theorem AAG:(prog.info? 155).map (fun i=>(i.zero,i.size,i.bytes))=some (some (.agg #[.string .empty,.int .i64 0]),2,24):=by kernel_rfl
theorem ACO:(prog.info? 66).map (fun i=>(i.zero,i.size,i.bytes))=some (some (.agg #[.string .empty,.string .empty,.slice none 0 0,.slice none 0 0,.slice none 0 0]),5,104):=by kernel_rfl
theorem Si(h0:AA6 w0 w)(hR:Ct w B N R q wh lg k)(hB:w0.heap.size<=B)(hk:k+1<=5000000)(hl:Row DL 1 w0 u l)(hz:Wz l)(hp:0<l.length)(hw:l[0]=⟨#[103,108,111,98,97,108]⟩):Calls prog 213 #[.pointer (some ⟨R,0,none⟩),u] w fun e w'=>Gb w B R k e w'/\Below B w w':=by
 obtain⟨p,c,rfl⟩:=hl.slice;obtain⟨a,rfl,-⟩:=CV hl hp;have d0:=AA h0 (Bg hl hp);rw[hw]at d0;have PV:(0:Int)<l.length:=by omega
 have hBw:B<=w.heap.size:=by have:=hR.own.ge;have:=hR.lt;omega
 go_enter func213,ntmps213;go_upto_region 19 with fail;go_cut[131]from 124 to 130 (fun v wx=>∃r:Bool,v=.bool r/\(r=false->(wh<=2\/wh=9)/\l.length=3/\nm (l.getD 1 Bv)=true)/\AA6 w wx)
 ·have hT:=Gr h0 hl hz;have hO:=Ey hR;go_wp2_with fail;refine hO.mono ?_;rintro e w2 ⟨⟨b,rfl,hb0⟩,rfl⟩;cases b
  ·go_wp2;go_meet;exact⟨_,rfl,(fun h=>by cases h),AL⟩
  replace hb0:=hb0 rfl;replace hb0:=Wx hb0;go_wp2_with fail;refine hT.mono ?_;rintro e w3 ⟨⟨b,rfl,ht⟩,hb⟩;cases b
  ·go_wp2;go_meet;exact⟨_,rfl,(fun h=>by cases h),hb⟩
  ·replace ht:=Wx (ht rfl);go_wp2;go_meet;exact⟨_,rfl,(fun _=>⟨hb0.out,ht.out⟩),hb⟩
 obtain⟨r,rfl,hr,hb⟩:=hcut;replace hR:=hR.kp hb;have hBb:=hb.mono hBw;cases r;rotate_left
 ·go_wp2;go_ret2;exact⟨ABJ (by decide),hBb⟩
 obtain⟨WJ,hl3,hnm⟩:=hr rfl;have Fw:(1:Int)<l.length:=by omega
 have Qj:(2:Int)<l.length:=by omega
 have C8:1<l.length:=by omega
 have LQ:2<l.length:=by omega
 obtain⟨s1,s2,hg,hz1,hz2,d1,d2⟩:=KF hl hl3 hz;have hag:a.block<B:=A9 (World.block_lt_of_cell? w0 ⟨a.block,a.off+1,none⟩ d1) hB;rw[hg]at hnm;replace d1:=AA (AB h0 hb) d1;replace d2:=AA (AB h0 hb) d2;replace hnm:=Wx hnm;have BO:=hR.kp (Below.refl wc.heap.size wc).drew;obtain⟨vc,xs,hc,hox,⟨pc,cc,rfl⟩,F,hsp,hF⟩:=BO.ADU;have hc':wc.cell? ⟨R,2,none⟩=some (.slice pc q.gs.length cc):=hc;have hlen:q.gs.length<=k:=BO.qq.2.1.1;have EY:(Value.slice pc q.gs.length cc).ownBlock≠some R:=own_ne hox BO.typ (by decide);have DT:(Value.slice pc q.gs.length cc).ownBlock≠some a.block:=Ed hox hag;have hsz:B<=wc.drew.heap.size:=AX hBw hb.size;have Qi:=fun w=>D8 (q.gs.length:Int) 8 w;go_wp2_with fail;refine(Qi _).mono ?_;rintro e w3 ⟨⟨r,rfl,hr2⟩,rfl⟩;go_wp2;refine AV (S:=Ad wc.drew B 71 2 13 14 18 [.string s1,.string s2] q.gs.length xs (.slice pc q.gs.length cc) ⟨R,2,none⟩) rfl (by kernel_rfl) (Ad.start (AL)) ?_;iterate 13((apply AU.z rfl;intro V L w1 _ _ _ z hK;(try(have hs:=z.f 18 (by kernel_rfl);(have c1:=z.s.cellOf hs hc EY;have c2:=z.s.cellOf hs (show wc.drew.cell? ⟨a.block,a.off+1,none⟩=some (.string s1)from d1) DT;have c3:=z.s.cellOf hs (show wc.drew.cell? ⟨a.block,a.off+2,none⟩=some (.string s2)from d2) DT)));go_simp;exact hK (z.s.keep rfl rfl rfl);intros;rfl))
 (apply AU.w rfl;intro V L w1 _ _ _ z hK;go_simp;exact hK rfl (z.s.made (z.o 14 (by kernel_rfl)) rfl _);(try simp only[pE]));(refine AU.free (fun _=>rfl) (fun V L w1 _ _ hS hi hR hd hK=>hS.go hi (hR.out (18) _ (by kernel_rfl) hi) (hd.out (13) (by kernel_rfl)) (Q9) (underlying23) (hox) rfl rfl rfl rfl rfl rfl (by decide) (by simp[Value.oneCell']) (by unfold maxLen;omega) fun v' w' h=>hK.out _ _ rfl h) ?_;(try simp only[pE]));iterate 3((apply AU.z rfl;intro V L w1 _ _ _ z hK;(try(have hs:=z.f 18 (by kernel_rfl);(have c1:=z.s.cellOf hs hc EY;have c2:=z.s.cellOf hs (show wc.drew.cell? ⟨a.block,a.off+1,none⟩=some (.string s1)from d1) DT;have c3:=z.s.cellOf hs (show wc.drew.cell? ⟨a.block,a.off+2,none⟩=some (.string s2)from d2) DT)));go_simp;exact hK (z.s.keep rfl rfl rfl);intros;rfl))
 (apply AU.val undef (fun _=>rfl);intro V L w1 _ _ hS hi hR hd hK;have ha:=hd.out (14) (by kernel_rfl);(have cs:=hS.cellOf hi hc EY;have fs:=hS.EA hi (o:=2) BO.lt (BO.Bw 2) EY);have hS2:=hS.stored ha hi rfl;obtain⟨pu,ku,CX⟩:=hS.val ha;rw[CX]at hS2;simp only[CX];go_simp;exact hK.out _ _ (by simp only[CX];rfl) hS2;simp only[Act.put]);refine AU.nil fun V w1 hS=>?_;obtain⟨Dc,hb4⟩:=hS.Yq (d:=IQ ⟨s1,s2⟩) (q':={q with gs:=q.gs++[⟨s1,s2⟩]}) rfl rfl BO hsp hc hox (by simp) (by decide) (fun w1 pb hlow hx=>⟨[],Af.of (AP.cc (hx.c 0 _ rfl) rfl (AP.cc (hx.c 1 _ rfl) rfl AP.cn)),by simp⟩) rfl rfl (by rw[<-hF,List.map_append];rfl) ⟨BO.qq.1.up (Aa) fun _ h=>QW.up (Aa) h,BO.qq.2.1.snoc (fun _ h=>h) ⟨hz1,hz2⟩,BO.qq.2.2.1.up (Aa) fun _ h=>h,BO.qq.2.2.2.up (Aa) fun _ h=>QV.up (Aa) h⟩ ⟨BO.ss.r,BO.ss.c,BO.ss.f,BO.ss.b,BO.ss.i⟩ hk;have hb5:=(hBb.trans ((Below.refl wc.heap.size wc).drew.mono (AX hBw hb.size))).trans hb4;have c5:=Dc.cw;have f5:=Dc.Bw 5;have CS:=Dc.setW 2 ⟨by omega,(fun h=>absurd h (by decide)),(fun h=>absurd h (by decide)),(fun h=>absurd h (by decide)),fun h=>absurd h (by decide)⟩;have hb6:=hb5.trans (Dc.low (.int .i64 2) 5);go_wp2;go_ret2;exact⟨⟨_,_,rfl,(fun _ _=>⟨_,_,_,_,CS⟩),fun h=>by cases h⟩,hb6⟩
theorem YQ(h0:AA6 w0 w)(hR:Ct w B N R q wh lg k)(hB:w0.heap.size<=B)(hk:k+1<=5000000)(hl:Row DL 1 w0 u l)(hz:Wz l)(hp:0<l.length)(hw:l[0]=⟨#[102,117,110,99]⟩):Calls prog 213 #[.pointer (some ⟨R,0,none⟩),u] w fun e w'=>Gb w B R k e w'/\Below B w w':=by
 obtain⟨p,c,rfl⟩:=hl.slice;obtain⟨a,rfl,-⟩:=CV hl hp;have d0:=AA h0 (Bg hl hp);rw[hw]at d0;have PV:(0:Int)<l.length:=by omega
 have hBw:B<=w.heap.size:=by have:=hR.own.ge;have:=hR.lt;omega
 go_enter func213,ntmps213;go_upto_region 36 with fail;go_cut[232]from 225 to 231 (fun v wx=>∃r:Bool,v=.bool r/\(r=false->(wh<=2\/wh=9)/\l.length=3/\nm (l.getD 1 Bv)=true)/\AA6 w wx)
 ·have hT:=Gr h0 hl hz;have hO:=Ey hR;go_wp2_with fail;refine hO.mono ?_;rintro e w2 ⟨⟨b,rfl,hb0⟩,rfl⟩;cases b
  ·go_wp2;go_meet;exact⟨_,rfl,(fun h=>by cases h),AL⟩
  replace hb0:=hb0 rfl;replace hb0:=Wx hb0;go_wp2_with fail;refine hT.mono ?_;rintro e w3 ⟨⟨b,rfl,ht⟩,hb⟩;cases b
  ·go_wp2;go_meet;exact⟨_,rfl,(fun h=>by cases h),hb⟩
  ·replace ht:=Wx (ht rfl);go_wp2;go_meet;exact⟨_,rfl,(fun _=>⟨hb0.out,ht.out⟩),hb⟩
 obtain⟨r,rfl,hr,hb⟩:=hcut;replace hR:=hR.kp hb;have hBb:=hb.mono hBw;cases r;rotate_left
 ·go_wp2;go_ret2;exact⟨ABJ (by decide),hBb⟩
 obtain⟨WJ,hl3,hnm⟩:=hr rfl;have Fw:(1:Int)<l.length:=by omega
 have Qj:(2:Int)<l.length:=by omega
 have C8:1<l.length:=by omega
 have LQ:2<l.length:=by omega
 obtain⟨s1,s2,hg,hz1,hz2,d1,d2⟩:=KF hl hl3 hz;have hag:a.block<B:=A9 (World.block_lt_of_cell? w0 ⟨a.block,a.off+1,none⟩ d1) hB;rw[hg]at hnm;replace d1:=AA (AB h0 hb) d1;replace d2:=AA (AB h0 hb) d2;replace hnm:=Wx hnm;have BO:=hR.kp (Below.refl wc.heap.size wc).drew;obtain⟨vc,xs,hc,hox,⟨pc,cc,rfl⟩,F,hsp,hF⟩:=BO.Tc;have hc':wc.cell? ⟨R,4,none⟩=some (.slice pc q.fs.length cc):=hc;have hlen:q.fs.length<=k:=BO.qq.2.2.2.1;have EY:(Value.slice pc q.fs.length cc).ownBlock≠some R:=own_ne hox BO.typ (by decide);have DT:(Value.slice pc q.fs.length cc).ownBlock≠some a.block:=Ed hox hag;have hsz:B<=wc.drew.heap.size:=AX hBw hb.size;have Qi:=fun w=>D8 (q.fs.length:Int) 8 w;go_wp2_with fail;refine(Qi _).mono ?_;rintro e w3 ⟨⟨r,rfl,hr2⟩,rfl⟩;go_wp2;refine AV (S:=Ad wc.drew B 66 5 13 14 18 [.string s1,.string s2,.slice none 0 0,.slice none 0 0,.slice none 0 0] q.fs.length xs (.slice pc q.fs.length cc) ⟨R,4,none⟩) rfl (by kernel_rfl) (Ad.start (AL)) ?_;iterate 13((apply AU.z rfl;intro V L w1 _ _ _ z hK;(try(have hs:=z.f 18 (by kernel_rfl);(have c1:=z.s.cellOf hs hc EY;have c2:=z.s.cellOf hs (show wc.drew.cell? ⟨a.block,a.off+1,none⟩=some (.string s1)from d1) DT;have c3:=z.s.cellOf hs (show wc.drew.cell? ⟨a.block,a.off+2,none⟩=some (.string s2)from d2) DT)));go_simp;exact hK (z.s.keep rfl rfl rfl);intros;rfl))
 (apply AU.w rfl;intro V L w1 _ _ _ z hK;go_simp;exact hK rfl (z.s.made (z.o 14 (by kernel_rfl)) rfl _);(try simp only[pE]));(refine AU.free (fun _=>rfl) (fun V L w1 _ _ hS hi hR hd hK=>hS.go hi (hR.out (18) _ (by kernel_rfl) hi) (hd.out (13) (by kernel_rfl)) (ACO) (underlying25) (hox) rfl rfl rfl rfl rfl rfl (by decide) (by simp[Value.oneCell']) (by unfold maxLen;omega) fun v' w' h=>hK.out _ _ rfl h) ?_;(try simp only[pE]));iterate 3((apply AU.z rfl;intro V L w1 _ _ _ z hK;(try(have hs:=z.f 18 (by kernel_rfl);(have c1:=z.s.cellOf hs hc EY;have c2:=z.s.cellOf hs (show wc.drew.cell? ⟨a.block,a.off+1,none⟩=some (.string s1)from d1) DT;have c3:=z.s.cellOf hs (show wc.drew.cell? ⟨a.block,a.off+2,none⟩=some (.string s2)from d2) DT)));go_simp;exact hK (z.s.keep rfl rfl rfl);intros;rfl))
 (apply AU.val undef (fun _=>rfl);intro V L w1 _ _ hS hi hR hd hK;have ha:=hd.out (14) (by kernel_rfl);(have cs:=hS.cellOf hi hc EY;have fs:=hS.EA hi (o:=4) BO.lt (BO.Bw 4) EY);have hS2:=hS.stored ha hi rfl;obtain⟨pu,ku,CX⟩:=hS.val ha;rw[CX]at hS2;simp only[CX];go_simp;exact hK.out _ _ (by simp only[CX];rfl) hS2;simp only[Act.put]);refine AU.nil fun V w1 hS=>?_;obtain⟨Dc,hb4⟩:=hS.Yq (d:=dFn ⟨s1,s2,[],[],[]⟩) (q':={q with fs:=q.fs++[⟨s1,s2,[],[],[]⟩]}) rfl rfl BO hsp hc hox (by simp) (by decide) (fun w1 pb hlow hx=>⟨[]++([]++([]++[])),Af.of (AP.cc (hx.c 0 _ rfl) rfl (AP.cc (hx.c 1 _ rfl) rfl (AP.cr (l:=[]) (hx.c 2 _ rfl) AZ.nil (AP.cr (l:=[]) (hx.c 3 _ rfl) AZ.nil (AP.cr (l:=[]) (hx.c 4 _ rfl) AZ.nil AP.cn))))),by simp⟩) rfl rfl (by rw[<-hF,List.map_append];rfl) ⟨BO.qq.1.up (Aa) fun _ h=>QW.up (Aa) h,BO.qq.2.1.up (Aa) fun _ h=>h,BO.qq.2.2.1.up (Aa) fun _ h=>h,BO.qq.2.2.2.snoc (fun _ h=>QV.up (Aa) h) ⟨hz1,hz2,Rw.nil,Rw.nil,Rw.nil⟩⟩ ⟨BO.ss.r,BO.ss.c,(fun _=>by simp),(fun h1 h2=>by omega),fun h1 h2=>by omega⟩ hk;have hb5:=(hBb.trans ((Below.refl wc.heap.size wc).drew.mono (AX hBw hb.size))).trans hb4;have c5:=Dc.cw;have f5:=Dc.Bw 5;have CS:=Dc.setW 3 ⟨by omega,(fun h=>absurd h (by decide)),(fun _=>by simp),(fun h=>absurd h (by decide)),fun h=>absurd h (by decide)⟩;have hb6:=hb5.trans (Dc.low (.int .i64 3) 5);have c6:=CS.cl;have f6:=CS.Bw 6;have ES:=CS.qH 0 (by omega);have BJ:=hb6.trans (CS.low (.int .i64 0) 6);go_wp2;go_ret2;exact⟨⟨_,_,rfl,(fun _ _=>⟨_,_,_,_,ES⟩),fun h=>by cases h⟩,BJ⟩
end
section
open Word Num Dp
theorem Sj(h0:AA6 w0 w)(hR:Ct w B N R q wh lg k)(hB:w0.heap.size<=B)(hk:k+1<=5000000)(hl:Row DL 1 w0 u l)(hz:Wz l)(hp:0<l.length)(hw:l[0]=⟨#[101,120,116,101,114,110]⟩):Calls prog 213 #[.pointer (some ⟨R,0,none⟩),u] w fun e w'=>Gb w B R k e w'/\Below B w w':=by
 obtain⟨p,c,rfl⟩:=hl.slice;obtain⟨a,rfl,-⟩:=CV hl hp;have d0:=AA h0 (Bg hl hp);rw[hw]at d0;have PV:(0:Int)<l.length:=by omega
 have hBw:B<=w.heap.size:=by have:=hR.own.ge;have:=hR.lt;omega
 go_enter func213,ntmps213;go_upto_region 26 with fail;go_cut[178]from 163 to 177 (fun v wx=>∃r:Bool,v=.bool r/\(r=false->(wh<=2\/wh=9)/\l.length=3/\nm (l.getD 1 Bv)=true)/\AA6 w wx)
 ·have hO:=Ey hR;go_wp2_with fail;refine hO.mono ?_;rintro e w2 ⟨⟨b,rfl,hb0⟩,rfl⟩;cases b
  ·go_wp2;go_meet;exact⟨_,rfl,(fun h=>by cases h),AL⟩
  replace hb0:=hb0 rfl;replace hb0:=Wx hb0
  cases h2:((l.length:Int) !=3)with
  |true=>
   go_wp2;go_meet
   exact⟨_,rfl,(fun h=>by cases h),AL⟩
  |false=>
   have hl2:l.length=3:=by
    have:(l.length:Int)=3:=(by simpa using h2);omega
   have C8:1<l.length:=(by omega);have Fw:(1:Int)<l.length:=(by omega);obtain⟨_,rfl,hz1,d1⟩:=EN hl C8 hz;replace d1:=AA h0 d1;generalize l.getD 1 Bv=s1 at*;have hb:=AJ w (.cells #[.string s1] 9);have hN:=Bn (Below.refl (w.alloc (.cells #[.string s1] 9)).heap.size _) (DN (l:=[s1]) (Ae.alloc w [.string s1] 9) ⟨show 1<=10000000 by decide,by simpa using hz1⟩);simp only[List.length_cons,List.length_nil,Nat.zero_add,List.all_cons,List.all_nil,Bool.and_true]at hN;replace hl2:=Wx hl2;generalize hv:nm s1=v at*;replace hv:=Wx hv;go_wp2_with fail;refine hN.mono ?_;rintro e w3 ⟨rfl,rfl⟩;cases v
   ·go_wp2;go_meet;exact⟨_,rfl,(fun h=>by cases h),hb⟩
   ·go_wp2;go_meet;exact⟨_,rfl,(fun _=>⟨hb0.out,hl2.out,by trivial⟩),hb⟩
 obtain⟨r,rfl,hr,hb⟩:=hcut;replace hR:=hR.kp hb;have hBb:=hb.mono hBw;cases r;rotate_left
 ·go_wp2;go_ret2;exact⟨ABJ (by decide),hBb⟩
 obtain⟨WJ,hl3,hnm⟩:=hr rfl;have Fw:(1:Int)<l.length:=by omega
 have Qj:(2:Int)<l.length:=by omega
 have C8:1<l.length:=by omega
 have LQ:2<l.length:=by omega
 obtain⟨s1,s2,hg,hz1,hz2,d1,d2⟩:=KF hl hl3 hz;have hag:a.block<B:=A9 (World.block_lt_of_cell? w0 ⟨a.block,a.off+1,none⟩ d1) hB;rw[hg]at hnm;replace d1:=AA (AB h0 hb) d1;replace d2:=AA (AB h0 hb) d2;replace hnm:=Wx hnm;have hG:=fun w=>JU s2 hz2 w;go_wp2_with fail;refine(hG _).mono ?_;rintro e w4 ⟨⟨n,b,rfl,-⟩,hb4⟩;replace hR:=hR.kp hb4;replace hBb:=hBb.trans (hb4.mono (AX hBw hb.size));have hb:=AB hb hb4;replace d1:=AA hb4 d1;replace d2:=AA hb4 d2;go_upto_region 29 with fail;go_cut[195]from 186 to 194 (fun v wx=>∃r:Bool,v=.bool r/\(r=false->0<=n/\n<=8)/\wx=w4)
 ·cases b
  ·go_wp2;go_meet;exact⟨_,rfl,(fun h=>by cases h),rfl⟩
  cases hn1:decide (n<0)with
  |true=>
   go_wp2;go_meet
   exact⟨_,rfl,(fun h=>by cases h),rfl⟩
  |false=>
   have hn2:=CJ hn1;replace hn2:=Wx hn2;go_wp2;go_meet;exact⟨_,rfl,(fun h=>⟨by have:=hn2.out;omega,by have:=CJ h;omega⟩),rfl⟩
 obtain⟨r,rfl,hr,rfl⟩:=hcut;cases r;rotate_left
 ·go_wp2;go_ret2;exact⟨ABJ (by decide),hBb⟩
 have BO:=hR.kp (Below.refl wc.heap.size wc).drew;obtain⟨vc,xs,hc,hox,⟨pc,cc,rfl⟩,F,hsp,hF⟩:=BO.ADT;have hc':wc.cell? ⟨R,3,none⟩=some (.slice pc q.xs.length cc):=hc;have hlen:q.xs.length<=k:=BO.qq.2.2.1.1;have EY:(Value.slice pc q.xs.length cc).ownBlock≠some R:=own_ne hox BO.typ (by decide);have DT:(Value.slice pc q.xs.length cc).ownBlock≠some a.block:=Ed hox hag;have hsz:B<=wc.drew.heap.size:=AX hBw hb.size;have Qi:=fun w=>D8 (q.xs.length:Int) 8 w;go_wp2_with fail;refine(Qi _).mono ?_;rintro e w3 ⟨⟨r,rfl,hr2⟩,rfl⟩;go_wp2;refine AV (S:=Ad wc.drew B 155 2 11 12 16 [.string s1,.int .i64 n] q.xs.length xs (.slice pc q.xs.length cc) ⟨R,3,none⟩) rfl (by kernel_rfl) (Ad.start (AL)) ?_;iterate 11((apply AU.z rfl;intro V L w1 _ _ _ z hK;(try(have hs:=z.f 16 (by kernel_rfl);(have c1:=z.s.cellOf hs hc EY;have c2:=z.s.cellOf hs (show wc.drew.cell? ⟨a.block,a.off+1,none⟩=some (.string s1)from d1) DT)));go_simp;exact hK (z.s.keep rfl rfl rfl);intros;rfl))
 (apply AU.w rfl;intro V L w1 _ _ _ z hK;go_simp;exact hK rfl (z.s.made (z.o 12 (by kernel_rfl)) rfl _);(try simp only[pE]));(refine AU.free (fun _=>rfl) (fun V L w1 _ _ hS hi hR hd hK=>hS.go hi (hR.out (16) _ (by kernel_rfl) hi) (hd.out (11) (by kernel_rfl)) (AAG) (underlying24) (hox) rfl rfl rfl rfl rfl rfl (by decide) (by simp[Value.oneCell']) (by unfold maxLen;omega) fun v' w' h=>hK.out _ _ rfl h) ?_;(try simp only[pE]));iterate 3((apply AU.z rfl;intro V L w1 _ _ _ z hK;(try(have hs:=z.f 16 (by kernel_rfl);(have c1:=z.s.cellOf hs hc EY;have c2:=z.s.cellOf hs (show wc.drew.cell? ⟨a.block,a.off+1,none⟩=some (.string s1)from d1) DT)));go_simp;exact hK (z.s.keep rfl rfl rfl);intros;rfl))
 (apply AU.val undef (fun _=>rfl);intro V L w1 _ _ hS hi hR hd hK;have ha:=hd.out (12) (by kernel_rfl);(have cs:=hS.cellOf hi hc EY;have fs:=hS.EA hi (o:=3) BO.lt (BO.Bw 3) EY);have hS2:=hS.stored ha hi rfl;obtain⟨pu,ku,CX⟩:=hS.val ha;rw[CX]at hS2;simp only[CX];go_simp;exact hK.out _ _ (by simp only[CX];rfl) hS2;simp only[Act.put]);refine AU.nil fun V w1 hS=>?_;obtain⟨Dc,hb4⟩:=hS.Yq (d:=nS ⟨s1,n⟩) (q':={q with xs:=q.xs++[⟨s1,n⟩]}) rfl rfl BO hsp hc hox (by simp) (by decide) (fun w1 pb hlow hx=>⟨[],Af.of (AP.cc (hx.c 0 _ rfl) rfl (AP.cc (hx.c 1 _ rfl) rfl AP.cn)),by simp⟩) rfl rfl (by rw[<-hF,List.map_append];rfl) ⟨BO.qq.1.up (Aa) fun _ h=>QW.up (Aa) h,BO.qq.2.1.up (Aa) fun _ h=>h,BO.qq.2.2.1.snoc (fun _ h=>h) ⟨hnm.out,hz1⟩,BO.qq.2.2.2.up (Aa) fun _ h=>QV.up (Aa) h⟩ ⟨BO.ss.r,BO.ss.c,BO.ss.f,BO.ss.b,BO.ss.i⟩ hk;have hb5:=(hBb.trans ((Below.refl wc.heap.size wc).drew.mono (AX hBw hb.size))).trans hb4;have c5:=Dc.cw;have f5:=Dc.Bw 5;have CS:=Dc.setW 2 ⟨by omega,(fun h=>absurd h (by decide)),(fun h=>absurd h (by decide)),(fun h=>absurd h (by decide)),fun h=>absurd h (by decide)⟩;have hb6:=hb5.trans (Dc.low (.int .i64 2) 5);go_wp2;go_ret2;exact⟨⟨_,_,rfl,(fun _ _=>⟨_,_,_,_,CS⟩),fun h=>by cases h⟩,hb6⟩
theorem U2(h0:AA6 w0 w)(hR:Ct w B N R q wh lg k)(hB:w0.heap.size<=B)(hk:k+1<=5000000)(hl:Row DL 1 w0 u l)(hz:Wz l)(hp:0<l.length)(hw:l[0]=⟨#[102,105,101,108,100]⟩):Calls prog 213 #[.pointer (some ⟨R,0,none⟩),u] w fun e w'=>Gb w B R k e w'/\Below B w w':=by
 obtain⟨p,c,rfl⟩:=hl.slice;obtain⟨a,rfl,-⟩:=CV hl hp;have d0:=AA h0 (Bg hl hp);rw[hw]at d0;have PV:(0:Int)<l.length:=by omega
 have hBw:B<=w.heap.size:=by have:=hR.own.ge;have:=hR.lt;omega
 go_enter func213,ntmps213;go_upto_region 11 with fail;go_cut[74]from 65 to 73 (fun v wx=>∃r:Bool,v=.bool r/\(r=false->(wh=1)/\l.length=3/\nm (l.getD 1 Bv)=true)/\AA6 w wx)
 ·have hT:=Gr h0 hl hz;have cw:=hR.cw
  cases hw1:((wh:Int) !=1)with
  |false=>
   have hb0:wh=1:=(by have:(wh:Int)=1:=(by simpa using hw1);omega);replace hb0:=Wx hb0;go_wp2_with fail;refine hT.mono ?_;rintro e w3 ⟨⟨b,rfl,ht⟩,hb⟩;cases b
   ·go_wp2;go_meet;exact⟨_,rfl,(fun h=>by cases h),hb⟩
   ·replace ht:=Wx (ht rfl);go_wp2;go_meet
    exact⟨_,rfl,(fun _=>⟨hb0.out,ht.out⟩),hb⟩
  |true=>
   go_wp2;go_meet;exact⟨_,rfl,(fun h=>by cases h),AL⟩
 obtain⟨r,rfl,hr,hb⟩:=hcut;replace hR:=hR.kp hb;have hBb:=hb.mono hBw;cases r;rotate_left
 ·go_wp2;go_ret2;exact⟨ABJ (by decide),hBb⟩
 obtain⟨WJ,hl3,hnm⟩:=hr rfl;have Fw:(1:Int)<l.length:=by omega
 have Qj:(2:Int)<l.length:=by omega
 have C8:1<l.length:=by omega
 have LQ:2<l.length:=by omega
 obtain⟨s1,s2,hg,hz1,hz2,d1,d2⟩:=KF hl hl3 hz;have hag:a.block<B:=A9 (World.block_lt_of_cell? w0 ⟨a.block,a.off+1,none⟩ d1) hB;rw[hg]at hnm;replace d1:=AA (AB h0 hb) d1;replace d2:=AA (AB h0 hb) d2;replace hnm:=Wx hnm;obtain⟨cr,c0,hq⟩:∃cr c0,q.cs=cr++[c0]:=by
  rcases List.eq_nil_or_concat q.cs with h|⟨cr,c0,h⟩
  ·exact absurd h (hR.ss.c WJ)
  ·exact⟨cr,c0,by rw[h,List.concat_eq_append]⟩
 have BO:=hR.kp (Below.refl wc.heap.size wc).drew;obtain⟨CB,cap,F,vc,xs,hc1,hCT,⟨hc,hox,⟨pc,cc,rfl⟩,hsp,-⟩,hF⟩:=BO.AAS hq;have hc1':wc.cell? ⟨R,1,none⟩=some (.slice (some ⟨CB,0,none⟩) (cr.length+1) cap):=hc1;have hc':wc.cell? ⟨CB,cr.length*2+1,none⟩=some (.slice pc c0.fs.length cc):=hc;have hqc:=BO.qq.1;rw[hq]at hqc;have hlen:c0.fs.length<=k:=hqc.last.2.2.1;have hlr:cr.length+1<=k:=by simpa using hqc.1
 have hkk:=BO.kk;have hix:((cr.length+1:Nat):Int)-1=(cr.length:Int):=by omega
 have Ns:(cr.length:Int)<(cr.length:Int)+1:=by omega
 have EY:(Value.slice pc c0.fs.length cc).ownBlock≠some R:=own_ne hox BO.typ (by decide);have DT:(Value.slice pc c0.fs.length cc).ownBlock≠some a.block:=Ed hox hag;have hsz:B<=wc.drew.heap.size:=AX hBw hb.size;have jA:(Value.slice pc c0.fs.length cc).ownBlock≠some CB:=own_ne hox hCT (by decide);have Qi:=fun w=>D8 (c0.fs.length:Int) 8 w;go_wp2_with fail;refine(Qi _).mono ?_;rintro e w3 ⟨⟨r,rfl,hr2⟩,rfl⟩;by_cases hr0:r=0;rotate_left
 ·have ADk:(r==0)=false:=by simpa using hr0
  go_wp2;go_ret2;exact⟨⟨_,_,rfl,(fun _ h=>absurd h hr0),fun h=>by cases h⟩,hBb⟩
 subst hr0;go_wp2;refine AV (S:=Ad wc.drew B 71 2 22 23 26 [.string s1,.string s2] c0.fs.length xs (.slice pc c0.fs.length cc) ⟨CB,cr.length*2+1,none⟩) rfl (by kernel_rfl) (Ad.start (AL)) ?_;iterate 22((apply AU.z rfl;intro V L w1 _ _ _ z hK;(try(have hs:=z.f 26 (by kernel_rfl);(have c1:=z.s.cellOf hs hc1 EY;have c4:=z.s.cellOf hs hc jA;have c2:=z.s.cellOf hs (show wc.drew.cell? ⟨a.block,a.off+1,none⟩=some (.string s1)from d1) DT;have c3:=z.s.cellOf hs (show wc.drew.cell? ⟨a.block,a.off+2,none⟩=some (.string s2)from d2) DT)));go_simp;exact hK (z.s.keep rfl rfl rfl);intros;rfl))
 (apply AU.w rfl;intro V L w1 _ _ _ z hK;go_simp;exact hK rfl (z.s.made (z.o 23 (by kernel_rfl)) rfl _);(try simp only[pE]));(refine AU.free (fun _=>rfl) (fun V L w1 _ _ hS hi hR hd hK=>hS.go hi (hR.out (26) _ (by kernel_rfl) hi) (hd.out (22) (by kernel_rfl)) (Q9) (underlying23) (hox) rfl rfl rfl rfl rfl rfl (by decide) (by simp[Value.oneCell']) (by unfold maxLen;omega) fun v' w' h=>hK.out _ _ rfl h) ?_;(try simp only[pE]));iterate 2((apply AU.z rfl;intro V L w1 _ _ _ z hK;(try(have hs:=z.f 26 (by kernel_rfl);(have c1:=z.s.cellOf hs hc1 EY;have c4:=z.s.cellOf hs hc jA;have c2:=z.s.cellOf hs (show wc.drew.cell? ⟨a.block,a.off+1,none⟩=some (.string s1)from d1) DT;have c3:=z.s.cellOf hs (show wc.drew.cell? ⟨a.block,a.off+2,none⟩=some (.string s2)from d2) DT)));go_simp;exact hK (z.s.keep rfl rfl rfl);intros;rfl))
 (apply AU.val undef (fun _=>rfl);intro V L w1 _ _ hS hi hR hd hK;have ha:=hd.out (23) (by kernel_rfl);(have cs:=hS.cellOf hi hc jA;have fs:=hS.EA hi (o:=cr.length*2+1) hCT.lt (hCT.Bw _) jA);have hS2:=hS.stored ha hi rfl;obtain⟨pu,ku,CX⟩:=hS.val ha;rw[CX]at hS2;simp only[CX];go_simp;exact hK.out _ _ (by simp only[CX];rfl) hS2;simp only[Act.put]);refine AU.nil fun V w1 hS=>?_;obtain⟨Dc,hb4⟩:=hS.Yq (d:=IQ ⟨s1,s2⟩) (q':={q with cs:=cr++[{c0 with fs:=c0.fs++[⟨s1,s2⟩]}]}) rfl rfl BO hsp hc hox (by simp) (by decide) (fun w1 pb hlow hx=>⟨[],Af.of (AP.cc (hx.c 0 _ rfl) rfl (AP.cc (hx.c 1 _ rfl) rfl AP.cn)),by simp⟩) rfl rfl (by rw[<-hF,List.map_append];rfl) ⟨hqc.turn (Aa) (fun _ h=>QW.up (Aa) h) ⟨hqc.last.1,hqc.last.2.1,hqc.last.2.2.snoc (fun _ h=>h) ⟨hz1,hz2⟩⟩,BO.qq.2.1.up (Aa) fun _ h=>h,BO.qq.2.2.1.up (Aa) fun _ h=>h,BO.qq.2.2.2.up (Aa) fun _ h=>QV.up (Aa) h⟩ ⟨BO.ss.r,(fun _=>by simp),(fun h=>by omega),(fun h=>by omega),fun h=>by omega⟩ hk;have hb5:=(hBb.trans ((Below.refl wc.heap.size wc).drew.mono (AX hBw hb.size))).trans hb4;go_wp2;go_ret2;exact⟨⟨_,_,rfl,(fun _ _=>⟨_,_,_,_,Dc⟩),fun h=>by cases h⟩,hb5⟩
end
section
open Word Num Dp
theorem ny:(prog.info? 82).map (fun i=>(i.zero,i.size,i.bytes))=some (some (.agg #[.string .empty,.slice none 0 0,.slice none 0 0,.int .i64 0,.int .i64 0,.string .empty,.int .i64 0,.slice none 0 0,.int .i64 0]),9,136):=by kernel_rfl
theorem Pz{o:Nat}{x:Tm}{F:List Nat}(c0:w.cell? ⟨g,o,none⟩=some (.int .i64 x.k))(c1:w.cell? ⟨g,o+1,none⟩=some (.int .i64 x.a.k))(c2:w.cell? ⟨g,o+2,none⟩=some (.string x.a.s))(c3:w.cell? ⟨g,o+3,none⟩=some (.int .i64 x.a.n))(c4:w.cell? ⟨g,o+4,none⟩=some v)(c5:w.cell? ⟨g,o+5,none⟩=some (.int .i64 x.n))(hv:AZ w B 9 1 (x.to.map dS) v F):Af w B (TW x) g o (F++[]):=
 Af.of (AP.cc c0 rfl (AP.ca (l:=[dN x.a.k,dS x.a.s,dN x.a.n]) (f1:=[]) (AP.cc c1 rfl (AP.cc c2 rfl (AP.cc c3 rfl AP.cn))) (AP.cr (by simpa[Dt.DF,Dt.wd,dN,dS]using c4) hv (AP.cc (by simpa[Dt.DF,Dt.wd,dN,dS]using c5) rfl AP.cn))))
theorem Fa{s c:ByteArray}(h:s≠c){l:List UInt8}(hc:c.data.toList=l):(s.toList==l)=false:=by
 rw[beq_eq_false_iff_ne];intro e;rw[ByteArray.toList_eq,<-hc]at e;exact h (ByteArray.ext (Array.toList_inj.1 e))
end
end Go.Proofs.YtlffomedflegdaaGreatDoor
