/- Part 10 of 49 of the proof: Lii, Lih, Mac, Heap, HeapA. -/
import Derived.Deep.Slices
import Derived.Deep.Fields
import Derived.Lib.SmallJoins
import Derived.WideShapes
import Derived.Test.YtlffomedflegdaaGreatDoorPz00
import Derived.Test.YtlffomedflegdaaGreatDoorPz02
import Derived.Test.YtlffomedflegdaaGreatDoorPz03
import Derived.Test.YtlffomedflegdaaGreatDoorPz04
import Derived.Test.YtlffomedflegdaaGreatDoorPz09
set_option linter.all false
set_option maxHeartbeats 16000000
set_option maxRecDepth 100000
namespace Go.Proofs.YtlffomedflegdaaGreatDoor
open Go.Proofs.Tryz
open Go.RowKit
variable {B' n:Nat}{e:TypeId}{v:Value}{x:Dt}{α:Type}
section
structure Own(w:World)(B N:Nat)(d:Dt)(g o:Nat):Prop where
 ge:B<=g
 lt:g<N
 sz:N<=w.heap.size
 t:∃fp,Af w B d g o fp/\(g::fp).Nodup/\∀b∈fp,b<N
structure Aq(w:World)(B N:Nat)(d:Dt)(g o:Nat)(d0:Dt)(g0 o0:Nat)(F:Dt->Dt):Prop where
 ge:B<=g
 lt:g<N
 sz:N<=w.heap.size
 h:∃fp Fj,Af w B d g o fp/\(∀b∈fp,b<N)/\Hole w B d g o fp d0 g0 o0 Fj F
section
variable {w w1 w2 : World} {B N g o : Nat} {d : Dt}
theorem Af.far{fp:List Nat}(h:Af w B d g o fp)(he:∀b,b=g\/b∈fp->w1.heap[b]? =w.heap[b]?):Af w1 B d g o fp:=
 h.move (fun _ _=>BM (he g (.inl rfl)) _) (fun b hb=>he b (.inr hb))
mutual
theorem Af.mono(hB:B<=B'):∀{d:Dt} {g o:Nat} {fp:List Nat},Af w B' d g o fp->Af w B d g o fp
 |.cell v,g,o,fp,h=>by unfold Af at h⊢;exact h
 |.agg l,g,o,fp,h=>by unfold Af at h⊢;exact AP.mono hB h
 |.row e s l,g,o,fp,h=>by
  unfold Af at h⊢;rcases h with h|⟨g',cap,cur,f',h1,h2,h3,h4,h5,h6,h7,h8,h9⟩
  ·exact .inl h
  ·exact .inr ⟨g',cap,cur,f',h1,AX hB h2,h3,h4,h5,h6,h7,h8,AP.mono hB h9⟩
 |.mp m,g,o,fp,h=>by
  unfold Af at h⊢;obtain⟨b,h1,h2,h3,h4⟩:=h;exact⟨b,h1,AX hB h2,h3,h4⟩
theorem AP.mono(hB:B<=B'):∀{l:List Dt} {g o:Nat} {fp:List Nat},AP w B' l g o fp->AP w B l g o fp
 | [],g,o,fp,h=>by unfold AP at h⊢;exact h
 |d::r,g,o,fp,h=>by
  unfold AP at h⊢;obtain⟨f1,f2,h1,h2,h3⟩:=h;exact⟨f1,f2,h1,Af.mono hB h2,AP.mono hB h3⟩
end
theorem AZ.mono{s:Nat}{l:List Dt}{F:List Nat}(hB:B<=B')(h:AZ w B' e s l v F):AZ w B e s l v F:=by
 rcases h with h|⟨g',cap,cur,f',h1,h2,h3,h4,h5,h6,h7,h8,h9⟩
 ·exact .inl h
 ·exact .inr ⟨g',cap,cur,f',h1,AX hB h2,h3,h4,h5,h6,h7,h8,h9.mono hB⟩
theorem Own.kp(h:Own w B N d g o)(hb:Below N w w1):Own w1 B N d g o:=by
 obtain⟨h1,h2,h2',fp,h3,h4,h5⟩:=h
 exact⟨h1,h2,AX h2' hb.size,fp,h3.far (fun b hb'=>hb.block b (by
  rcases hb' with rfl|hb'
  ·exact h2
  ·exact h5 b hb')),h4,h5⟩
theorem Own.up(h:Own w B N d g o){N':Nat}(hN:N<=N')(hs:N'<=w.heap.size):Own w B N' d g o:=by
 obtain⟨h1,h2,_,fp,h3,h4,h5⟩:=h;exact⟨h1,A9 h2 hN,hs,fp,h3,h4,fun b hb=>A9 (h5 b hb) hN⟩
theorem Own.spot(h:Own w B N d g o):Aq w B N d g o d g o id:=by
 obtain⟨h1,h2,h2',fp,h3,h4,h5⟩:=h;exact⟨h1,h2,h2',fp,fp,h3,h5,Hole.whole h3 h4⟩
variable {d0 : Dt} {g0 o0 : Nat} {F : Dt -> Dt}
theorem Aq.agg{l1 l2:List Dt}(h:Aq w B N d g o (.agg (l1++x::l2)) g0 o0 F):Aq w B N d g o x g0 (o0+Dt.DF l1) (fun y=>F (.agg (l1++y::l2))):=by
 obtain⟨h1,h2,h2',fp,Fj,h3,h3',h4⟩:=h;obtain⟨Io,h5⟩:=eU h4.lies h4.nd;exact⟨h1,h2,h2',fp,Io,h3,h3',h4.trans h5⟩
theorem Aq.nth{l:List Dt}(h:Aq w B N d g o (.agg l) g0 o0 F)(i:Nat)(hi:l[i]? =some x)(hn:Dt.DF (l.take i)=n):Aq w B N d g o x g0 (o0+n) (fun y=>F (.agg (l.set i y))):=by
 obtain⟨hlt,hx⟩:=List.getElem?_eq_some_iff.1 hi;have e:l=l.take i++x::l.drop (i+1):=by
  rw[<-hx,<-List.drop_eq_getElem_cons hlt,List.take_append_drop]
 have e2:∀y,l.set i y=l.take i++y::l.drop (i+1):=fun y=>List.set_eq_take_append_cons_drop▸by rw[if_pos hlt]
 rw[e]at h;have h2:=h.agg;grind
theorem Aq.row{s:Nat}{l1 l2:List Dt}(h:Aq w B N d g o (.row e s (l1++x::l2)) g0 o0 F):∃g' cap,w.cell? ⟨g0,o0,none⟩=some (.slice (some ⟨g',0,none⟩) (l1.length+1+l2.length) cap)/\(∀q,w.frozen? ⟨g',q,none⟩=false)/\x.wd=s/\Aq w B N d g o x g' (l1.length*s) (fun y=>F (.row e s (l1++y::l2))):=by
 obtain⟨h1,h2,h2',fp,Fj,h3,h3',h4⟩:=h;obtain⟨g',cap,Io,h5,_,h6,h7,h8⟩:=eT h4.lies h4.nd;exact⟨g',cap,h5,h7,h6,h1,h2,h2',fp,Io,h3,h3',h4.trans h8⟩
theorem Aq.at(h:Aq w B N d g o d0 g0 o0 F):B<=g0/\g0<N/\∃Fj,Af w B d0 g0 o0 Fj:=by
 obtain⟨h1,h2,h2',fp,Fj,h3,h3',h4⟩:=h;rcases h4.at' with rfl|e
 ·exact⟨h1,h2,Fj,h4.lies⟩
 ·exact⟨(h3.fp _ e).1,h3' _ e,Fj,h4.lies⟩
theorem Aq.cell(h:Aq w B N d g o (.cell v) g0 o0 F):w.cell? ⟨g0,o0,none⟩=some v:=by
 obtain⟨_,_,Fj,h3⟩:=h.at;unfold Af at h3;exact h3.1
theorem Aq.kp(h:Aq w B N d g o d0 g0 o0 F)(hb:Below N w w1):Aq w1 B N d g o d0 g0 o0 F:=by
 obtain⟨h1,h2,h2',fp,Fj,h3,h3',h4⟩:=h
 have hsm:∀b,b=g\/b∈fp->w1.heap[b]? =w.heap[b]? :=fun b hb'=>hb.block b (by
  rcases hb' with rfl|hb'
  ·exact h2
  ·exact h3' b hb')
 refine⟨h1,h2,AX h2' hb.size,fp,Fj,h3.far hsm,h3',h4.lies.far (fun b hb'=>hsm b ?_),h4.sub,h4.at',h4.nd,fun w' Io d1 a1 a2 a3 a4 a5 a6=>?_⟩
 ·rcases hb' with rfl|hb'
  ·exact h4.at'
  ·exact .inr (h4.sub b hb')
 ·have e0:w1.heap[g0]? =w.heap[g0]? :=hsm g0 h4.at';have back:∀{g2 o2 n:Nat},w1.heap[g2]? =w.heap[g2]?->BS w1 w' g2 o2 n->BS w w' g2 o2 n:=fun e hs=>by
   obtain⟨c,c',t,m,b1,b2,b3,b4⟩:=hs;exact⟨c,c',t,m,e.symm.trans b1,b2,b3,b4⟩
  obtain⟨fp',c1,c2,c3,c4,c5⟩:=h4.fill w' Io d1 a1 (fun b hb' h6 h7=>(a2 b hb' h6 h7).trans (hsm b hb')) (back e0 a3) a4 a5 a6;obtain⟨c,c',t,m,b1,b2,b3,b4⟩:=c4;exact⟨fp',c1,c2,c3,⟨c,c',t,m,(hsm g (.inl rfl)).trans b1,b2,b3,b4⟩,c5⟩
theorem Aq.fill{w':World}{d1:Dt}{N':Nat}(h:Aq w B N d g o d0 g0 o0 F)(hN:N<=N')(hw:d1.wd=d0.wd)(hs:BS w w' g0 o0 d0.wd)(hsz:N'<=w'.heap.size)(hk:∀Fj,Af w B d0 g0 o0 Fj->(g0::Fj).Nodup->(∀b∈Fj,b<N)->(∀b,b<N->b≠g0->b∉Fj->w'.heap[b]? =w.heap[b]?)/\∃Io,Af w' B d1 g0 o0 Io/\(∀b,b∈Io->b∈Fj\/(N<=b/\b<N'))/\(g0::Io).Nodup):Own w' B N' (F d1) g o:=by
 obtain⟨h1,h2,h2',fp,Fj,h3,h3',h4⟩:=h;obtain⟨k1,Io,k2,k3,k4⟩:=hk Fj h4.lies h4.nd (fun b hb=>h3' b (h4.sub b hb));have hl:∀b,b=g\/b∈fp->b<N:=fun b hb'=>by
  rcases hb' with rfl|hb'
  ·exact h2
  ·exact h3' b hb'
 obtain⟨fp',c1,c2,c3,c4,c5⟩:=h4.fill w' Io d1 hw (fun b hb' h6 h7=>k1 b (hl b hb') h6 h7) hs k2 (fun b hb'=>by
  rcases k3 b hb' with h|h
  ·exact .inl h
  ·refine .inr ⟨fun e=>?_,fun e=>?_⟩
   ·have:=hl b (.inl e);omega
   ·have:=hl b (.inr e);omega) k4
 refine⟨h1,A9 h2 hN,hsz,fp',c1,c2,fun b hb'=>?_⟩;rcases c3 b hb' with h|h
 ·exact A9 (h3' b h) hN
 ·rcases k3 b h with h|h
  ·exact A9 (h3' b (h4.sub b h)) hN
  ·exact h.2
theorem G7(w:World)(a:Addr)(v:Value):(w.setCell a v).heap.size=w.heap.size:=by simp[World.setCell]
theorem Aq.set1{v0:Value}(h:Aq w B N d g o (.cell v0) g0 o0 F){v1:Value}(h1:v1.oneCell'=true):Own (w.setCell ⟨g0,o0,none⟩ v1) B N (F (.cell v1)) g o:=by
 have hc:=h.cell;refine h.fill (AQ) (by rfl) (BS.set hc v1 (AQ) (by simp[Dt.wd])) (by rw[G7];exact h.sz) fun Fj _ _ _=>?_;refine⟨fun b _ hb _=>Below.heap_setCell _ _ _ _ (fun e=>hb e),[],?_,?_,?_⟩
 ·unfold Af;exact⟨World.cell?_setCell_same _ _ _ hc,rfl,h1⟩
 ·intro b hb;cases hb
 ·simp
theorem Dh{s:Nat}{xs:List Value}{C:Nat}(h:w.ownsRow B e s v n xs)(hb:Below C w w1)(hC:w.heap.size<=C):w1.ownsRow B e s v n xs:=World.ownsRow.kept h (Ez hb hC) (by cases v.ownBlock<;>simp)
theorem Aq.owns{s:Nat}{l:List Dt}(h:Aq w B N d g o (.row e s l) g0 o0 F):∃v xs,w.cell? ⟨g0,o0,none⟩=some v/\w.ownsRow B e s v l.length xs/\∃p c,v=.slice p l.length c:=by
 obtain⟨p1,p2,Fj,p3⟩:=h.at;obtain⟨v,hc,hv⟩:=p3.row;obtain⟨xs,hx⟩:=hv.owns;exact⟨v,xs,hc,hx,hv.slice⟩
theorem Aq.push{s:Nat}{l r:List Dt}{v':Value}{fd:List Nat}{ga oa:Nat}{xs news:List Value}(h:Aq w B N d g o (.row e s l) g0 o0 F)(hb:Below N w w1)(hr:AP w1 N r ga oa fd)(hn:fd.Nodup)(hs:∀x∈r,x.wd=s) (hr0:0<r.length) (hl:news.length=r.length*s) (hnews:∀j,j<r.length*s->w1.cell? ⟨ga,oa+j,none⟩=news[j]?) (hc:w.cell? ⟨g0,o0,none⟩=some v) (hx:w1.ownsRow B e s v l.length xs)(ho:w2.ownsRow B e s v' (l.length+r.length) (xs++news)) (hg:w1.grownBy w2 v.ownBlock) (hf:∀k,v'.ownBlock=some k->v.ownBlock=some k\/w1.heap.size<=k):Own (w2.setCell ⟨g0,o0,none⟩ v') B w2.heap.size (F (.row e s (l++r))) g o:=by
 have hlt:=h.lt;obtain⟨p1,p2,fq,p3⟩:=h.at;have hge:=h.ge;have hB:B<=N:=by omega
 have hsz0:=h.sz;have hsz:w.heap.size<=w1.heap.size:=hb.size;have hsz2:w1.heap.size<=w2.heap.size:=hg.size;obtain⟨v0,hc',hv0⟩:=p3.row;rw[hc]at hc';obtain rfl:v=v0:=by simpa using hc'
 have hc1:w1.cell? ⟨g0,o0,none⟩=some v:=by rw[hb.cell p2];exact hc
 have hrB:AP w1 B r ga oa fd:=hr.mono (by omega);have qm:∀b,b∈fd->N<=b:=fun b hb'=>(hr.fp b hb').1;refine h.fill (N':=w2.heap.size) (by omega) (by rfl) (w':=w2.setCell ⟨g0,o0,none⟩ v') ?_ (by rw[G7];exact AQ) fun Fj hl0 hn0 hN0=>?_
 ·have qj:v.ownBlock≠some g0:=fun e1=>by
   obtain⟨h1,h2,h2',fp,Fj,h3,h3',h4⟩:=h;obtain⟨v0,hc',hv0⟩:=h4.lies.row;rw[hc]at hc';obtain rfl:v=v0:=(by simpa using hc');exact(BN.1 h4.nd).1 (hv0.own g0 e1)
  have e0:w2.heap[g0]? =w.heap[g0]? :=(hg.block g0 (by omega) (fun e=>qj e.symm)).trans (hb.block g0 p2);have hc2:w2.cell? ⟨g0,o0,none⟩=some v:=(BM e0 _).trans hc;obtain⟨c,c',t,m,b1,b2,b3,b4⟩:=BS.set (w:=w2) (g:=g0) (k:=o0) (o:=o0) (n:=Dt.wd (.row e s l)) hc2 v' (AQ) (by simp[Dt.wd]);exact⟨c,c',t,m,e0.symm.trans b1,b2,b3,b4⟩
 ·obtain⟨v0,hc',hv⟩:=hl0.row;rw[hc]at hc';obtain rfl:v=v0:=by simpa using hc'
  have yE:∀b,b∈Fj->b<N:=hN0;have hv1:AZ w1 B e s l v Fj:=hv.same fun b hb'=>hb.block b (yE b hb')
  obtain⟨Io,k1,k2,k3⟩:=hv1.push hx hrB hs hr0 hl hnews ho hg hf (BN.1 hn0).2 hn (fun b hb' e=>by
   have:=qm b hb';have:=yE b e
   omega)
  have qj:v.ownBlock≠some g0:=fun e1=>(BN.1 hn0).1 (hv.own g0 e1);have hg1:g0∉Io:=fun e1=>by
   rcases k3 g0 e1 with h|h|h
   ·exact(BN.1 hn0).1 h
   ·have:=qm g0 h;omega
   ·omega
  have e0:w2.heap[g0]? =w.heap[g0]? :=(hg.block g0 (by omega) (fun e=>qj e.symm)).trans (hb.block g0 p2);have hc2:w2.cell? ⟨g0,o0,none⟩=some v:=(BM e0 _).trans hc;refine⟨fun b hb1 hb2 hb3=>(Below.heap_setCell _ _ _ _ (fun e=>hb2 e)).trans ((hg.block b (by omega) (fun e=>hb3 (hv.own b e.symm))).trans (hb.block b hb1)),Io,?_,?_,BN.2 ⟨hg1,k2⟩⟩
  ·exact(k1.same fun b hb'=>Below.heap_setCell _ _ _ _ (fun e=>hg1 (by rw[show g0=b from e.symm];exact hb'))).lies (World.cell?_setCell_same _ _ _ hc2)
  ·intro b hb';have hlt2:=(k1.fp b hb').2;rcases k3 b hb' with h|h|h
   ·exact .inl h
   ·have:=qm b h;exact .inr ⟨by omega,hlt2⟩
   ·exact .inr ⟨by omega,hlt2⟩
theorem Aq.cut{s:Nat}{l:List Dt}(h:Aq w B N d g o (.row e s (l++[x])) g0 o0 F):∃g' cap,w.cell? ⟨g0,o0,none⟩=some (.slice (some ⟨g',0,none⟩) (l.length+1) cap)/\l.length+1<=cap/\Own (w.setCell ⟨g0,o0,none⟩ (.slice (some ⟨g',0,none⟩) l.length cap)) B N (F (.row e s l)) g o:=by
 obtain⟨p1,p2,fq,p3⟩:=h.at;obtain⟨v,hc,hv⟩:=p3.row;rcases hv with⟨_,h2,_⟩|⟨g',cap,cur,f',rfl,h2,h3,h4,h5,h6,rfl,h8,h9⟩
 ·simp at h2
 rw[List.length_append,List.length_singleton]at hc h4;refine⟨g',cap,hc,h4,?_⟩;refine h.fill (AQ) (by rfl) (BS.set hc _ (AQ) (by simp[Dt.wd])) (by rw[G7];exact h.sz) fun Fj hl0 hn0 _=>?_;obtain⟨v0,hc',hv0⟩:=hl0.row;rw[hc]at hc';obtain rfl:Value.slice (some ⟨g',0,none⟩) (l.length+1) cap=v0:=by simpa using hc'
 rcases hv0 with⟨_,k2,_⟩|⟨g2,cap2,jP,f2,k1,k2,k3,k4,k5,k6,rfl,k8,k9⟩
 ·simp at k2
 have hcap:some g'=some g2/\cap=cap2:=by simpa using k1
 obtain⟨hgg,rfl⟩:=hcap;obtain rfl:g'=g2:=by simpa using hgg
 obtain⟨f3,f4,rfl,m1,m2⟩:=AP.app.1 k9;have hgn:g0≠g'/\g0∉f3:=by
  have:=(BN.1 hn0).1;simp only[List.mem_cons,List.mem_append,not_or]at this;exact⟨this.1,this.2.1⟩
 have hnn:=(BN.1 hn0).2;rw[BN,GL]at hnn;refine⟨fun b _ hb _=>Below.heap_setCell _ _ _ _ (fun e=>hb e),g'::f3,?_,fun b hb=> .inl ?_,?_⟩
 ·refine AZ.lies (v:=.slice (some ⟨g',0,none⟩) l.length cap) (.inr ⟨g',cap,jP,f3,rfl,k2,(Below.heap_setCell _ _ _ _ (fun e=>hgn.1 e.symm)).trans k3,by omega,k5,k6,rfl,fun d hd=>k8 d (by simp[hd]),?_⟩) (World.cell?_setCell_same _ _ _ hc);refine m1.move (fun j _=>BM (Below.heap_setCell _ _ _ _ (fun e=>hgn.1 e.symm)) _) (fun b hb=>Below.heap_setCell _ _ _ _ (fun e=>hgn.2 (by rw[show g0=b from e.symm];exact hb)))
 ·simp only[List.mem_cons,List.mem_append]at hb⊢;rcases hb with h|h
  ·exact .inl h
  ·exact .inr (.inl h)
 ·simp only[BN,List.mem_cons,not_or];simp only[List.mem_append,not_or]at hnn;exact⟨⟨hgn.1,hgn.2⟩,hnn.1.1,hnn.2.1⟩
theorem Aq.put{m:Vm}(h:Aq w B N d g o (.mp m) g0 o0 F):∃b,w.cell? ⟨g0,o0,none⟩=some (.map (some b))/\B<=b/\CQ w b m/\b<N/\∀w' m',CQ w' b m'->(∀k,k≠b->w'.heap[k]? =w.heap[k]?)->w.heap.size<=w'.heap.size->Own w' B N (F (.mp m')) g o:=by
 obtain⟨b,hc,hB,hm,hbN⟩:∃b,w.cell? ⟨g0,o0,none⟩=some (.map (some b))/\B<=b/\CQ w b m/\b<N:=by
  obtain⟨h1,h2,h2',fp,Fj,h3,h3',h4⟩:=h;have p3:=h4.lies;unfold Af at p3;obtain⟨b,hc,hB,hm,rfl⟩:=p3;exact⟨b,hc,hB,hm,h3' b (h4.sub b (by simp))⟩
 refine⟨b,hc,hB,hm,hbN,fun w' m' hm' hk hsz=>?_⟩;have hgb:g0≠b:=by
  obtain⟨h1,h2,h2',fp,Fj,h3,h3',h4⟩:=h;have hl:=h4.lies;unfold Af at hl;obtain⟨b',hc',_,_,rfl⟩:=hl;rw[hc]at hc';obtain rfl:b=b':=by simpa using hc'
  simpa using(BN.1 h4.nd).1
 refine h.fill (AQ) (by rfl) (BS.of_eq hc (hk g0 hgb)) (AX h.sz hsz) fun Fj hl0 hn0 _=>?_;unfold Af at hl0;obtain⟨b',hc',_,_,rfl⟩:=hl0;rw[hc]at hc';obtain rfl:b=b':=by simpa using hc'
 refine⟨fun k _ _ hb=>hk k (by simpa using hb),[b],?_,fun k hk'=> .inl hk',hn0⟩;unfold Af;exact⟨b,(BM (hk g0 hgb) _).trans hc,hB,hm',rfl⟩
end
end
section
def dS(s:ByteArray):Dt:=.cell (.string s)
def dN(n:Int):Dt:=.cell (.int .i64 n)
def IQ(x:Vr):Dt:=.agg [dS x.n,dS x.t]
def gP(x:Cl):Dt:=.agg [dS x.n,.row 71 2 (x.fs.map IQ)]
def nS(x:Ex):Dt:=.agg [dS x.n,dN x.k]
def Ls(x:Ag):Dt:=.agg [dN x.k,dS x.s,dN x.n]
def nT(x:Bd):Dt:=.agg [dS x.n,Ls x.a]
def nR(x:Fr):Dt:=.agg [dS x.f,dS x.b,dN x.i,.row 234 4 (x.vs.map nT)]
def nQ(x:Vt):Dt:=.agg [dS x.c,.row 77 3 (x.vs.map Ls)]
def TD(x:Is):Dt:=.agg [dN x.op,dS x.d,dS x.n,.row 77 3 (x.as.map Ls),.row 232 4 (x.fr.map nR),.row 238 2 (x.ob.map nQ)]
def xG(x:TH):Dt:=.agg [dS x.b,Ls x.a]
def PZ(x:Ph):Dt:=.agg [dS x.d,.row 213 4 (x.is.map xG)]
def TW(x:Tm):Dt:=.agg [dN x.k,Ls x.a,.row 9 1 (x.to.map dS),dN x.n]
def Pb(x:Bk):Dt:=.agg [dS x.n,.row 211 2 (x.ps.map PZ),.row 133 6 (x.cs.map TD),TW x.e]
def dFn(x:Fn):Dt:=.agg [dS x.n,dS x.r,.row 71 2 (x.ps.map IQ),.row 71 2 (x.vs.map IQ),.row 82 9 (x.bs.map Pb)]
def Qk(x:Pg):Dt:=.agg [.cell (.bool x.ssa),.row 153 2 (x.cs.map gP),.row 71 2 (x.gs.map IQ),.row 155 2 (x.xs.map nS),.row 66 5 (x.fs.map dFn)]
theorem P9(x:Vr):(IQ x).wd=2:=rfl
theorem uM(x:Cl):(gP x).wd=2:=rfl
theorem uL(x:Ex):(nS x).wd=2:=rfl
theorem MX(x:Ag):(Ls x).wd=3:=rfl
theorem aU(x:Bd):(nT x).wd=4:=rfl
theorem uJ(x:Fr):(nR x).wd=4:=rfl
theorem uF(x:Vt):(nQ x).wd=2:=rfl
theorem uH(x:Is):(TD x).wd=6:=rfl
theorem uI(x:TH):(xG x).wd=4:=rfl
theorem uG(x:Ph):(PZ x).wd=2:=rfl
theorem uN(x:Bk):(Pb x).wd=9:=rfl
theorem uK(x:Fn):(dFn x).wd=5:=rfl
theorem Ig(x:Pg):(Qk x).wd=5:=rfl
abbrev Ln{α:Type}(l:List α):Prop:=l.length<=140737488351232
def oq(x:Vr):Prop:=Sz x.n/\Sz x.t
def oCl(x:Cl):Prop:=Sz x.n/\Ln x.fs/\∀v∈x.fs,oq v
def oEx(x:Ex):Prop:=Sz x.n
def VJ(x:Ag):Prop:=Sz x.s
def oBd(x:Bd):Prop:=Sz x.n/\VJ x.a
def oFr(x:Fr):Prop:=Sz x.f/\Sz x.b/\Ln x.vs/\∀v∈x.vs,oBd v
def oVt(x:Vt):Prop:=Sz x.c/\Ln x.vs/\∀v∈x.vs,VJ v
def oIs(x:Is):Prop:=Sz x.d/\Sz x.n/\(Ln x.as/\∀v∈x.as,VJ v)/\(Ln x.fr/\∀v∈x.fr,oFr v)/\Ln x.ob/\∀v∈x.ob,oVt v
def oIn(x:TH):Prop:=Sz x.b/\VJ x.a
def oPh(x:Ph):Prop:=Sz x.d/\Ln x.is/\∀v∈x.is,oIn v
def oTm(x:Tm):Prop:=VJ x.a/\Ln x.to/\∀v∈x.to,Sz v
def oBk(x:Bk):Prop:=Sz x.n/\(Ln x.ps/\∀v∈x.ps,oPh v)/\(Ln x.cs/\∀v∈x.cs,oIs v)/\oTm x.e
def oFn(x:Fn):Prop:=Sz x.n/\Sz x.r/\(Ln x.ps/\∀v∈x.ps,oq v)/\(Ln x.vs/\∀v∈x.vs,oq v)/\Ln x.bs/\∀v∈x.bs,oBk v
def oPg(x:Pg):Prop:=(Ln x.cs/\∀v∈x.cs,oCl v)/\(Ln x.gs/\∀v∈x.gs,oq v)/\(Ln x.xs/\∀v∈x.xs,oEx v)/\Ln x.fs/\∀v∈x.fs,oFn v
section
variable {w : World} {B g o : Nat} {F : List Nat}
theorem Af.c(h:Af w B (.cell v) g o F):w.cell? ⟨g,o,none⟩=some v:=by
 unfold Af at h;exact h.1
theorem AP.hd{d:Dt}{r:List Dt}(h:AP w B (d::r) g o F):∃f1 f2,Af w B d g o f1/\AP w B r g (o+d.wd) f2:=by grind [AP,Af]
theorem Af.l{l:List Dt}(h:Af w B (.agg l) g o F):AP w B l g o F:=by
 unfold Af at h;exact h
theorem AP.nth{enc:α->Dt}{s:Nat}:∀{l:List α} {g o:Nat} {F:List Nat},AP w B (l.map enc) g o F->(∀x,(enc x).wd=s)->∀(i:Nat) x,l[i]? =some x->∃f,Af w B (enc x) g (o+i*s) f
 | [],_,_,_,_,_,i,x,h=>by simp at h
 |y::r,g,o,F,h,hs,0,x,hx=>by
  obtain rfl:y=x:=by simpa using hx
  obtain⟨f1,f2,h1,_⟩:=AP.hd (show AP w B (enc y::r.map enc) g o F from h)
  exact⟨f1,by rw[Nat.zero_mul,Nat.add_zero];exact h1⟩
 |y::r,g,o,F,h,hs,i+1,x,hx=>by
  obtain⟨f1,f2,_,h2⟩:=AP.hd (show AP w B (enc y::r.map enc) g o F from h);obtain⟨f,hf⟩:=AP.nth h2 hs i x (by simpa using hx);refine⟨f,?_⟩;rw[hs,Nat.add_assoc]at hf;rw[Nat.add_mul,Nat.one_mul,Nat.add_comm (i*s) s];exact hf
theorem AZ.view{enc:α->Dt}{E:World->Addr->α->Prop}{ok:α->Prop}{s:Nat}{l:List α}(h:AZ w B e s (l.map enc) v F)(hs:∀x,(enc x).wd=s)(hE:∀x g o f,ok x->Af w B (enc x) g o f->E w ⟨g,o,none⟩ x) (hl:Ln l) (ho:∀x∈l,ok x):Row E s w v l:=by
 rcases h with⟨rfl,h2,_⟩|⟨g',cap,cur,f',rfl,h2,h3,h4,h5,h6,rfl,h8,h9⟩
 ·have:l=[]:=by simpa using h2
  subst this;exact⟨none,0,rfl,fun _=>⟨rfl,rfl⟩,⟨AY,AQ⟩,fun i x hx=>by simp at hx⟩
 ·refine⟨some ⟨g',0,none⟩,cap,by simp,(fun e=>by cases e),⟨hl,by simpa using h4⟩,fun i x hx=>⟨_,rfl,?_⟩⟩;obtain⟨f,hf⟩:=h9.nth hs i x hx;rw[Dk];exact hE x _ _ f (ho x (List.mem_of_getElem? hx)) hf
theorem Af.view{enc:α->Dt}{E:World->Addr->α->Prop}{ok:α->Prop}{s:Nat}{l:List α}(h:Af w B (.row e s (l.map enc)) g o F)(hs:∀x,(enc x).wd=s)(hE:∀x g o f,ok x->Af w B (enc x) g o f->E w ⟨g,o,none⟩ x) (hl:Ln l) (ho:∀x∈l,ok x):∃u,w.cell? ⟨g,o,none⟩=some u/\Row E s w u l:=by
 obtain⟨v,hc,hv⟩:=h.row;exact⟨v,hc,hv.view hs hE hl ho⟩
theorem vS{x:ByteArray}(hx:Sz x)(h:Af w B (dS x) g o F):DL w ⟨g,o,none⟩ x:=⟨h.c,hx⟩
theorem vV{x:Vr}(hx:oq x)(h:Af w B (IQ x) g o F):IU w ⟨g,o,none⟩ x:=by
 obtain⟨_,_,h1,h2⟩:=h.l.hd;obtain⟨_,_,h3,_⟩:=h2.hd;exact⟨⟨h1.c,hx.1⟩,h3.c,hx.2⟩
theorem vC{x:Cl}(hx:oCl x)(h:Af w B (gP x) g o F):Y0 w ⟨g,o,none⟩ x:=by
 obtain⟨_,_,h1,h2⟩:=h.l.hd;obtain⟨_,_,h3,_⟩:=h2.hd;exact⟨⟨h1.c,hx.1⟩,h3.view P9 (fun _ _ _ _ a b=>vV a b) hx.2.1 hx.2.2⟩
theorem vX{x:Ex}(hx:oEx x)(h:Af w B (nS x) g o F):gV w ⟨g,o,none⟩ x:=by
 obtain⟨_,_,h1,h2⟩:=h.l.hd;obtain⟨_,_,h3,_⟩:=h2.hd;exact⟨⟨h1.c,hx⟩,h3.c⟩
theorem vA{x:Ag}(hx:VJ x)(h:Af w B (Ls x) g o F):Lg w ⟨g,o,none⟩ x:=by
 obtain⟨_,_,h1,h2⟩:=h.l.hd;obtain⟨_,_,h3,h4⟩:=h2.hd;obtain⟨_,_,h5,_⟩:=h4.hd;exact⟨h1.c,⟨h3.c,hx⟩,h5.c⟩
theorem vA'{x:Ag}{k:Nat}(hx:VJ x)(h:Af w B (Ls x) g (o+k) F):Q5 w ⟨g,o,none⟩ k x:=by
 obtain⟨h1,h2,h3⟩:=vA hx h;exact⟨h1,h2,h3⟩
theorem vB{x:Bd}(hx:oBd x)(h:Af w B (nT x) g o F):iQ w ⟨g,o,none⟩ x:=by
 obtain⟨_,_,h1,h2⟩:=h.l.hd;obtain⟨_,_,h3,_⟩:=h2.hd;exact⟨⟨h1.c,hx.1⟩,vA' hx.2 h3⟩
theorem vFr{x:Fr}(hx:oFr x)(h:Af w B (nR x) g o F):Py w ⟨g,o,none⟩ x:=by
 obtain⟨_,_,h1,h2⟩:=h.l.hd;obtain⟨_,_,h3,h4⟩:=h2.hd;obtain⟨_,_,h5,h6⟩:=h4.hd;obtain⟨_,_,h7,_⟩:=h6.hd;exact⟨⟨h1.c,hx.1⟩,⟨h3.c,hx.2.1⟩,h5.c,h7.view aU (fun _ _ _ _ a b=>vB a b) hx.2.2.1 hx.2.2.2⟩
theorem vVt{x:Vt}(hx:oVt x)(h:Af w B (nQ x) g o F):Pw w ⟨g,o,none⟩ x:=by
 obtain⟨_,_,h1,h2⟩:=h.l.hd;obtain⟨_,_,h3,_⟩:=h2.hd;exact⟨⟨h1.c,hx.1⟩,h3.view MX (fun _ _ _ _ a b=>vA a b) hx.2.1 hx.2.2⟩
theorem vI{x:Is}(hx:oIs x)(h:Af w B (TD x) g o F):WZ w ⟨g,o,none⟩ x:=by
 obtain⟨_,_,h1,h2⟩:=h.l.hd;obtain⟨_,_,h3,h4⟩:=h2.hd;obtain⟨_,_,h5,h6⟩:=h4.hd;obtain⟨_,_,h7,h8⟩:=h6.hd;obtain⟨_,_,h9,h10⟩:=h8.hd;obtain⟨_,_,h11,_⟩:=h10.hd
 exact⟨h1.c,⟨h3.c,hx.1⟩,⟨h5.c,hx.2.1⟩,h7.view MX (fun _ _ _ _ a b=>vA a b) hx.2.2.1.1 hx.2.2.1.2,h9.view uJ (fun _ _ _ _ a b=>vFr a b) hx.2.2.2.1.1 hx.2.2.2.1.2,
  h11.view uF (fun _ _ _ _ a b=>vVt a b) hx.2.2.2.2.1 hx.2.2.2.2.2⟩
theorem vIn{x:TH}(hx:oIn x)(h:Af w B (xG x) g o F):AtIn w ⟨g,o,none⟩ x:=by
 obtain⟨_,_,h1,h2⟩:=h.l.hd;obtain⟨_,_,h3,_⟩:=h2.hd;exact⟨⟨h1.c,hx.1⟩,vA' hx.2 h3⟩
theorem vPh{x:Ph}(hx:oPh x)(h:Af w B (PZ x) g o F):Px w ⟨g,o,none⟩ x:=by
 obtain⟨_,_,h1,h2⟩:=h.l.hd;obtain⟨_,_,h3,_⟩:=h2.hd;exact⟨⟨h1.c,hx.1⟩,h3.view uI (fun _ _ _ _ a b=>vIn a b) hx.2.1 hx.2.2⟩
theorem vT'{x:Tm}{k:Nat}(hx:oTm x)(h:Af w B (TW x) g (o+k) F):XD w ⟨g,o,none⟩ k x:=by
 obtain⟨_,_,h1,h2⟩:=h.l.hd;obtain⟨_,_,h3,h4⟩:=h2.hd;obtain⟨_,_,h5,h6⟩:=h4.hd;obtain⟨_,_,h7,_⟩:=h6.hd;exact⟨h1.c,vA' (k:=k+1) hx.1 h3,h5.view (fun _=>rfl) (fun _ _ _ _ a b=>vS a b) hx.2.1 hx.2.2,h7.c⟩
theorem vBk{x:Bk}(hx:oBk x)(h:Af w B (Pb x) g o F):Jf w ⟨g,o,none⟩ x:=by
 obtain⟨_,_,h1,h2⟩:=h.l.hd;obtain⟨_,_,h3,h4⟩:=h2.hd;obtain⟨_,_,h5,h6⟩:=h4.hd;obtain⟨_,_,h7,_⟩:=h6.hd;exact⟨⟨h1.c,hx.1⟩,h3.view uG (fun _ _ _ _ a b=>vPh a b) hx.2.1.1 hx.2.1.2,h5.view uH (fun _ _ _ _ a b=>vI a b) hx.2.2.1.1 hx.2.2.1.2,vT' (k:=3) hx.2.2.2 h7⟩
theorem vF{x:Fn}(hx:oFn x)(h:Af w B (dFn x) g o F):VP w ⟨g,o,none⟩ x:=by
 obtain⟨_,_,h1,h2⟩:=h.l.hd;obtain⟨_,_,h3,h4⟩:=h2.hd;obtain⟨_,_,h5,h6⟩:=h4.hd;obtain⟨_,_,h7,h8⟩:=h6.hd;obtain⟨_,_,h9,_⟩:=h8.hd
 exact⟨⟨h1.c,hx.1⟩,⟨h3.c,hx.2.1⟩,h5.view P9 (fun _ _ _ _ a b=>vV a b) hx.2.2.1.1 hx.2.2.1.2,h7.view P9 (fun _ _ _ _ a b=>vV a b) hx.2.2.2.1.1 hx.2.2.2.1.2,
  h9.view uN (fun _ _ _ _ a b=>vBk a b) hx.2.2.2.2.1 hx.2.2.2.2.2⟩
theorem vP{x:Pg}(hx:oPg x)(h:Af w B (Qk x) g o F):∃u1 u2 u3 u4,w.cell? ⟨g,o,none⟩=some (.bool x.ssa)/\w.cell? ⟨g,o+1,none⟩=some u1/\w.cell? ⟨g,o+2,none⟩=some u2/\w.cell? ⟨g,o+3,none⟩=some u3/\w.cell? ⟨g,o+4,none⟩=some u4/\Cj w (.agg #[.bool x.ssa,u1,u2,u3,u4]) x u1 u2 u3 u4:=by
 obtain⟨_,_,h1,h2⟩:=h.l.hd;obtain⟨_,_,h3,h4⟩:=h2.hd;obtain⟨_,_,h5,h6⟩:=h4.hd;obtain⟨_,_,h7,h8⟩:=h6.hd;obtain⟨_,_,h9,_⟩:=h8.hd;obtain⟨u1,c1,r1⟩:=h3.view uM (fun _ _ _ _ a b=>vC a b) hx.1.1 hx.1.2;obtain⟨u2,c2,r2⟩:=h5.view P9 (fun _ _ _ _ a b=>vV a b) hx.2.1.1 hx.2.1.2;obtain⟨u3,c3,r3⟩:=h7.view uL (fun _ _ _ _ a b=>vX a b) hx.2.2.1.1 hx.2.2.1.2;obtain⟨u4,c4,r4⟩:=h9.view uK (fun _ _ _ _ a b=>vF a b) hx.2.2.2.1 hx.2.2.2.2;exact⟨u1,u2,u3,u4,h1.c,c1,c2,c3,c4,rfl,r1,r2,r3,r4⟩
end
end
section
def C9(v:Vu):Dt:=.agg [dS v.1,dN v.2]
def Kw(x:Lv):Dt:=.agg [dS x.f,dS x.b,dN x.i,.mp x.vars]
def Ld(x:Ob):Dt:=.agg [dS x.c,.row 34 2 (x.vs.map C9)]
def Qc(e:Ev):Dt:=.agg [dS e.n,.row 2 1 (e.ar.map dN),dN e.r,.cell (.bool e.fl)]
def Eh(s:St):Dt:=.agg [dN s.status,C9 s.result,dN s.code,.row 84 4 (s.frames.map Kw),.row 119 2 (s.heap.map Ld),.row 34 2 (s.globals.map C9),
 .row 59 4 (s.trace.map Qc),.row 2 1 (s.marks.map dN),dN s.allocs,dN s.steps,dN s.guards,dN s.asked]
theorem uE(x:Vu):(C9 x).wd=2:=rfl
theorem UG(x:Lv):(Kw x).wd=4:=rfl
theorem UF(x:Ob):(Ld x).wd=2:=rfl
theorem UH(x:Ev):(Qc x).wd=4:=rfl
theorem QA(x:St):(Eh x).wd=13:=rfl
structure Hd where (u0 u1 u2 u3 u4 av fv:Value)
def dM(k:Hd)(s:St)(j:Int):Dt:=.agg [.cell k.u0,.cell k.u1,.cell k.u2,.cell k.u3,.cell k.u4,Eh s,.cell k.av,.cell k.fv,dN j]
structure Am(w:World)(B N M:Nat)(k:Hd)(s:St)(j:Int):Prop where
 own:Own w B N (dM k s j) M 0
 typ:∃cur T,w.heap[M]? =some (.cells cur T (0,0))
section
variable {w w1 : World} {B N M : Nat} {k : Hd} {s : St} {j : Int}
theorem Am.kp(h:Am w B N M k s j)(hb:Below N w w1):Am w1 B N M k s j:=⟨h.own.kp hb,by
 obtain⟨cur,T,e⟩:=h.typ
 exact⟨cur,T,(hb.block M h.own.lt).trans e⟩⟩
theorem Am.Bw(h:Am w B N M k s j)(i:Nat):w.frozen? ⟨M,i,none⟩=false:=by
 obtain⟨cur,T,e⟩:=h.typ;unfold World.frozen?;grind
theorem Iq{cur:Array Value}{T:TypeId}(e:w.heap[M]? =some (.cells cur T (0,0)))(a:Addr)(v:Value):∃cur T,(w.setCell a v).heap[M]? =some (.cells cur T (0,0)):=by
 by_cases h:a.block=M
 ·subst h;unfold World.setCell;simp only[Array.getElem?_modify,if_true,e,Option.map_some];split<;>exact⟨_,_,rfl⟩
 ·exact⟨cur,T,(Below.heap_setCell _ _ _ _ (fun e=>h e.symm)).trans e⟩
theorem Am.of(h:Am w B N M k s j){s':St}{j':Int}{d:Dt}{a:Addr}(ho:Own (w.setCell a v) B N d M 0)(e:d=dM k s' j'):Am (w.setCell a v) B N M k s' j':=by
 obtain⟨cur,T,e1⟩:=h.typ;exact⟨e▸ho,Iq e1 a v⟩
theorem Am.hd(h:Am w B N M k s j):w.cell? ⟨M,0,none⟩=some k.u0/\w.cell? ⟨M,1,none⟩=some k.u1/\w.cell? ⟨M,2,none⟩=some k.u2/\w.cell? ⟨M,3,none⟩=some k.u3/\w.cell? ⟨M,4,none⟩=some k.u4/\w.cell? ⟨M,18,none⟩=some k.av/\w.cell? ⟨M,19,none⟩=some k.fv/\w.cell? ⟨M,20,none⟩=some (.int .i64 j):=by
 have s0:=h.own.spot;unfold dM at s0;exact⟨(s0.nth 0 rfl rfl).cell,(s0.nth 1 rfl rfl).cell,(s0.nth 2 rfl rfl).cell,(s0.nth 3 rfl rfl).cell,(s0.nth 4 rfl rfl).cell,(s0.nth 6 rfl (n:=18) (by simp[Dt.DF,Dt.wd,QA])).cell,(s0.nth 7 rfl (n:=19) (by simp[Dt.DF,Dt.wd,QA])).cell,Aq.cell (s0.nth 8 rfl (n:=20) (by simp[Dt.DF,Dt.wd,QA]))⟩
theorem Am.st(h:Am w B N M k s j):Aq w B N (dM k s j) M 0 (Eh s) M 5 (fun y=> .agg [.cell k.u0,.cell k.u1,.cell k.u2,.cell k.u3,.cell k.u4,y,.cell k.av,.cell k.fv,dN j]):=by
 have s0:=h.own.spot;unfold dM at s0;have s1:=s0.nth 5 rfl (n:=5) (by simp[Dt.DF,Dt.wd]);exact s1
theorem Am.ns(h:Am w B N M k s j):w.cell? ⟨M,5,none⟩=some (.int .i64 s.status)/\w.cell? ⟨M,6,none⟩=some (.string s.result.1)/\w.cell? ⟨M,7,none⟩=some (.int .i64 s.result.2)/\w.cell? ⟨M,8,none⟩=some (.int .i64 s.code)/\w.cell? ⟨M,14,none⟩=some (.int .i64 s.allocs)/\w.cell? ⟨M,15,none⟩=some (.int .i64 s.steps)/\w.cell? ⟨M,16,none⟩=some (.int .i64 s.guards)/\w.cell? ⟨M,17,none⟩=some (.int .i64 s.asked):=by
 have s0:=h.st;unfold Eh at s0;have s1:=s0.nth 1 rfl rfl;unfold C9 at s1;exact⟨Aq.cell (s0.nth 0 rfl rfl),Aq.cell (s1.nth 0 rfl rfl),Aq.cell (s1.nth 1 rfl rfl),Aq.cell (s0.nth 2 rfl rfl),Aq.cell (s0.nth 8 rfl rfl),Aq.cell (s0.nth 9 rfl rfl),Aq.cell (s0.nth 10 rfl rfl),Aq.cell (s0.nth 11 rfl rfl)⟩
structure DX(w:World)(M FB n cap b:Nat)(x:Lv):Prop where
 sl:w.cell? ⟨M,9,none⟩=some (.slice (some ⟨FB,0,none⟩) (n+1) cap)
 f:w.cell? ⟨FB,n*4,none⟩=some (.string x.f)
 bl:w.cell? ⟨FB,n*4+1,none⟩=some (.string x.b)
 i:w.cell? ⟨FB,n*4+2,none⟩=some (.int .i64 x.i)
 v:w.cell? ⟨FB,n*4+3,none⟩=some (.map (some b))
 m:CQ w b x.vars
 z:∀o,w.frozen? ⟨FB,o,none⟩=false
 l:n+1<=140737488351232
theorem DX.kp{FB cap b:Nat}{x:Lv}(h:DX w M FB n cap b x)(hb:AA6 w w1):DX w1 M FB n cap b x where
 sl:=AA hb h.sl
 f:=AA hb h.f
 bl:=AA hb h.bl
 i:=AA hb h.i
 v:=AA hb h.v
 m:=h.m.other (hb.block b h.m.lt)
 z:=fun o=>by
  have hlt:FB<w.heap.size:=World.block_lt_of_cell? w ⟨FB,n*4,none⟩ h.f;rw[hb.frozen (p:=⟨FB,o,none⟩) hlt];exact h.z o
 l:=h.l
theorem Am.top(h:Am w B N M k s j){rest:List Lv}{x:Lv}(hfr:s.frames=rest++[x])(hl:rest.length+1<=140737488351232):∃FB cap b,DX w M FB rest.length cap b x/\B<=FB/\FB<N/\B<=b/\b<N/\(∀n:Int,Am (w.setCell ⟨FB,rest.length*4+2,none⟩ (.int .i64 n)) B N M k {s with frames:=rest++[{x with i:=n.toNat}]} j\/n<0)/\(∀y:ByteArray,Am (w.setCell ⟨FB,rest.length*4+1,none⟩ (.string y)) B N M k {s with frames:=rest++[{x with b:=y}]} j)/\(∀w' m',CQ w' b m'->(∀q,q≠b->w'.heap[q]? =w.heap[q]?)->w.heap.size<=w'.heap.size->Am w' B N M k {s with frames:=rest++[{x with vars:=m'}]} j):=by
 have hSt:Eh s=.agg ([dN s.status,C9 s.result,dN s.code]++ .row 84 4 (rest.map Kw++Kw x::[])::[.row 119 2 (s.heap.map Ld),.row 34 2 (s.globals.map C9),
   .row 59 4 (s.trace.map Qc),.row 2 1 (s.marks.map dN),dN s.allocs,dN s.steps,dN s.guards,dN s.asked]):=by
  unfold Eh;rw[hfr];simp
 have s0:=h.st;rw[hSt]at s0;have s1:=s0.agg;obtain⟨FB,cap,c9,fz,_,s2⟩:=s1.row;rw[List.length_map]at c9 s2;have a0:=Aq.cell (v:=.string x.f) (Aq.nth (l:=[dS x.f,dS x.b,dN x.i,.mp x.vars]) s2 0 rfl rfl);have a1:=Aq.nth (l:=[dS x.f,dS x.b,dN x.i,.mp x.vars]) s2 1 rfl rfl;have a2:=Aq.nth (l:=[dS x.f,dS x.b,dN x.i,.mp x.vars]) s2 2 rfl rfl;have a3:=Aq.nth (l:=[dS x.f,dS x.b,dN x.i,.mp x.vars]) s2 3 rfl rfl;obtain⟨b,c3,hB,hm,hbN,hput⟩:=a3.put;have hat:=s2.at;refine⟨FB,cap,b,⟨c9,a0,Aq.cell a1,Aq.cell a2,c3,hm,?_,hl⟩,hat.1,hat.2.1,hB,hbN,fun n=>?_,fun y=>?_,fun w' m' hm' hk hsz=>?_⟩
 ·exact fz
 ·by_cases hn:n<0
  ·exact .inr hn
  ·refine .inl (h.of (Aq.set1 (v1:=.int .i64 n) a2 rfl) ?_);unfold dM Eh;simp[Kw,dN,show((n.toNat:Nat):Int)=n by omega]
 ·refine h.of (Aq.set1 (v1:=.string y) a1 rfl) ?_;unfold dM Eh;simp[Kw,dS]
 ·have ho:=hput w' m' hm' hk hsz;obtain⟨cur,T,e1⟩:=h.typ;have hMb:M≠b:=fun e=>by
   subst e;obtain⟨es,clock,e2,_⟩:=hm;rw[e1]at e2;cases e2
  refine⟨?_,cur,T,(hk M hMb).trans e1⟩;unfold dM Eh;simpa[Kw,dS,dN]using ho
end
end
abbrev Vl:=ByteArray×Int
def isRef(s:ByteArray):Bool:=s.toList==[114,101,102]
def UA(n:Nat)(v:Vl):Bool:=isRef v.1&&decide (1<=v.2)&&decide (v.2<=(n:Int))
theorem X7(ph:Option Addr)(n ch:Nat)(_:n<=9223372036854775807)(s:ByteArray)(k:Int)(h:UA n (s,k)=false)(w:World):Calls prog 194 #[.slice ph n ch,.agg #[.string s,.int .i64 k]] w fun e w'=>e=.returned (.tuple #[.agg #[.string .empty,.slice none 0 0],.bool false])/\AA6 w w':=by
 unfold UA isRef at h;dsimp only at h;have hc:(¬s.toList=[114,101,102])\/(s.toList=[114,101,102]/\k<1)\/(s.toList=[114,101,102]/\1<=k/\(n:Int)<k):=by
  by_cases e1:s.toList=[114,101,102]
  ·by_cases h1:1<=k
   ·by_cases h2:k<=(n:Int)
    ·simp[e1,h1,h2]at h
    ·exact .inr (.inr ⟨e1,h1,by omega⟩)
   ·exact .inr (.inl ⟨e1,by omega⟩)
  ·exact .inl e1
 rcases hc with e1|⟨e1,h1⟩|⟨e1,h1,h2⟩;all_goals
  go_enter func194,ntmps194;go_wp2;(refine rB rfl (by go_simp;try rfl) rfl ⟨rfl,?_⟩);(repeat(first|with_reducible assumption|exact AJ _ _|exact AL|refine Below.drew ?_|refine Below.setCell ?_ (by first|exact AQ|(dsimp only;omega)) _|refine Below.alloc ?_ (by first|exact AQ|(simp;omega)|simp) _))
def F9(t:ByteArray):ByteArray:=if t.toList=[105,110,116]\/t.toList=[102,108,111,97,116]then t else{data:=#[114,101,102]}
theorem Ju(t:ByteArray)(w:World):Calls prog 23 #[.string t] w fun e w'=>e=.returned (.agg #[.string (F9 t),.int .i64 0])/\AA6 w w':=by
 unfold F9;by_cases h1:t.toList=[105,110,116]
 ·rw[if_pos (.inl h1)];go_enter func23,ntmps23;go_wp2;(refine rO rfl (by go_simp;try rfl) rfl ⟨rfl,?_⟩);(repeat(first|with_reducible assumption|exact AJ _ _|exact AL|refine Below.drew ?_|refine Below.setCell ?_ (by first|exact AQ|(dsimp only;omega)) _|refine Below.alloc ?_ (by first|exact AQ|(simp;omega)|simp) _))
 by_cases h2:t.toList=[102,108,111,97,116]
 ·rw[if_pos (.inr h2)];go_enter func23,ntmps23;go_wp2;(refine rO rfl (by go_simp;try rfl) rfl ⟨rfl,?_⟩);(repeat(first|with_reducible assumption|exact AJ _ _|exact AL|refine Below.drew ?_|refine Below.setCell ?_ (by first|exact AQ|(dsimp only;omega)) _|refine Below.alloc ?_ (by first|exact AQ|(simp;omega)|simp) _))
 ·rw[if_neg (by simp[h1,h2])];have e1:(t.toList==[105,110,116])=false:=by simpa using h1
  have e2:(t.toList==[102,108,111,97,116])=false:=by simpa using h2
  go_enter func23,ntmps23;go_wp2;(refine rO rfl (by go_simp;try rfl) rfl ⟨rfl,?_⟩);(repeat(first|with_reducible assumption|exact AJ _ _|exact AL|refine Below.drew ?_|refine Below.setCell ?_ (by first|exact AQ|(dsimp only;omega)) _|refine Below.alloc ?_ (by first|exact AQ|(simp;omega)|simp) _))
end Go.Proofs.YtlffomedflegdaaGreatDoor
