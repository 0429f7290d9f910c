/- Part 10 of the proof: Nl, Nm, Nn, No, Np, Mex, Tp. -/
import Derived.Test.YtlffomedflegdaaGreatDoorPd09
set_option linter.all false
set_option maxHeartbeats 16000000
set_option maxRecDepth 100000
namespace Go.Proofs.YtlffomedflegdaaGreatDoor
open Go.Proofs.Tryz
open Go.RowKit
open Go.Value renaming int→cI,string→cS,slice→cY,bool→cE
open Go.IntKind renaming i64→cJ
open Option renaming some→cP,none→cX
open Bool renaming false→cA,true→cC
variable {B g i m o:Nat}{F f:List Nat}{args:List Int}{e:TypeId}{fr gl hp mk tr v:Value}{l r:List Dt}{p:Pg}{s:St}{w w0 w1:World}{xs:List Value}{α:Type}
section
open Num Dp
def Le(W:World)(na st:Nat)(R:Value->World->Prop)(dst:Addr)(V:Nat->Value)(L:Nat->Bool)(w:World):Prop:=
 (L st=cC->L na=cC)/\(L st=cA->AA6 W w/\(L na=cC->R (V na) w))/\(L st=cC->∃v0,AA6 W v0/\R (V na) v0/\w=v0.setCell dst (V na))
section
variable {W w w2 : World} {na st : Nat} {R : Value -> World -> Prop} {dst : Addr} {V : Nat -> Value} {L : Nat -> Bool}
theorem Le.start(h:AA6 W w):Le W na st R dst V (λ_=>cA) w:=by grind [Le]
def Le.keep(h:Le W na st R dst V L w)(h1:(na==i)=cA)(h2:(st==i)=cA):Le W na st R dst V (upd L i) w:=by simp_all[Le,upd]
def Le.below(h:Le W na st R dst V L w)(hs:L st=cA):AA6 W w:=(h.2.1 hs).1
theorem Le.call(h:Le W na st R dst V L w)(hs:L st=cA)(hb:AA6 w w2)(hR:R v w2)(h1:(st==na)=cA):Le W na st R dst (EB V na v) (upd L na) w2:=by grind [Le,EB,upd,Cc,AB,BL,upd_ne]
def Le.val(h:Le W na st R dst V L w)(hs:L st=cA)(hn:L na=cC):R (V na) w:=(h.2.1 hs).2 hn
theorem Le.store(h:Le W na st R dst V L w)(hs:L st=cA)(hn:L na=cC)(h1:(na==st)=cA):Le W na st R dst V (upd L st) (w.setCell dst (V na)):=by grind [Le,upd,upd_ne,Cc]
def Le.done(h:Le W na st R dst V L w)(hs:L st=cC):∃v0,AA6 W v0/\R (V na) v0/\w=v0.setCell dst (V na):=h.2.2 hs
end
abbrev WG(s:St)(fr hp gl tr mk:Value):List Value:=[cI cJ s.status,cS s.result.1,cI cJ s.result.2,cI cJ s.code,fr,hp,gl,tr,mk,cI cJ s.allocs,cI cJ s.steps,cI cJ s.guards,cI cJ s.asked]
abbrev Ko(s:St)(fr hp gl tr mk:Value):Value:=.agg #[cI cJ s.status,cS s.result.1,cI cJ s.result.2,cI cJ s.code,fr,hp,gl,tr,mk,cI cJ s.allocs,cI cJ s.steps,cI cJ s.guards,cI cJ s.asked]
abbrev gF:List Value:=[cI cJ 0,cS ⟨#[]⟩,cI cJ 0,cI cJ 0,cY cX 0 0,cY cX 0 0,cY cX 0 0,cY cX 0 0,cY cX 0 0,cI cJ 0,cI cJ 0,cI cJ 0,cI cJ 0]
structure Qx(w:World)(s:St)(fr hp gl tr mk:Value):Prop where
 fr:∃F,AZ w 0 84 4 (s.frames.map Kw) fr F
 hp:∃F,AZ w 0 119 2 (s.heap.map Ld) hp F
 gl:∃F,AZ w 0 34 2 (s.globals.map C9) gl F
 tr:∃F,AZ w 0 59 4 (s.trace.map Qc) tr F
 mk':∃F,AZ w 0 2 1 (s.marks.map dN) mk F
def RD{s:Nat}(h:∃F,AZ w 0 e s l v F)(hb:AA6 w w1):∃F,AZ w1 0 e s l v F:=by
 obtain⟨F,h⟩:=h;exact⟨F,h.same λb hb'=>hb.block b (h.fp b hb').2⟩
def Qx.kp(h:Qx w s fr hp gl tr mk)(hb:AA6 w w1):Qx w1 s fr hp gl tr mk:=⟨RD h.fr hb,RD h.hp hb,RD h.gl hb,RD h.tr hb,RD h.mk' hb⟩
def Bt(w:World)(B:Nat)(s:St)(fr hp gl tr mk:Value):Prop:=
 ∃F1 F2 F3 F4 F5,AZ w B 84 4 (s.frames.map Kw) fr F1/\AZ w B 119 2 (s.heap.map Ld) hp F2/\AZ w B 34 2 (s.globals.map C9) gl F3/\AZ w B 59 4 (s.trace.map Qc) tr F4/\AZ w B 2 1 (s.marks.map dN) mk F5/\
  (F1++(F2++(F3++(F4++F5)))).Nodup
def Bt.in(h:Bt w B s fr hp gl tr mk):Qx w s fr hp gl tr mk:=by
 obtain⟨F1,F2,F3,F4,F5,h1,h2,h3,h4,h5,-⟩:=h;exact⟨⟨_,AZ.mono (AY) h1⟩,⟨_,AZ.mono (AY) h2⟩,⟨_,AZ.mono (AY) h3⟩,⟨_,AZ.mono (AY) h4⟩,⟨_,AZ.mono (AY) h5⟩⟩
structure jW(s:St):Prop extends Small s where
 vs:∀ob∈s.heap,ob.vs.length<=1000000
 ar:∀ev∈s.trace,ev.ar.length<=1000000
theorem Lj{a b:List Nat}(ha:a.Nodup)(hb:b.Nodup)(h1:∀x∈a,x<m)(h2:∀x∈b,m<=x):(a++b).Nodup:=by grind
def Ja{enc:α->Dt}{s q:Nat}{l:List α}(h:AZ w B e s (l.map enc) v F)(hx:w.ownsRow B e s v l.length xs)(hs:∀x,(enc x).wd=s)(hq:q<l.length):∃G f,Af w B (enc l[q]) G (q*s) f/\∀k,k<s->w.cell? ⟨G,q*s+k,cX⟩=xs[q*s+k]? :=by
 rcases h with⟨-,h0,-⟩|⟨g',cap',cur',f',rfl,h2,h3,h4,h5,h6,h7,h8,h9⟩
 ·have:l=[]:=by simpa using h0
  subst this;simp at hq
 ·obtain⟨f,hf⟩:=h9.nth hs q l[q] (by simp[hq]);rw[Nat.zero_add]at hf;exact⟨g',f,hf,λk hk=>Ep (by simpa using hx) (OG hq hk)⟩
theorem dY{x:Lv}(h:Af w B (Kw x) g o F):w.cell? ⟨g,o,cX⟩=cP (cS x.f)/\w.cell? ⟨g,o+1,cX⟩=cP (cS x.b)/\w.cell? ⟨g,o+2,cX⟩=cP (cI cJ x.i)/\∃b,w.cell? ⟨g,o+3,cX⟩=cP (.map (cP b))/\CQ w b x.vars:=by
 obtain⟨_,_,h1,h2⟩:=h.l.hd;obtain⟨_,_,h3,h4⟩:=h2.hd;obtain⟨_,_,h5,h6⟩:=h4.hd;obtain⟨_,_,h7,_⟩:=h6.hd;unfold Af at h7;obtain⟨b,h7,-,h8,-⟩:=h7;exact⟨h1.c,h3.c,h5.c,b,h7,h8⟩
theorem dR{x:Ob}(h:Af w B (Ld x) g o F):w.cell? ⟨g,o,cX⟩=cP (cS x.c)/\∃u f,w.cell? ⟨g,o+1,cX⟩=cP u/\AZ w B 34 2 (x.vs.map C9) u f:=by
 obtain⟨_,_,h1,h2⟩:=h.l.hd;obtain⟨_,f,h3,h4⟩:=h2.hd;obtain⟨u,h5,h6⟩:=h3.row;exact⟨h1.c,u,_,h5,h6⟩
theorem fH{x:Ev}(h:Af w B (Qc x) g o F):w.cell? ⟨g,o,cX⟩=cP (cS x.n)/\w.cell? ⟨g,o+2,cX⟩=cP (cI cJ x.r)/\w.cell? ⟨g,o+3,cX⟩=cP (cE x.fl)/\∃u f,w.cell? ⟨g,o+1,cX⟩=cP u/\AZ w B 2 1 (x.ar.map dN) u f:=by
 obtain⟨_,_,h1,h2⟩:=h.l.hd;obtain⟨_,f,h3,h4⟩:=h2.hd;obtain⟨_,_,h7,h8⟩:=h4.hd;obtain⟨_,_,h9,_⟩:=h8.hd;obtain⟨u,h5,h6⟩:=h3.row;exact⟨h1.c,h7.c,h9.c,u,_,h5,h6⟩
structure PR(w wr:World)(s:St)(fr hp gl tr mk:Value):Prop where
 p:Ae wr w.heap.size (WG s fr hp gl tr mk)
 r:Ae wr (w.heap.size+1) gF
 b:AA6 w wr
section
variable {w wr w2 : World} {s : St} {fr hp gl tr mk : Value}
theorem PR.nx(h:PR w wr s fr hp gl tr mk)(hb:AA6 wr w2):PR w w2 s fr hp gl tr mk:=⟨h.p.nx hb,h.r.nx hb,AB h.b hb⟩
theorem PR.far(h:PR w wr s fr hp gl tr mk){F:Nat}(hF:w.heap.size+1<F)(o:Nat)(u:Value):PR w (wr.setCell ⟨F,o,cX⟩ u) s fr hp gl tr mk:=⟨h.p.far (q:=⟨F,o,cX⟩) (show F≠w.heap.size by omega) u,h.r.far (q:=⟨F,o,cX⟩) (show F≠w.heap.size+1 by omega) u,h.b.setCell (p:=⟨F,o,cX⟩) (show w.heap.size<=F by omega) u⟩
theorem PR.ADR(h:PR w wr s fr hp gl tr mk)(v:Value):PR w (wr.setCell ⟨w.heap.size,4,cX⟩ v) s v hp gl tr mk:=⟨h.p.set (i:=4) (by simp) v,h.r.far (q:=⟨w.heap.size,4,cX⟩) (show w.heap.size≠w.heap.size+1 by omega) v,h.b.setCell (p:=⟨w.heap.size,4,cX⟩) (AQ) v⟩
theorem PR.iW(h:PR w wr s fr hp gl tr mk)(v:Value):PR w (wr.setCell ⟨w.heap.size,5,cX⟩ v) s fr v gl tr mk:=⟨h.p.set (i:=5) (by simp) v,h.r.far (q:=⟨w.heap.size,5,cX⟩) (show w.heap.size≠w.heap.size+1 by omega) v,h.b.setCell (p:=⟨w.heap.size,5,cX⟩) (AQ) v⟩
theorem PR.Wj(h:PR w wr s fr hp gl tr mk)(v:Value):PR w (wr.setCell ⟨w.heap.size,6,cX⟩ v) s fr hp v tr mk:=⟨h.p.set (i:=6) (by simp) v,h.r.far (q:=⟨w.heap.size,6,cX⟩) (show w.heap.size≠w.heap.size+1 by omega) v,h.b.setCell (p:=⟨w.heap.size,6,cX⟩) (AQ) v⟩
theorem PR.qI(h:PR w wr s fr hp gl tr mk)(v:Value):PR w (wr.setCell ⟨w.heap.size,7,cX⟩ v) s fr hp gl v mk:=⟨h.p.set (i:=7) (by simp) v,h.r.far (q:=⟨w.heap.size,7,cX⟩) (show w.heap.size≠w.heap.size+1 by omega) v,h.b.setCell (p:=⟨w.heap.size,7,cX⟩) (AQ) v⟩
theorem PR.iV(h:PR w wr s fr hp gl tr mk)(v:Value):PR w (wr.setCell ⟨w.heap.size,8,cX⟩ v) s fr hp gl tr v:=⟨h.p.set (i:=8) (by simp) v,h.r.far (q:=⟨w.heap.size,8,cX⟩) (show w.heap.size≠w.heap.size+1 by omega) v,h.b.setCell (p:=⟨w.heap.size,8,cX⟩) (AQ) v⟩
end
def ED.far{enc:α->Dt}{s:Nat}{l:List α}{q:Nat}{f1:List Nat}(h:ED enc w B e s l xs v q f1){P:Nat}(hP:P<B)(o:Nat)(u:Value):ED enc (w.setCell ⟨P,o,cX⟩ u) B e s l xs v q f1:=
 h.nx (λb _ hb=>Below.heap_setCell _ _ _ _ (by show b≠P;omega)) (by rw[G7];exact AQ)
theorem Apart.new{F:Nat}(h:Apart w0 w1 m)(hF:w0.heap.size<=F)(hm:m<=F)(o:Nat)(u:Value):Apart w0 (w1.setCell ⟨F,o,cX⟩ u) m:=
 ⟨h.b.setCell (p:=⟨F,o,cX⟩) hm u,λr h1 h2=>(Below.heap_setCell _ _ _ _ (show r≠F by omega)).trans (h.k r h1 h2)⟩
theorem Apart.lies{s:Nat}(h:Apart w0 w1 m)(hl:AZ w0 B e s l v F)(hm:m<B):AZ w1 B e s l v F:=hl.same λb hb=>h.k b (by have:=(hl.fp b hb).1;omega) (hl.fp b hb).2
theorem AZ.sl{enc:α->Dt}{s:Nat}{l:List α}(h:AZ w B e s (l.map enc) v F):∃p c,v=cY p l.length c:=by
 obtain⟨p,c,h⟩:=h.slice;grind
theorem aV{l:List Vu}(h:AZ w B 34 2 (l.map C9) v F)(hn:l.length<=1000000):Calls prog 47 #[v] w λe w'=>∃v' fp,e=.returned v'/\AZ w' w.heap.size 34 2 (l.map C9) v' fp/\fp.Nodup/\AA6 w w':=by
 obtain⟨xs,hx,hx1,-⟩:=h.RB;rw[List.length_map]at hx;refine(copyV hx hx1 hn).mono ?_;rintro e w' ⟨v',rfl,ho,hb⟩;obtain⟨fp,h1,h2⟩:=h.flat hx ho uE λx g o f g2 o2 hl hc=>by
  have hu:=vU hl;have c0:=hc 0 (by decide);have c1:=hc 1 (by decide);exact Af.of (AP.cc (c0.trans hu.1) rfl (AP.cc (c1.trans hu.2) rfl AP.cn))
 grind
theorem aW{l:List Int}(h:AZ w B 2 1 (l.map dN) v F)(hn:l.length<=1000000):Calls prog 49 #[v] w λe w'=>∃v' fp,e=.returned v'/\AZ w' w.heap.size 2 1 (l.map dN) v' fp/\fp.Nodup/\AA6 w w':=by
 obtain⟨xs,hx,hx1,-⟩:=h.RB;rw[List.length_map]at hx;refine(AAn hx hx1 hn).mono ?_;rintro e w' ⟨v',rfl,ho,hb⟩;obtain⟨fp,h1,h2⟩:=h.flat hx ho (λ_=>rfl) λx g o f g2 o2 hl hc=>by
  have c0:=hc 0 (by decide);unfold dN Af at hl⊢;exact⟨c0.trans hl.1,rfl,rfl⟩
 grind
theorem VE(hS:Qx w s fr hp gl tr mk)(hz:jW s):Calls prog 25 #[Ko s fr hp gl tr mk] w λe w'=>∃fr' hp' TV TI mk',e=.returned (Ko s fr' hp' TV TI mk')/\Bt w' w.heap.size s fr' hp' TV TI mk'/\AA6 w w':=by
 unfold Ko;obtain⟨F0,hfr⟩:=hS.fr;obtain⟨pf,kf,rfl⟩:=hfr.slice;obtain⟨H0,nD⟩:=hS.hp;obtain⟨ph,kh,rfl⟩:=nD.slice;obtain⟨G0,hgl⟩:=hS.gl;obtain⟨pg,kg,rfl⟩:=hgl.slice;obtain⟨T0,htr⟩:=hS.tr;obtain⟨pt,kt,rfl⟩:=htr.slice;obtain⟨M0,hmk⟩:=hS.mk';obtain⟨pm,km,rfl⟩:=hmk.slice;simp only[List.length_map]at hfr nD hgl htr hmk hS⊢;obtain⟨hP,hR,hb1⟩:=Ch (w:=w) (c1:=WG s (cY pf s.frames.length kf) (cY ph s.heap.length kh) (cY pg s.globals.length kg) (cY pt s.trace.length kt) (cY pm s.marks.length km)) (c2:=gF) (t1:=40) (t2:=40) (AL);have hPR:=PR.mk hP hR hb1;clear hP hR hb1;have hS0:=hS;clear hS;obtain⟨xf,mh,xS,-⟩:=hfr.RB;rw[List.length_map]at mh;have hcl:=λ(v:World) (hv:AA6 w v)=>AAp (Dh mh hv (AQ)) xS hz.fr;go_enter func25,ntmps25;go_wp2_with fail;generalize hW:World.alloc _ _=W at*;have hWz:W.heap.size=w.heap.size+1+1:=by rw[<-hW];simp
 clear hW;refine(hcl _ hPR.b).mono ?_;rintro e w1 ⟨v1,rfl,hv1,hb2⟩;obtain⟨p1,c1,rfl⟩:=Bf hv1;have hP1:=hPR.nx hb2;have hP2:=hP1.ADR (cY p1 s.frames.length c1);have hC:=(ED.start (enc:=Kw) hv1).far (P:=w.heap.size) (by omega) 4 (cY p1 s.frames.length c1);have k4:=hP1.p.c 4 _ rfl;have z4:=hP1.p.f 4 (by simp);have k4':=hP2.p.c 4 _ rfl;have hnf:=hz.fr;have hnh:=hz.hp;have hnt:=hz.tr;have hWs:W.heap.size<=(w1.setCell ⟨w.heap.size,4,cX⟩ (cY p1 s.frames.length c1)).heap.size:=by rw[G7];exact hb2.size
 clear hcl hPR hv1 hb2 hP1;go_wp2;go_loopw[13] (λi wr=>∃(q:Nat) (f1:List Nat),q<=s.frames.length/\i=cI cJ (q:Int)/\PR w wr s (cY p1 s.frames.length c1) (cY ph s.heap.length kh) (cY pg s.globals.length kg) (cY pt s.trace.length kt) (cY pm s.marks.length km)/\ED Kw wr W.heap.size 84 4 s.frames xf (cY p1 s.frames.length c1) q f1/\W.heap.size<=wr.heap.size) (λi _=>s.frames.length-(intOf i).toNat);exact⟨0,[],AY,rfl,hP2,hC,hWs⟩;clear hP2 hC k4 z4 k4' hWs;obtain⟨q,f1,hq,rfl,hP,hC,hWs⟩:=hrel;by_cases hend:q=s.frames.length
 ·subst hend;obtain⟨wo,rfl⟩:=again wr;obtain⟨Io,hL1,hN1⟩:=hC.fin UG;clear hC hfr mh xS f1;obtain⟨xh,hxh,xR,-⟩:=nD.RB;rw[List.length_map]at hxh;have hcl:=AAo (Dh hxh hP.b (AQ)) xR hz.hp;have j5:=hP.p.c 5 _ rfl;go_wp2_with fail;refine hcl.mono ?_;rintro e w2 ⟨v2,rfl,hv2,hb2⟩;obtain⟨p2,c2,rfl⟩:=Bf hv2;have hP1:=hP.nx hb2;have hP2:=hP1.iW (cY p2 s.heap.length c2);have hWo:W.heap.size<=wo.heap.size:=hWs;have hC:=(ED.start (enc:=Ld) hv2).far (P:=w.heap.size) (by omega) 5 (cY p2 s.heap.length c2);have hap:Apart wo (w2.setCell ⟨w.heap.size,5,cX⟩ (cY p2 s.heap.length c2)) w.heap.size:=(Apart.of hb2 (by omega)).trans (Apart.set 5 _);have k5:=hP1.p.c 5 _ rfl;have z5:=hP1.p.f 5 (by simp);have k5':=hP2.p.c 5 _ rfl;clear hcl hP hv2 hb2 hP1 j5;go_wp2;go_loopw[36] (λi wr=>∃(q:Nat) (f1:List Nat),q<=s.heap.length/\i=cI cJ (q:Int)/\PR w wr s (cY p1 s.frames.length c1) (cY p2 s.heap.length c2) (cY pg s.globals.length kg) (cY pt s.trace.length kt) (cY pm s.marks.length km)/\ED Ld wr wo.heap.size 119 2 s.heap xh (cY p2 s.heap.length c2) q f1/\Apart wo wr w.heap.size) (λi _=>s.heap.length-(intOf i).toNat);exact⟨0,[],AY,rfl,hP2,hC,hap⟩;clear hP2 hC k5 z5 k5' hap;obtain⟨q,f1,hq,rfl,hP,hC,hap⟩:=hrel;by_cases hend:q=s.heap.length
  ·subst hend;obtain⟨wx,rfl⟩:=again wr;obtain⟨fp2,hL2,Qh⟩:=hC.fin UF;have yj:=hap.lies hL1 (by omega);have hwx:=hap.b.size;have hr1:=hL1.fp;clear hC nD hxh xR f1 hap hL1;have hgx:AZ wx 0 34 2 (s.globals.map C9) (cY pg s.globals.length kg) G0:=hgl.same (λb hb=>hP.b.block b (hgl.fp b hb).2);have hcl:=aV hgx (by have:=hz.gl;omega);have j6:=hP.p.c 6 _ rfl;go_wp2_with fail;refine hcl.mono ?_;rintro e w3 ⟨v3,fp3,rfl,hL3,gK,hb3⟩;obtain⟨p3,c3,rfl⟩:=hL3.sl;have hP1:=hP.nx hb3;have k6:=hP1.p.c 6 _ rfl;have z6:=hP1.p.f 6 (by simp);have hP2:=hP1.Wj (cY p3 s.globals.length c3);have Zd:Apart wx (w3.setCell ⟨w.heap.size,6,cX⟩ (cY p3 s.globals.length c3)) w.heap.size:=(Apart.of hb3 (by omega)).trans (Apart.set 6 _);have yh:=Zd.lies yj (by omega);have ACk:=Zd.lies hL2 (by omega);have hr2:=hL2.fp;have hr3:=hL3.fp;have yY:=(Apart.set (w:=w3) (m:=w.heap.size) 6 (cY p3 s.globals.length c3)).lies hL3 (by omega);have hw3:=hb3.size;have j7:=hP2.p.c 7 _ rfl;have AJI:(w3.setCell ⟨w.heap.size,6,cX⟩ (cY p3 s.globals.length c3)).heap.size=w3.heap.size:=G7 _ _ _;clear hcl hP hb3 hP1 Zd yj hL2 hL3 hgx hgl j6;obtain⟨xt,hxt,xQ,-⟩:=htr.RB;rw[List.length_map]at hxt;go_wp2_with fail;generalize VK:w3.setCell ⟨w.heap.size,6,cX⟩ (cY p3 s.globals.length c3)=wy at*;have hcl:=AAq (Dh hxt hP2.b (AQ)) xQ hz.tr;refine hcl.mono ?_;rintro e w4 ⟨v4,rfl,hv4,hb4⟩;obtain⟨p4,c4,rfl⟩:=Bf hv4;have hP1:=hP2.nx hb4;have hP3:=hP1.qI (cY p4 s.trace.length c4);have hC:=(ED.start (enc:=Qc) hv4).far (P:=w.heap.size) (by omega) 7 (cY p4 s.trace.length c4);have hap:Apart wy (w4.setCell ⟨w.heap.size,7,cX⟩ (cY p4 s.trace.length c4)) w.heap.size:=(Apart.of hb4 (by omega)).trans (Apart.set 7 _);have k7:=hP1.p.c 7 _ rfl;have z7:=hP1.p.f 7 (by simp);have k7':=hP3.p.c 7 _ rfl;clear hcl hP2 hv4 hb4 hP1 j7 VK k6 z6;go_wp2;go_loopw[63] (λi wr=>∃(q:Nat) (f1:List Nat),q<=s.trace.length/\i=cI cJ (q:Int)/\PR w wr s (cY p1 s.frames.length c1) (cY p2 s.heap.length c2) (cY p3 s.globals.length c3) (cY p4 s.trace.length c4) (cY pm s.marks.length km)/\ED Qc wr wy.heap.size 59 4 s.trace xt (cY p4 s.trace.length c4) q f1/\Apart wy wr w.heap.size) (λi _=>s.trace.length-(intOf i).toNat);exact⟨0,[],AY,rfl,hP3,hC,hap⟩;clear hP3 hC k7 z7 k7' hap;obtain⟨q,f1,hq,rfl,hP,hC,hap⟩:=hrel;by_cases hend:q=s.trace.length
   ·subst hend;obtain⟨wz,rfl⟩:=again wr;obtain⟨fp4,hL4,hN4⟩:=hC.fin UH;have yg:=hap.lies yh (by omega);have yZ:=hap.lies ACk (by omega);have yX:=hap.lies yY (by omega);have hr4:=hL4.fp;have hwz:=hap.b.size;clear hC htr hxt xQ f1 hap yh ACk yY;have hmx:AZ wz 0 2 1 (s.marks.map dN) (cY pm s.marks.length km) M0:=hmk.same (λb hb=>hP.b.block b (hmk.fp b hb).2);have hcl:=aW hmx hz.Lc;have j8:=hP.p.c 8 _ rfl;go_wp2_with fail;refine hcl.mono ?_;rintro e w5 ⟨v5,fp5,rfl,hL5,hN5,hb5⟩;obtain⟨p5,c5,rfl⟩:=hL5.sl;have hP1:=hP.nx hb5;have k8:=hP1.p.c 8 _ rfl;have z8:=hP1.p.f 8 (by simp);have hP2:=hP1.iV (cY p5 s.marks.length c5);have JE:Apart wz (w5.setCell ⟨w.heap.size,8,cX⟩ (cY p5 s.marks.length c5)) w.heap.size:=(Apart.of hb5 (by omega)).trans (Apart.set 8 _);have vD:=hL5.fp;have hM1:=JE.lies yg (by omega);have hM2:=JE.lies yZ (by omega);have TR:=JE.lies yX (by omega);have hM4:=JE.lies hL4 (by omega);have Yw:=(Apart.set (w:=w5) (m:=w.heap.size) 8 (cY p5 s.marks.length c5)).lies hL5 (by omega);clear hcl hP hb5 hP1 JE yg yZ yX hL4 hL5 hmx hmk j8;obtain⟨y0,y1,y2,y3,y4,y5,y6,y7,y8,y9,y10,y11,y12⟩:=hP2.p.c13;have r0:=hP2.r.c 0 _ rfl;have g0:=hP2.r.f 0 (by simp);have r1:=hP2.r.c 1 _ rfl;have g1:=hP2.r.f 1 (by simp);have r2:=hP2.r.c 2 _ rfl;have g2:=hP2.r.f 2 (by simp);have r3:=hP2.r.c 3 _ rfl;have g3:=hP2.r.f 3 (by simp);have r4:=hP2.r.c 4 _ rfl;have g4:=hP2.r.f 4 (by simp);have r5:=hP2.r.c 5 _ rfl;have g5:=hP2.r.f 5 (by simp);have r6:=hP2.r.c 6 _ rfl;have g6:=hP2.r.f 6 (by simp);have r7:=hP2.r.c 7 _ rfl;have g7:=hP2.r.f 7 (by simp);have r8:=hP2.r.c 8 _ rfl;have g8:=hP2.r.f 8 (by simp);have r9:=hP2.r.c 9 _ rfl;have g9:=hP2.r.f 9 (by simp);have r10:=hP2.r.c 10 _ rfl;have g10:=hP2.r.f 10 (by simp);have r11:=hP2.r.c 11 _ rfl;have g11:=hP2.r.f 11 (by simp);have r12:=hP2.r.c 12 _ rfl;have g12:=hP2.r.f 12 (by simp);have hRb:=Ay (B:=w.heap.size) (p:=w.heap.size+1) (Aa) (WG s (cY p1 s.frames.length c1) (cY p2 s.heap.length c2) (cY p3 s.globals.length c3) (cY p4 s.trace.length c4) (cY p5 s.marks.length c5)) 0 (w5.setCell ⟨w.heap.size,8,cX⟩ (cY p5 s.marks.length c5));have wS:∀b,w.heap.size+1<b->(BZ (w5.setCell ⟨w.heap.size,8,cX⟩ (cY p5 s.marks.length c5)) (w.heap.size+1) 0 (WG s (cY p1 s.frames.length c1) (cY p2 s.heap.length c2) (cY p3 s.globals.length c3) (cY p4 s.trace.length c4) (cY p5 s.marks.length c5))).heap[b]? =(w5.setCell ⟨w.heap.size,8,cX⟩ (cY p5 s.marks.length c5)).heap[b]? :=λb hb=>Bu (by omega) _ 0 _;have hfin:Bt (BZ (w5.setCell ⟨w.heap.size,8,cX⟩ (cY p5 s.marks.length c5)) (w.heap.size+1) 0 (WG s (cY p1 s.frames.length c1) (cY p2 s.heap.length c2) (cY p3 s.globals.length c3) (cY p4 s.trace.length c4) (cY p5 s.marks.length c5))) w.heap.size s (cY p1 s.frames.length c1) (cY p2 s.heap.length c2) (cY p3 s.globals.length c3) (cY p4 s.trace.length c4) (cY p5 s.marks.length c5):=by
     refine⟨Io,fp2,fp3,fp4,fp5,AZ.mono (by omega) (hM1.same λb hb=>wS b (by have:=(hM1.fp b hb).1;omega)),AZ.mono (by omega) (hM2.same λb hb=>wS b (by have:=(hM2.fp b hb).1;omega)),AZ.mono (by omega) (TR.same λb hb=>wS b (by have:=(TR.fp b hb).1;omega)),AZ.mono (by omega) (hM4.same λb hb=>wS b (by have:=(hM4.fp b hb).1;omega)),AZ.mono (by omega) (Yw.same λb hb=>wS b (by have:=(Yw.fp b hb).1;omega)),?_⟩;refine Lj hN1 (Lj Qh (Lj gK (Lj hN4 hN5 (m:=wz.heap.size) (λb hb=>(hr4 b hb).2) (λb hb=>(vD b hb).1)) (m:=wy.heap.size) (λb hb=>?_) (λb hb=>?_)) (m:=wx.heap.size) (λb hb=>(hr2 b hb).2) (λb hb=>?_)) (m:=wo.heap.size) (λb hb=>(hr1 b hb).2) (λb hb=>?_);all_goals (try simp only[List.mem_append]at hb)
     ·have:=hr3 b hb;omega
     ·rcases hb with hb|hb
      ·exact(hr4 b hb).1
      ·have:=(vD b hb).1;omega
     ·rcases hb with hb|hb|hb
      ·exact(hr3 b hb).1
      ·have:=(hr4 b hb).1;omega
      ·have:=(vD b hb).1;omega
     ·rcases hb with hb|hb|hb|hb
      ·exact(hr2 b hb).1
      ·have:=(hr3 b hb).1;omega
      ·have:=(hr4 b hb).1;omega
      ·have:=(vD b hb).1;omega
    have Nf:=hP2.b.trans hRb;go_wp2_with fail;(try simp only[Exit.inBlock,Exit.then]);refine bodyPost_ret_by (v:=Ko s (cY p1 s.frames.length c1) (cY p2 s.heap.length c2) (cY p3 s.globals.length c3) (cY p4 s.trace.length c4) (cY p5 s.marks.length c5)) ((GQ rfl _ _ _).trans (by go_simp;try rfl)) rfl ?_;exact⟨_,_,_,_,_,rfl,hfin,Nf⟩
   ·have hlt:q<s.trace.length:=(by omega);have A8:(q:Int)<s.trace.length:=(by omega);obtain⟨G,f,hl,hcx⟩:=Ja htr hxt UH hlt;obtain⟨F,cF,iG,hF1,hF2,qB,J7⟩:=hC.slice hlt;obtain⟨rfl,rfl⟩:p4=cP ⟨F,0,cX⟩/\c4=cF:=(by simpa using iG);obtain⟨l0,l2,l3,u,fu,l1,hu⟩:=fH hl;have e0:=(J7 0 (by decide)).trans ((hcx 0 (by decide)).symm.trans l0);have e1:=(J7 1 (by decide)).trans ((hcx 1 (by decide)).symm.trans l1);have e2:=(J7 2 (by decide)).trans ((hcx 2 (by decide)).symm.trans l2);have e3:=(J7 3 (by decide)).trans ((hcx 3 (by decide)).symm.trans l3);replace hu:AZ wr 0 2 1 ((s.trace[q]).ar.map dN) u fu:=hu.same (λb hb=>hP.b.block b (hu.fp b hb).2);obtain⟨pu,ku,rfl⟩:=hu.sl;have wH:=hz.ar s.trace[q] (by simp);have k7:=hP.p.c 7 _ rfl;have hwr:w.heap.size+1<F:=(by omega);have Zk:=qB (q*4+1);go_wp2;refine ALR (S:=Le wr 9 12 (λv u=>∃fp,AZ u wr.heap.size 2 1 ((s.trace[q]).ar.map dN) v fp/\fp.Nodup) ⟨F,q*4+1,cX⟩) (Le.start Ac) ?_;(refine AU.q (λz=>z.s.keep rfl rfl) ?_);(refine AU.f (λz=>z.s.keep rfl rfl) (λz=>AA (z.s.below (z.o 12)) k7) ?_);(iterate 2((refine AU.q (λz=>z.s.keep rfl rfl) ?_)));(refine AU.f (λz=>z.s.keep rfl rfl) (λz=>AA (z.s.below (z.o 12)) k7) ?_);(iterate 3((refine AU.q (λz=>z.s.keep rfl rfl) ?_)));(refine AU.f (λz=>z.s.keep rfl rfl) (λz=>AA (z.s.below (z.o 12)) e1) ?_);refine AU.free (λ_=>rfl) (λV L w1 K' Q' hS hi hR hd hK=>?_) ?_
    ·have hI:=hS.below (hR.out 12 9 (by kernel_rfl) hi);have hcv:=aW (hu.same λb hb=>hI.block b (hu.fp b hb).2) wH;go_simp;(go_wp2_with(refine hcv.mono ?_;rintro e w2 ⟨v',fp,rfl,hm2,hn2,hb⟩));exact hK.out _ _ rfl (hS.call (hR.out 12 9 (by kernel_rfl) hi) hb ⟨fp,AZ.mono hI.size hm2,hn2⟩ rfl)
    simp only[Act.put];(iterate 2((refine AU.q (λz=>z.s.keep rfl rfl) ?_)));refine AU.val undef (λ_=>rfl) (λV L w1 K' Q' hS hi hR hd hK=>?_) ?_
    ·have ha:=hd.out 9 (by kernel_rfl);have hI:=hS.below hi;have m3:=AA hI e1;have z3:w1.frozen? ⟨F,q*4+1,cX⟩=cA:=(by rw[hI.frozen (p:=⟨F,q*4+1,cX⟩) hF2];exact Zk);obtain⟨fp,QX,-⟩:=hS.val hi ha;obtain⟨p9,c9,hV⟩:=QX.sl;have hS2:=hS.store hi ha rfl;rw[hV]at hS2;simp only[hV];go_simp;refine hK.out _ _ (by simp only[hV];rfl) hS2
    simp only[Act.put];refine AU.nil λV w5 hS=>?_;obtain⟨v0,hb0,⟨fp,QX,hn9⟩,rfl⟩:=hS.done rfl;obtain⟨p9,c9,hV⟩:=QX.sl;rw[hV]at QX⊢;have Y8:=(hP.nx hb0).far hwr (q*4+1) (.slice p9 (s.trace[q]).ar.length c9);have JE:=(hap.trans (Apart.of hb0 (by have:=hap.b.size;omega))).new hF1 (by omega) (q*4+1) (.slice p9 (s.trace[q]).ar.length c9);have hst:∀k,k<4->k≠1->(v0.setCell ⟨F,q*4+1,cX⟩ (.slice p9 (s.trace[q]).ar.length c9)).cell? ⟨F,q*4+k,cX⟩=wr.cell? ⟨F,q*4+k,cX⟩:=λk hk hk1=>by
     rw[World.cell?_setCell_other _ _ _ _ (Ik (by omega))];exact BM (hb0.block F hF2) _
    have hlies:Af (v0.setCell ⟨F,q*4+1,cX⟩ (.slice p9 (s.trace[q]).ar.length c9)) wy.heap.size (Qc s.trace[q]) F (q*4) (fp++[]):=by
     refine Af.of (AP.cc ((hst 0 (by decide) (by decide)).trans e0) rfl (AP.cr ?_ (AZ.mono hap.b.size (QX.same λb hb=>Below.heap_setCell _ _ _ _ (by have:=(QX.fp b hb).1;show b≠F;omega))) (AP.cc ((hst 2 (by decide) (by decide)).trans e2) rfl (AP.cc ((hst 3 (by decide) (by decide)).trans e3) rfl AP.cn))));exact World.cell?_setCell_same _ _ _ (AA hb0 e1)
    have wY:=hC.step hlt UH (by decide) hb0 hlies (λb hb=>(QX.fp b (by simpa using hb)).1) (by simpa using hn9);go_wp2;go_roundw;exact⟨q+1,_,by omega,by go_num,Y8,wY,JE⟩;simp[intOf];omega
  ·have hlt:q<s.heap.length:=(by omega);have A8:(q:Int)<s.heap.length:=(by omega);obtain⟨G,f,hl,hcx⟩:=Ja nD hxh UF hlt;obtain⟨F,cF,iG,hF1,hF2,qB,J7⟩:=hC.slice hlt;obtain⟨rfl,rfl⟩:p2=cP ⟨F,0,cX⟩/\c2=cF:=(by simpa using iG);obtain⟨l0,u,fu,l1,hu⟩:=dR hl;have e0:=(J7 0 (by decide)).trans ((hcx 0 (by decide)).symm.trans l0);have e1:=(J7 1 (by decide)).trans ((hcx 1 (by decide)).symm.trans l1);replace hu:AZ wr 0 34 2 ((s.heap[q]).vs.map C9) u fu:=hu.same (λb hb=>hP.b.block b (hu.fp b hb).2);obtain⟨pu,ku,rfl⟩:=hu.sl;have wH:=hz.vs s.heap[q] (by simp);have k5:=hP.p.c 5 _ rfl;have hwr:w.heap.size+1<F:=(by omega);have Zk:=qB (q*2+1);go_wp2;refine ALR (S:=Le wr 9 12 (λv u=>∃fp,AZ u wr.heap.size 34 2 ((s.heap[q]).vs.map C9) v fp/\fp.Nodup) ⟨F,q*2+1,cX⟩) (Le.start Ac) ?_;(refine AU.q (λz=>z.s.keep rfl rfl) ?_);(refine AU.f (λz=>z.s.keep rfl rfl) (λz=>AA (z.s.below (z.o 12)) k5) ?_);(iterate 2((refine AU.q (λz=>z.s.keep rfl rfl) ?_)));(refine AU.f (λz=>z.s.keep rfl rfl) (λz=>AA (z.s.below (z.o 12)) k5) ?_);(iterate 3((refine AU.q (λz=>z.s.keep rfl rfl) ?_)));(refine AU.f (λz=>z.s.keep rfl rfl) (λz=>AA (z.s.below (z.o 12)) e1) ?_);refine AU.free (λ_=>rfl) (λV L w1 K' Q' hS hi hR hd hK=>?_) ?_
   ·have hI:=hS.below (hR.out 12 9 (by kernel_rfl) hi);have hcv:=aV (hu.same λb hb=>hI.block b (hu.fp b hb).2) wH;go_simp;(go_wp2_with(refine hcv.mono ?_;rintro e w2 ⟨v',fp,rfl,hm2,hn2,hb⟩));exact hK.out _ _ rfl (hS.call (hR.out 12 9 (by kernel_rfl) hi) hb ⟨fp,AZ.mono hI.size hm2,hn2⟩ rfl)
   simp only[Act.put];(iterate 2((refine AU.q (λz=>z.s.keep rfl rfl) ?_)));refine AU.val undef (λ_=>rfl) (λV L w1 K' Q' hS hi hR hd hK=>?_) ?_
   ·have ha:=hd.out 9 (by kernel_rfl);have hI:=hS.below hi;have m3:=AA hI e1;have z3:w1.frozen? ⟨F,q*2+1,cX⟩=cA:=(by rw[hI.frozen (p:=⟨F,q*2+1,cX⟩) hF2];exact Zk);obtain⟨fp,QX,-⟩:=hS.val hi ha;obtain⟨p9,c9,hV⟩:=QX.sl;have hS2:=hS.store hi ha rfl;rw[hV]at hS2;simp only[hV];go_simp;refine hK.out _ _ (by simp only[hV];rfl) hS2
   simp only[Act.put];refine AU.nil λV w5 hS=>?_;obtain⟨v0,hb0,⟨fp,QX,hn9⟩,rfl⟩:=hS.done rfl;obtain⟨p9,c9,hV⟩:=QX.sl;rw[hV]at QX⊢;have Y8:=(hP.nx hb0).far hwr (q*2+1) (.slice p9 (s.heap[q]).vs.length c9);have JE:=(hap.trans (Apart.of hb0 (by have:=hap.b.size;omega))).new hF1 (by omega) (q*2+1) (.slice p9 (s.heap[q]).vs.length c9);have hst:∀k,k<1->(v0.setCell ⟨F,q*2+1,cX⟩ (.slice p9 (s.heap[q]).vs.length c9)).cell? ⟨F,q*2+k,cX⟩=wr.cell? ⟨F,q*2+k,cX⟩:=λk hk=>by
    rw[World.cell?_setCell_other _ _ _ _ (Ik (by omega))];exact BM (hb0.block F hF2) _
   have hlies:Af (v0.setCell ⟨F,q*2+1,cX⟩ (.slice p9 (s.heap[q]).vs.length c9)) wo.heap.size (Ld s.heap[q]) F (q*2) (fp++[]):=by
    refine Af.of (AP.cc ((hst 0 (by decide)).trans e0) rfl (AP.cr ?_ (AZ.mono hap.b.size (QX.same λb hb=>Below.heap_setCell _ _ _ _ (by have:=(QX.fp b hb).1;show b≠F;omega))) AP.cn));exact World.cell?_setCell_same _ _ _ (AA hb0 e1)
   have wY:=hC.step hlt UF (by decide) hb0 hlies (λb hb=>(QX.fp b (by simpa using hb)).1) (by simpa using hn9);go_wp2;go_roundw;exact⟨q+1,_,by omega,by go_num,Y8,wY,JE⟩;simp[intOf];omega
 ·have hlt:q<s.frames.length:=by omega
  have A8:(q:Int)<s.frames.length:=by omega
  obtain⟨G,f,hl,hcx⟩:=Ja hfr mh UG hlt;obtain⟨F,cF,iG,hF1,hF2,qB,J7⟩:=hC.slice hlt;obtain⟨rfl,rfl⟩:p1=cP ⟨F,0,cX⟩/\c1=cF:=by simpa using iG
  obtain⟨l0,l1,l2,b,l3,hmb⟩:=dY hl;have e0:=(J7 0 (by decide)).trans ((hcx 0 (by decide)).symm.trans l0);have e1:=(J7 1 (by decide)).trans ((hcx 1 (by decide)).symm.trans l1);have e2:=(J7 2 (by decide)).trans ((hcx 2 (by decide)).symm.trans l2);have e3:=(J7 3 (by decide)).trans ((hcx 3 (by decide)).symm.trans l3);have hmr:=hmb.other (hP.b.block b hmb.lt);have k4:=hP.p.c 4 _ rfl;have hwr:w.heap.size+1<F:=by omega
  have Zk:=qB (q*4+3);go_wp2;refine ALR (S:=Le wr 9 12 (λv u=>∃nb,v=.map (cP nb)/\wr.heap.size<=nb/\CQ u nb (s.frames[q]).vars) ⟨F,q*4+3,cX⟩) (Le.start Ac) ?_;(refine AU.q (λz=>z.s.keep rfl rfl) ?_);(refine AU.f (λz=>z.s.keep rfl rfl) (λz=>AA (z.s.below (z.o 12)) k4) ?_);iterate 2((refine AU.q (λz=>z.s.keep rfl rfl) ?_))
  (refine AU.f (λz=>z.s.keep rfl rfl) (λz=>AA (z.s.below (z.o 12)) k4) ?_);iterate 3((refine AU.q (λz=>z.s.keep rfl rfl) ?_))
  (refine AU.f (λz=>z.s.keep rfl rfl) (λz=>AA (z.s.below (z.o 12)) e3) ?_);refine AU.free (λ_=>rfl) (λV L w1 K' Q' hS hi hR hd hK=>?_) ?_
  ·have hI:=hS.below (hR.out 12 9 (by kernel_rfl) hi);go_simp;(go_wp2_with(refine(YB (hmr.other (hI.block b hmr.lt))).mono ?_;rintro e w2 ⟨nb,rfl,hnb,hm2,hb⟩));exact hK.out _ _ rfl (hS.call (hR.out 12 9 (by kernel_rfl) hi) hb ⟨nb,rfl,AX hI.size hnb,hm2⟩ rfl)
  simp only[Act.put];iterate 2((refine AU.q (λz=>z.s.keep rfl rfl) ?_))
  refine AU.val undef (λ_=>rfl) (λV L w1 K' Q' hS hi hR hd hK=>?_) ?_
  ·have ha:=hd.out 9 (by kernel_rfl);have hI:=hS.below hi;have m3:=AA hI e3;have z3:w1.frozen? ⟨F,q*4+3,cX⟩=cA:=(by rw[hI.frozen (p:=⟨F,q*4+3,cX⟩) hF2];exact Zk);obtain⟨nb,hV,-⟩:=hS.val hi ha;have hS2:=hS.store hi ha rfl;rw[hV]at hS2;simp only[hV];go_simp;refine hK.out _ _ (by simp only[hV];rfl) hS2
  simp only[Act.put];refine AU.nil λV w5 hS=>?_;obtain⟨v0,hb0,⟨nb,hV,hnb,hmn⟩,rfl⟩:=hS.done rfl;rw[hV];have Y8:=(hP.nx hb0).far hwr (q*4+3) (.map (cP nb));have hne:F≠nb:=by omega
  have hst:∀k,k<3->(v0.setCell ⟨F,q*4+3,cX⟩ (.map (cP nb))).cell? ⟨F,q*4+k,cX⟩=wr.cell? ⟨F,q*4+k,cX⟩:=λk hk=>by
   rw[World.cell?_setCell_other _ _ _ _ (Ik (by omega))];exact BM (hb0.block F hF2) _
  have hlies:Af (v0.setCell ⟨F,q*4+3,cX⟩ (.map (cP nb))) W.heap.size (Kw s.frames[q]) F (q*4) ([nb]++[]):=by
   refine Af.of (AP.cc ((hst 0 (by decide)).trans e0) rfl (AP.cc ((hst 1 (by decide)).trans e1) rfl (AP.cc ((hst 2 (by decide)).trans e2) rfl (AP.cm ?_ (by omega) (hmn.other (Below.heap_setCell _ _ _ _ (λe=>hne e.symm))) AP.cn))));exact World.cell?_setCell_same _ _ _ (AA hb0 e3)
  have AEW:W.heap.size<=(v0.setCell ⟨F,q*4+3,cX⟩ (.map (cP nb))).heap.size:=by rw[G7];exact AX hWs hb0.size
  have wY:=hC.step hlt UG (by decide) hb0 hlies (by simpa using hnb) (by simp);go_wp2;go_roundw;exact⟨q+1,_,by omega,by go_num,Y8,wY,AEW⟩;simp[intOf];omega
end
section
open Num Dp
abbrev mC(k:Hd)(s:St)(fr hp gl tr mk:Value):List Value:=[k.u0,k.u1,k.u2,k.u3,k.u4,cI cJ s.status,cS s.result.1,cI cJ s.result.2,cI cJ s.code,fr,hp,gl,tr,mk,cI cJ s.allocs,cI cJ s.steps,cI cJ s.guards,cI cJ s.asked,k.av,k.fv,cI cJ 0]
def Hd.one(k:Hd):Prop:=k.u0.oneCell'=cC/\k.u1.oneCell'=cC/\k.u2.oneCell'=cC/\k.u3.oneCell'=cC/\k.u4.oneCell'=cC/\k.av.oneCell'=cC/\k.fv.oneCell'=cC
theorem Am.make{v0:World}{k:Hd}(h1:k.one)(hO:Bt v0 B s fr hp gl tr mk)(hM:B<=v0.heap.size)(T:TypeId):Am (v0.alloc (.cells (mC k s fr hp gl tr mk).toArray T)) B (v0.heap.size+1) v0.heap.size k s 0:=by
 obtain⟨F1,F2,F3,F4,F5,l1,l2,l3,l4,l5,hnd⟩:=hO;have hB:=Ae.alloc v0 (mC k s fr hp gl tr mk) T;have hlt:∀b∈F1++(F2++(F3++(F4++F5))),b<v0.heap.size:=λb hb=>by
  simp only[List.mem_append]at hb;rcases hb with hb|hb|hb|hb|hb
  ·exact(l1.fp b hb).2
  ·exact(l2.fp b hb).2
  ·exact(l3.fp b hb).2
  ·exact(l4.fp b hb).2
  ·exact(l5.fp b hb).2
 have al:∀{e:TypeId} {n:Nat} {l:List Dt} {v:Value} {F:List Nat},AZ v0 B e n l v F->AZ (v0.alloc (.cells (mC k s fr hp gl tr mk).toArray T)) B e n l v F:=λh=>h.same λb hb=>Below.heap_alloc _ _ _ (h.fp b hb).2;replace l1:=al l1;replace l2:=al l2;replace l3:=al l3;replace l4:=al l4;replace l5:=al l5;have hT:=(MapKept.heap_alloc v0 (.cells (mC k s fr hp gl tr mk).toArray T)).1;have hsz:(v0.alloc (.cells (mC k s fr hp gl tr mk).toArray T)).heap.size=v0.heap.size+1:=by simp
 generalize v0.alloc (.cells (mC k s fr hp gl tr mk).toArray T)=w at*;generalize v0.heap.size=M at*;refine⟨⟨hM,by omega,by omega,F1++(F2++(F3++(F4++F5))),?_,BN.2 ⟨λh=>by have:=hlt M h;omega,hnd⟩,λb hb=>by have:=hlt b hb;omega⟩,_,_,hT⟩;obtain⟨o0,o1,o2,o3,o4,o5,o6⟩:=h1;unfold dM Eh C9;refine Af.of (AP.cc (hB.c 0 _ rfl) o0 (AP.cc (hB.c 1 _ rfl) o1 (AP.cc (hB.c 2 _ rfl) o2 (AP.cc (hB.c 3 _ rfl) o3 (AP.cc (hB.c 4 _ rfl) o4 ?_)))));have key:AP w B [dN s.status,.agg [dS s.result.1,dN s.result.2],dN s.code,.row 84 4 (s.frames.map Kw),.row 119 2 (s.heap.map Ld),.row 34 2 (s.globals.map C9),.row 59 4 (s.trace.map Qc),.row 2 1 (s.marks.map dN),dN s.allocs,dN s.steps,dN s.guards,dN s.asked] M 5 (F1++(F2++(F3++(F4++(F5++[]))))):=by
  refine AP.cc (hB.c 5 _ rfl) rfl ?_;have hr:AP w B [dS s.result.1,dN s.result.2] M 6 []:=AP.cc (hB.c 6 _ rfl) rfl (AP.cc (hB.c 7 _ rfl) rfl AP.cn);refine AP.ca (f1:=[]) hr ?_;refine AP.cc (hB.c 8 _ rfl) rfl (AP.cr (hB.c 9 _ rfl) l1 (AP.cr (hB.c 10 _ rfl) l2 (AP.cr (hB.c 11 _ rfl) l3 (AP.cr (hB.c 12 _ rfl) l4 (AP.cr (hB.c 13 _ rfl) l5 (AP.cc (hB.c 14 _ rfl) rfl (AP.cc (hB.c 15 _ rfl) rfl (AP.cc (hB.c 16 _ rfl) rfl (AP.cc (hB.c 17 _ rfl) rfl AP.cn)))))))))
 have h2:=AP.ca (r:=[.cell k.av,.cell k.fv,dN 0]) key (f2:=[]) (AP.cc (hB.c 18 _ rfl) o5 (AP.cc (hB.c 19 _ rfl) o6 (AP.cc (hB.c 20 _ rfl) rfl AP.cn)));have e:F1++(F2++(F3++(F4++(F5++[]))))++[]=F1++(F2++(F3++(F4++F5))):=by simp
 rw[e]at h2;exact h2
theorem AP.c1(h:AP w B (.cell v::r) g o f):w.cell? ⟨g,o,cX⟩=cP v/\AP w B r g (o+1) f:=by
 unfold AP at h;obtain⟨f1,f2,rfl,h1,h2⟩:=h;unfold Af at h1;obtain⟨h1,rfl,-⟩:=h1;exact⟨h1,h2⟩
theorem AP.r1{s:Nat}(h:AP w B (.row e s l::r) g o f):∃v f1 f2,f=f1++f2/\w.cell? ⟨g,o,cX⟩=cP v/\AZ w B e s l v f1/\AP w B r g (o+1) f2:=by
 unfold AP at h;obtain⟨f1,f2,h0,h1,h2⟩:=h;obtain⟨v,h3,h4⟩:=h1.row;exact⟨v,f1,f2,h0,h3,h4,h2⟩
def AP.a1(h:AP w B (.agg l::r) g o f):∃f1 f2,f=f1++f2/\AP w B l g o f1/\AP w B r g (o+Dt.DF l) f2:=by
 unfold AP at h;obtain⟨f1,f2,h0,h1,h2⟩:=h;exact⟨f1,f2,h0,h1.l,h2⟩
theorem AP.n1(h:AP w B [] g o f):f=[]:=by grind [AP]
theorem Am.out{N M:Nat}{k:Hd}{j:Int}(h:Am w B N M k s j):∃fr hp gl tr mk,Bt w B s fr hp gl tr mk/\(∀i v,(WG s fr hp gl tr mk)[i]? =cP v->w.cell? ⟨M,5+i,cX⟩=cP v):=by
 obtain⟨_,_,_,fp,h1,h2,-⟩:=h.own;unfold dM Eh C9 at h1;obtain⟨f1,f2,e1,a1,a2⟩:=h1.l.c1.2.c1.2.c1.2.c1.2.c1.2.a1;have z:=a2.c1.2.c1.2.c1.2.n1;obtain⟨c0,b1⟩:=a1.c1;obtain⟨f3,f4,e2,b2,b3⟩:=b1.a1;obtain⟨c1,b4⟩:=b2.c1;obtain⟨c2,b5⟩:=b4.c1;have z2:=b5.n1;obtain⟨c3,b6⟩:=b3.c1;obtain⟨fr,F1,g1,x1,d1,q1,k1⟩:=b6.r1;obtain⟨hp,F2,g2,x2,d2,q2,k2⟩:=k1.r1;obtain⟨gl,F3,g3,x3,d3,q3,k3⟩:=k2.r1;obtain⟨tr,F4,g4,x4,d4,q4,k4⟩:=k3.r1;obtain⟨mk,F5,g5,x5,d5,q5,k5⟩:=k4.r1;obtain⟨c4,k6⟩:=k5.c1;obtain⟨c5,k7⟩:=k6.c1;obtain⟨c6,k8⟩:=k7.c1;obtain⟨c7,k9⟩:=k8.c1;have z3:=k9.n1;refine⟨fr,hp,gl,tr,mk,⟨F1,F2,F3,F4,F5,q1,q2,q3,q4,q5,?_⟩,λi v hv=>?_⟩
 ·have:=(BN.1 h2).2;rw[e1,z,e2,z2,x1,x2,x3,x4,x5,z3]at this;simpa using this
 ·rcases i with _|_|_|_|_|_|_|_|_|_|_|_|_|i;all_goals first|(injection hv with hv;subst hv;first|exact c0|exact c1|exact c2|exact c3|exact d1|exact d2|exact d3|exact d4|exact d5|exact c4|exact c5|exact c6|exact c7)|(simp at hv)
end
section
open Num Dp
def G6(W:World)(s:St)(k:Hd)(T:TypeId)(V:Nat->Value)(L:Nat->Bool)(w:World):Prop:=
 (L 6=cA->AA6 W w/\(L 2=cC->∃fr hp gl tr mk,V 2=Ko s fr hp gl tr mk/\Bt w W.heap.size s fr hp gl tr mk)/\(L 5=cC->∃fr hp gl tr mk,V 5=.agg (mC k s fr hp gl tr mk).toArray/\Bt w W.heap.size s fr hp gl tr mk))/\
 (L 6=cC->∃v0 fr hp gl tr mk,AA6 W v0/\Bt v0 W.heap.size s fr hp gl tr mk/\w=v0.alloc (.cells (mC k s fr hp gl tr mk).toArray T)/\V 6=.pointer (cP ⟨v0.heap.size,0,cX⟩))
section
variable {W w w2 : World} {s : St} {k : Hd} {T : TypeId} {V : Nat -> Value} {L : Nat -> Bool}
theorem G6.start(h:AA6 W w):G6 W s k T V (λ_=>cA) w:=by grind [G6]
def G6.keep(h:G6 W s k T V L w)(h1:((2:Nat)==i)=cA)(h2:((5:Nat)==i)=cA)(h3:((6:Nat)==i)=cA):G6 W s k T V (upd L i) w:=by simp_all[G6,upd]
def G6.below(h:G6 W s k T V L w)(hs:L 6=cA):AA6 W w:=(h.1 hs).1
theorem Bt.shape(h:Bt w B s fr hp gl tr mk):∃p1 c1 p2 c2 p3 c3 p4 c4 p5 c5,fr=cY p1 s.frames.length c1/\hp=cY p2 s.heap.length c2/\gl=cY p3 s.globals.length c3/\tr=cY p4 s.trace.length c4/\mk=cY p5 s.marks.length c5:=by
 obtain⟨F1,F2,F3,F4,F5,h1,h2,h3,h4,h5,hn⟩:=h;obtain⟨p1,c1,rfl⟩:=h1.sl;obtain⟨p2,c2,rfl⟩:=h2.sl;obtain⟨p3,c3,rfl⟩:=h3.sl;obtain⟨p4,c4,rfl⟩:=h4.sl;obtain⟨p5,c5,rfl⟩:=h5.sl;grind
theorem Bt.run(h:Bt w B s fr hp gl tr mk){R:Nat}(hR:R<B)(cs:List Value):Bt (BZ w R 0 cs) B s fr hp gl tr mk:=by
 obtain⟨F1,F2,F3,F4,F5,h1,h2,h3,h4,h5,hn⟩:=h;have key:∀{e:TypeId} {n:Nat} {l:List Dt} {v:Value} {F:List Nat},AZ w B e n l v F->AZ (BZ w R 0 cs) B e n l v F:=λh=>h.same λb hb=>Bu (by have:=(h.fp b hb).1;omega) _ 0 _;grind [tr,Bt,BZ,AZ,Bu,cases St]
def Bt.mono{B':Nat}(h:Bt w B' s fr hp gl tr mk)(hB:B<=B'):Bt w B s fr hp gl tr mk:=by
 obtain⟨F1,F2,F3,F4,F5,h1,h2,h3,h4,h5,hn⟩:=h;exact⟨F1,F2,F3,F4,F5,h1.mono hB,h2.mono hB,h3.mono hB,h4.mono hB,h5.mono hB,hn⟩
theorem G6.call(h:G6 W s k T V L w)(hs:L 6=cA)(h5:L 5=cA)(hb:AA6 w w2)(ho:Bt w2 W.heap.size s fr hp gl tr mk):G6 W s k T (EB V 2 (Ko s fr hp gl tr mk)) (upd L 2) w2:=by grind [G6,tr,Bt,EB,upd,AB,BL,upd_ne]
theorem G6.built(h:G6 W s k T V L w)(hs:L 6=cA)(h2:L 2=cC)(ho:Bt w W.heap.size s fr hp gl tr mk):G6 W s k T (EB V 5 (.agg (mC k s fr hp gl tr mk).toArray)) (upd L 5) w:=by grind [G6,tr,Bt,EB,upd,BL,Br,upd_ne]
theorem G6.boxed(h:G6 W s k T V L w)(hs:L 6=cA)(ho:Bt w W.heap.size s fr hp gl tr mk):G6 W s k T (EB V 6 (.pointer (cP ⟨w.heap.size,0,cX⟩))) (upd L 6) (w.alloc (.cells (mC k s fr hp gl tr mk).toArray T)):=
 ⟨(λe=>by rw[Cc]at e;cases e),λ_=>⟨w,fr,hp,gl,tr,mk,h.below hs,ho,rfl,BL _ _ _⟩⟩
end
def OQ(h:s.status≠3):Jg s=s:=by unfold Jg;rw[if_neg h]
theorem Vi{k:Hd}{ans fails:List Int}(hE:Env w0 w.heap.size k p ans fails)(h0:AA6 w0 w)(h1:k.one)(hk0:k.u0=cE p.ssa)(hS:Qx w s fr hp gl tr mk)(hz:jW s)(fuel:Int)(hy:Way p (Jg s) fuel):Calls prog 12 #[.agg #[k.u0,k.u1,k.u2,k.u3,k.u4],Ko s fr hp gl tr mk,cI cJ fuel,k.av,k.fv] w λe w'=>∃t fr' hp' TV TI mk',e=.returned (Ko t fr' hp' TV TI mk')/\Bt w' w.heap.size t fr' hp' TV TI mk'/\Runs p ans fails fuel (Jg s) 0 t/\Way p t fuel/\AA6 w w':=by
 obtain⟨pa,ca,hav,-⟩:=hE.an;obtain⟨pq,cq,J6,-⟩:=hE.fa;obtain⟨pc,cc,hu1⟩:=hE.vp.c.slice;obtain⟨pg,cg,hu2⟩:=hE.vp.g.slice;obtain⟨px,cx,hu3⟩:=hE.vp.xt.slice;obtain⟨pf,cf,hu4⟩:=hE.vp.f.slice;obtain⟨k0,k1,k2,k3,k4,k5,k6⟩:=k;dsimp only at hav J6 hu1 hu2 hu3 hu4 hk0⊢;subst hav J6 hu1 hu2 hu3 hu4 hk0;obtain⟨F0,hfr⟩:=hS.fr;obtain⟨q1,d1,rfl⟩:=hfr.sl;obtain⟨H0,nD⟩:=hS.hp;obtain⟨q2,d2,rfl⟩:=nD.sl;obtain⟨G0,hgl⟩:=hS.gl;obtain⟨q3,d3,rfl⟩:=hgl.sl;obtain⟨T0,htr⟩:=hS.tr;obtain⟨q4,d4,rfl⟩:=htr.sl;obtain⟨M0,hmk⟩:=hS.mk';obtain⟨q5,d5,rfl⟩:=hmk.sl;clear hfr nD hgl htr hmk;generalize hl1:p.cs.length=n1 at*;generalize hl2:p.gs.length=n2 at*;generalize hl3:p.xs.length=n3 at*;generalize hl4:p.fs.length=n4 at*;generalize hl5:ans.length=n5 at*;generalize hl6:fails.length=n6 at*;generalize hss:p.ssa=ssa at*;obtain⟨hP,hT,hZ,hb1⟩:=aY (w:=w) (c1:=[cE ssa,cY pc n1 cc,cY pg n2 cg,cY px n3 cx,cY pf n4 cf]) (c2:=WG s (cY q1 s.frames.length d1) (cY q2 s.heap.length d2) (cY q3 s.globals.length d3) (cY q4 s.trace.length d4) (cY q5 s.marks.length d5)) (c3:=gF) (t1:=27) (t2:=40) (t3:=40) (AL);go_enter func12,ntmps12;go_wp2_with fail;generalize hW:World.alloc _ _=W at*;have hWz:W.heap.size=w.heap.size+1+1+1:=by rw[<-hW];simp
 have hcp:=λ(v:World) (hv:AA6 W v)=>VE (hS.kp (AB hb1 hv)) hz;clear hW;refine ALR (S:=G6 W s ⟨cE ssa,cY pc n1 cc,cY pg n2 cg,cY px n3 cx,cY pf n4 cf,cY pa n5 ca,cY pq n6 cq⟩ 87) (G6.start Ac) ?_;(refine AU.f (λz=>z.s.keep rfl rfl rfl) (λz=>(hP.nx (z.s.below (z.r 6 5 (by kernel_rfl) (z.o 5)))).c5) ?_);(refine AU.f (λz=>z.s.keep rfl rfl rfl) (λz=>(hT.nx (z.s.below (z.r 6 5 (by kernel_rfl) (z.r 5 2 (by kernel_rfl) (z.o 2))))).c13) ?_);refine AU.free (λ_=>rfl) (λV L w1 K' Q' hS hi hR hd hK=>?_) ?_
 ·have h5:=hR.out 5 2 (by kernel_rfl) hi;have h6:=hR.out 6 5 (by kernel_rfl) h5;have hI:=hS.below h6;go_simp;go_wp2_with(refine(hcp _ hI).mono ?_;rintro e w2 ⟨fr',hp',TV,TI,mk',rfl,ho,hb⟩)
  exact hK.out _ _ rfl (hS.call h6 h5 hb (ho.mono hI.size))
 simp only[Act.put];iterate 2((refine AU.q (λz=>z.s.keep rfl rfl rfl) ?_))
 refine AU.free (λ_=>rfl) (λV L w1 K' Q' hS hi hR hd hK=>?_) ?_
 ·have h6:=hR.out 6 5 (by kernel_rfl) hi;have h2:=hd.out 2 (by kernel_rfl);obtain⟨fr,hp,gl,tr,mk,hV,ho⟩:=(hS.1 h6).2.1 h2;obtain⟨e1,f1,e2,f2,e3,f3,e4,f4,e5,f5,rfl,rfl,rfl,rfl,rfl⟩:=ho.shape;have hS2:=hS.built h6 h2 ho;simp only[hV];go_simp;exact hK.out _ _ (by simp only[hV];rfl) hS2
 simp only[Act.put];refine AU.free (λ_=>rfl) (λV L w1 K' Q' hS hi hR hd hK=>?_) ?_
 ·have h5:=hd.out 5 (by kernel_rfl);obtain⟨fr,hp,gl,tr,mk,hV,ho⟩:=(hS.1 hi).2.2 h5;have hS2:=hS.boxed hi ho;simp only[hV];go_simp;exact hK.out _ _ (by simp only[hV];rfl) hS2
 simp only[Act.put];(refine AU.step (a1:=?_) (λ_=>rfl) (λV L w1 K' Q' hS hi hR hd hK=>?_) ?_ ?_ ?_;rotate_left)
 ·go_simp;(try simp only[pE]);exact hK.out _ (hS.keep rfl rfl rfl)
 ·intro V;rfl
 ·exact λL V V' Kt hl hv=>hv 6 (by
   cases h:L 6 with
   |true=>rfl
   |false=>
    have:=Kt 7 6 (by kernel_rfl) h;rw[hl]at this
    cases this)
 refine AU.nil λV w1 hS=>?_;obtain⟨v0,fr,hp,gl,tr,mk,hb0,ho,rfl,CX⟩:=hS.2 rfl;simp only[CX];obtain⟨e1,f1,e2,f2,e3,f3,e4,f4,e5,f5,rfl,rfl,rfl,rfl,rfl⟩:=ho.shape;have hM:=Am.make h1 ho hb0.size 87;have J8:=AJ v0 (.cells (mC ⟨cE ssa,cY pc n1 cc,cY pg n2 cg,cY px n3 cx,cY pf n4 cf,cY pa n5 ca,cY pq n6 cq⟩ s (cY e1 s.frames.length f1) (cY e2 s.heap.length f2) (cY e3 s.globals.length f3) (cY e4 s.trace.length f4) (cY e5 s.marks.length f5)).toArray 87);have hbW:=AB hb0 J8;have vM:=hT.nx hbW;have hZ2:=hZ.nx hbW;have hb2:=AB hb1 hbW;have hMW:W.heap.size<=v0.heap.size:=hb0.size;generalize hv0:v0.heap.size=M at*;generalize hw1:World.alloc _ _=w1 at*;have x0:=vM.c 0 _ rfl;go_upto_if 21 with fail;go_cut[21]from 22 to 25 (λ_ wx=>Am wx W.heap.size (M+1) M ⟨cE ssa,cY pc n1 cc,cY pg n2 cg,cY px n3 cx,cY pf n4 cf,cY pa n5 ca,cY pq n6 cq⟩ (Jg s) 0/\Ae wx (w.heap.size+1+1) gF/\AA6 w wx)
 ·by_cases h3:s.status=3
  ·have hi3:(s.status==(3:Int))=cC:=(by simp[h3]);have hw:Jg s={s with status:=0}:=(by unfold Jg;rw[if_pos h3]);have hM2:=hM.ER 0;rw[<-hw]at hM2;have hZ3:=hZ2.far (q:=⟨M,5,cX⟩) (show M≠w.heap.size+1+1 by omega) (cI cJ 0);have hb3:=hb2.setCell (p:=⟨M,5,cX⟩) (show w.heap.size<=M by omega) (cI cJ 0);obtain⟨n5',-⟩:=hM.ns;have fz:=hM.Bw 5;replace h3:=Wx h3;go_wp2;go_meet;exact⟨hM2,hZ3,hb3⟩
  ·have hi3:(s.status==(3:Int))=cA:=(by simp[h3]);have hw:Jg s=s:=OQ h3;clear vM x0;replace hw:=Wx hw;go_wp2;go_meet;exact⟨by rw[hw.out];exact hM,hZ2,hb2⟩
 obtain⟨hM,hZ2,hb2⟩:=hcut;have hfu:fuel<=1048576:=by have:=hy.fu;omega
 go_wp2_with fail;have hE':Env w0 W.heap.size _ p ans fails:={hE with b0:=AX hE.b0 (by omega)};have hrun:=jq hE' (AB h0 hb2) hM (j:=0) (by decide) fuel hy;refine hrun.mono ?_;rintro e w5 ⟨rfl,t,j',N',Yw,CS,pR,hb5⟩;obtain⟨fr,hp,gl,tr,mk,ho,hcells⟩:=Yw.out;obtain⟨e1,f1,e2,f2,e3,f3,e4,f4,e5,f5,rfl,rfl,rfl,rfl,rfl⟩:=ho.shape;have Kr:=hZ2.below (by omega) hb5;have Zb:=hb2.trans (hb5.mono (by omega));have hof:=(ho.run (R:=w.heap.size+1+1) (by omega) (WG t (cY e1 t.frames.length f1) (cY e2 t.heap.length f2) (cY e3 t.globals.length f3) (cY e4 t.trace.length f4) (cY e5 t.marks.length f5))).mono (show w.heap.size<=W.heap.size by omega);have hbf:=Zb.trans (Ay (B:=w.heap.size) (p:=w.heap.size+1+1) (by omega) (WG t (cY e1 t.frames.length f1) (cY e2 t.heap.length f2) (cY e3 t.globals.length f3) (cY e4 t.trace.length f4) (cY e5 t.marks.length f5)) 0 w5);have y0:=hcells 0 _ rfl;have y1:=hcells 1 _ rfl;have y2:=hcells 2 _ rfl;have y3:=hcells 3 _ rfl;have y4:=hcells 4 _ rfl;have y5:=hcells 5 _ rfl;have y6:=hcells 6 _ rfl;have y7:=hcells 7 _ rfl;have y8:=hcells 8 _ rfl;have y9:=hcells 9 _ rfl;have y10:=hcells 10 _ rfl;have y11:=hcells 11 _ rfl;have y12:=hcells 12 _ rfl;obtain⟨r0,r1,r2,r3,r4,r5,r6,r7,r8,r9,r10,r11,r12⟩:=Kr.c13;obtain⟨g0,g1,g2,g3,g4,g5,g6,g7,g8,g9,g10,g11,g12⟩:=Kr.f13;go_wp2_with fail;(try simp only[Exit.inBlock,Exit.then]);refine bodyPost_ret_by (v:=Ko t (cY e1 t.frames.length f1) (cY e2 t.heap.length f2) (cY e3 t.globals.length f3) (cY e4 t.trace.length f4) (cY e5 t.marks.length f5)) ((GQ rfl _ _ _).trans (by go_simp;try rfl)) rfl ?_;exact⟨t,_,_,_,_,_,rfl,hof,CS,pR,hbf⟩
end
section
open Num Dp
def jk{O:Nat}{F1 F2 F3 F4 F5:List Nat}(hB:Ae w O (WG s fr hp gl tr mk))(l1:AZ w B 84 4 (s.frames.map Kw) fr F1)(l2:AZ w B 119 2 (s.heap.map Ld) hp F2)(l3:AZ w B 34 2 (s.globals.map C9) gl F3)(l4:AZ w B 59 4 (s.trace.map Qc) tr F4)(l5:AZ w B 2 1 (s.marks.map dN) mk F5):Af w B (Eh s) O 0 (F1++(F2++(F3++(F4++(F5++[]))))):=by
 unfold Eh C9;refine Af.of (AP.cc (hB.c 0 _ rfl) rfl ?_);have hr:AP w B [dS s.result.1,dN s.result.2] O 1 []:=AP.cc (hB.c 1 _ rfl) rfl (AP.cc (hB.c 2 _ rfl) rfl AP.cn);refine AP.ca (f1:=[]) hr ?_;exact AP.cc (hB.c 3 _ rfl) rfl (AP.cr (hB.c 4 _ rfl) l1 (AP.cr (hB.c 5 _ rfl) l2 (AP.cr (hB.c 6 _ rfl) l3 (AP.cr (hB.c 7 _ rfl) l4 (AP.cr (hB.c 8 _ rfl) l5 (AP.cc (hB.c 9 _ rfl) rfl (AP.cc (hB.c 10 _ rfl) rfl (AP.cc (hB.c 11 _ rfl) rfl (AP.cc (hB.c 12 _ rfl) rfl AP.cn)))))))))
theorem rZ{O:Nat}{fp:List Nat}(h1:Af w B (Eh s) O 0 fp)(h2:fp.Nodup):∃fr hp gl tr mk,Bt w B s fr hp gl tr mk/\(∀i v,(WG s fr hp gl tr mk)[i]? =cP v->w.cell? ⟨O,0+i,cX⟩=cP v):=by
 unfold Eh C9 at h1;obtain⟨c0,b1⟩:=h1.l.c1;obtain⟨f3,f4,e2,b2,b3⟩:=b1.a1;obtain⟨c1,b4⟩:=b2.c1;obtain⟨c2,b5⟩:=b4.c1;have z2:=b5.n1;obtain⟨c3,b6⟩:=b3.c1;obtain⟨fr,F1,g1,x1,d1,q1,k1⟩:=b6.r1;obtain⟨hp,F2,g2,x2,d2,q2,k2⟩:=k1.r1;obtain⟨gl,F3,g3,x3,d3,q3,k3⟩:=k2.r1;obtain⟨tr,F4,g4,x4,d4,q4,k4⟩:=k3.r1;obtain⟨mk,F5,g5,x5,d5,q5,k5⟩:=k4.r1;obtain⟨c4,k6⟩:=k5.c1;obtain⟨c5,k7⟩:=k6.c1;obtain⟨c6,k8⟩:=k7.c1;obtain⟨c7,k9⟩:=k8.c1;have z3:=k9.n1;refine⟨fr,hp,gl,tr,mk,⟨F1,F2,F3,F4,F5,q1,q2,q3,q4,q5,?_⟩,λi v hv=>?_⟩
 ·rw[e2,z2,x1,x2,x3,x4,x5,z3]at h2;simpa using h2
 ·rcases i with _|_|_|_|_|_|_|_|_|_|_|_|_|i;all_goals first|(injection hv with hv;subst hv;first|exact c0|exact c1|exact c2|exact c3|exact d1|exact d2|exact d3|exact d4|exact d5|exact c4|exact c5|exact c6|exact c7)|(simp at hv)
def sI{N:Nat}{d d':Dt}(h:Own w B N d g o)(e:d=d'):Own w B N d' g o:=e▸h
end
section
open Num Dp
def Ad.call{W w2:World}{s bs ap st n:Nat}{one:List Value}{dst:Addr}{V:Nat->Value}{L:Nat->Bool}(h:Ad W B e s bs ap st one n xs v dst V L w)(ha:L ap=cA)(hbs:L bs=cA)(hb:AA6 w w2)(h1:(bs==i)=cA)(h2:(ap==i)=cA):Ad W B e s bs ap st one n xs v dst V (upd L i) w2:=by
 refine⟨λ_=>⟨AB (h.below ha) hb,λe=>?_⟩,λe=>?_⟩
 ·rw[upd_ne h1,hbs]at e;cases e
 ·rw[upd_ne h2,ha]at e;cases e
abbrev mY(x bn:ByteArray)(m:Vm)(g:List Vu):St:=⟨0,(Bv,0),0,[⟨x,bn,0,m⟩],[],g,[],[],0,0,0,0⟩
abbrev vv(fr gl:Value):List Value:=[cI cJ 0,cS ⟨#[]⟩,cI cJ 0,cI cJ 0,fr,cY cX 0 0,gl,cY cX 0 0,cY cX 0 0,cI cJ 0,cI cJ 0,cI cJ 0,cI cJ 0]
theorem Us{v:Vr}{r:List Vr}{l:List Int}{m:Vm}:ET (v::r) l m=ET r l.tail (Ei m v.n (Lx v.t l.head?)):=rfl
theorem OW(h0:AA6 w0 w){u1 u2 u3 u4:Value}(hp:Cj w0 (.agg #[cE p.ssa,u1,u2,u3,u4]) p u1 u2 u3 u4)(x:ByteArray){f:Fn}(hf:Ai Fn.n x p.fs=cP f){b0:Bk}{br:List Bk}(hbs:f.bs=b0::br){av:Value}(ha:Row Nj 1 w0 av args)(hgl:p.gs.length<=4000)(hpl:f.ps.length<=100000):Calls prog 10 #[.agg #[cE p.ssa,u1,u2,u3,u4],cS x,av] w λe w'=>∃fr hp gl tr mk,e=.returned (.tuple #[Ko (mY x b0.n (ET f.ps args []) (p.gs.map λg=>Ap g.t)) fr hp gl tr mk,cI cJ 0])/\Bt w' w.heap.size (mY x b0.n (ET f.ps args []) (p.gs.map λg=>Ap g.t)) fr hp gl tr mk/\AA6 w w':=by
 obtain⟨f1,f2,f3,hsel,hvf⟩:=QD hp.f hf;have hL:=λv (hv:AA6 w0 v)=>Kh hv hp x hsel hvf;obtain⟨pc,cc,rfl⟩:=hp.c.slice;obtain⟨px,cx,rfl⟩:=hp.xt.slice;obtain⟨pf,cf,rfl⟩:=hp.f.slice;obtain⟨pg,cg,rfl,-,-,hgs⟩:=hp.g;obtain⟨pa,ca,rfl,-,hla,has⟩:=ha;obtain⟨NY,Nb,rfl,-,hn1,hps⟩:=hvf.p;obtain⟨NW,Na,rfl⟩:=hvf.v.slice;obtain⟨uq,Yr,rfl,-,QY,hbk⟩:=hvf.b;obtain⟨a3,rfl,⟨d0,-⟩,-⟩:=hbk 0 b0 (by rw[hbs];rfl);replace d0:w0.cell? a3=cP (cS b0.n):=d0;obtain⟨n3,qR,ADm,ADn,AJT⟩:∃n3:Nat,f.bs.length=n3/\0<n3/\(0:Int)<n3/\((n3:Int)==0)=cA:=⟨_,rfl,by rw[hbs];simp,by rw[hbs];simp,by rw[hbs];simp;omega⟩;rw[qR]at hL;generalize f.n=fn at*;generalize f.r=fr at*;generalize f.vs.length=nv at*;generalize b0.n=bn at*;generalize p.cs.length=n1 at*;generalize p.xs.length=nx at*;generalize p.fs.length=n4 at*;generalize p.ssa=ssa at*;obtain⟨hP,hZ,hb1⟩:=Ch (w:=w) (c1:=[cE ssa,cY pc n1 cc,cY pg p.gs.length cg,cY px nx cx,cY pf n4 cf]) (c2:=gF) (t1:=27) (t2:=40) (AL);have t1:=underlying69;have t2:=underlying9;go_enter func10,ntmps10;go_wp2_with fail;generalize hW:World.alloc _ _=W at*;have hWz:W.heap.size=w.heap.size+1+1:=by rw[<-hW];simp
 refine(hL _ (AB h0 hb1)).mono ?_;rintro e w2 ⟨hb2,rfl⟩;have hPZ:=And.intro (hP.nx hb2) (hZ.nx hb2);have hb3:=AB hb1 hb2;have hFB:=Ae.alloc w2 [cS fn,cS fr,cY NY f.ps.length Nb,cY NW nv Na,cY (cP a3) n3 Yr] 66;have hA:=AJ w2 (.cells #[cS fn,cS fr,cY NY f.ps.length Nb,cY NW nv Na,cY (cP a3) n3 Yr] 66);have hP3:=hPZ.1.nx hA;have hZ3:=hPZ.2.nx hA;have hb4:=AB hb3 hA;have hFz:w2.heap.size<(w2.alloc (.cells #[cS fn,cS fr,cY NY f.ps.length Nb,cY NW nv Na,cY (cP a3) n3 Yr] 66)).heap.size:=by simp
 have hsz2:=hb2.size;generalize hF:w2.heap.size=FA at*;go_upto_region 2 with fail;generalize hW3:w2.alloc _=W3 at*;obtain⟨-,-,c2,-,c4⟩:=hFB.c5;have hmm:= @run_makeMap prog;have Wo:=CQ.made (w:=W3) (clock:=0);have pO:=AJ W3 (.map #[] 0);have ADh:(W3.alloc (.map #[] 0)).heap.size=W3.heap.size+1:=by simp
 go_wp2_with fail;have wV:=hP3.nx pO;have hZ4:=hZ3.nx pO;have gM:=hFB.nx pO;have hb5:=AB hb4 pO;generalize hW4:W3.alloc (.map #[] 0)=W4 at*;generalize hbe:W3.heap.size=b at*;have Ku:=AB h0 hb5;have hbb:b<W4.heap.size:=by omega
 have hb0:w0.heap.size<=b:=by have:=h0.size;have:=hb4.size;omega
 have AEf:FA≠b:=by omega
 have hwb:w.heap.size+1<b:=by omega
 go_loopw[36] (λi wr=>∃(q:Nat) (mq:Vm),q<=f.ps.length/\i=cI cJ (q:Int)/\CQ wr b mq/\Hid (ET (f.ps.drop q) (args.drop q) mq=ET f.ps args [])/\Apart W4 wr b) (λi _=>f.ps.length-(intOf i).toNat);exact⟨0,[],AY,rfl,Wo,Wx rfl,Apart.refl _ _⟩;obtain⟨q,mq,hq,rfl,Yu,hbi,hap⟩:=hrel;have hbig:=hap.b.size;by_cases hend:q=f.ps.length
 ·subst hend;obtain⟨wo,rfl⟩:=again wr;have hmf:mq=ET f.ps args []:=by
   have:=hbi.out;rw[List.drop_length]at this;exact this
  rw[hmf]at Yu;generalize hpv:ET f.ps args []=m1 at*;replace hpv:=Wx hpv;have hPo:=hap.box wV (by omega);have hZo:=hap.box hZ4 (by omega);have hFo:=hap.box gM AEf;have Qg:AA6 w wo:=hb5.trans (hap.b.mono (by omega));have h0o:=Ku.trans (hap.b.mono (by omega));replace d0:=hap.cell (AA Ku d0) (show a3.block≠b by have:=World.block_lt_of_cell? w0 _ d0;omega);have AJm:b<wo.heap.size:=Yu.lt;have hWo:W.heap.size<=b:=by omega
  clear wV hZ4 gM hb5 Ku hap;have o4:=hFo.c 4 _ rfl;have hLB:=Ae.alloc wo [cS x,cS bn,cI cJ 0,.map (cP b)] 84;have hLh:=(MapKept.heap_alloc wo (.cells #[cS x,cS bn,cI cJ 0,.map (cP b)] 84)).1;have hA1:=AJ wo (.cells #[cS x,cS bn,cI cJ 0,.map (cP b)] 84);have hmL:=Yu.other (hA1.block b Yu.lt);have hzL:(wo.alloc (.cells #[cS x,cS bn,cI cJ 0,.map (cP b)] 84)).heap.size=wo.heap.size+1:=by simp
  have hPL:=hPo.nx hA1;have hZL:=hZo.nx hA1;have hbL:=AB Qg hA1;go_upto_region 18 with fail;generalize hWL:wo.alloc (.cells #[cS x,cS bn,cI cJ 0,.map (cP b)] 84)=WL at*;have TM:=Ae.alloc WL (vv (cY (cP ⟨wo.heap.size,0,cX⟩) 1 1) (cY cX 0 0)) 40;have TL:=(MapKept.heap_alloc WL (.cells (vv (cY (cP ⟨wo.heap.size,0,cX⟩) 1 1) (cY cX 0 0)).toArray 40)).1;have hA2:=AJ WL (.cells (vv (cY (cP ⟨wo.heap.size,0,cX⟩) 1 1) (cY cX 0 0)).toArray 40);have hzS:(WL.alloc (.cells (vv (cY (cP ⟨wo.heap.size,0,cX⟩) 1 1) (cY cX 0 0)).toArray 40)).heap.size=wo.heap.size+1+1:=by simp[hzL]
  rw[hzL]at TM TL;have hPS:=hPL.nx hA2;have hZS:=hZL.nx hA2;have hbS:=AB hbL hA2;have Zj:=hLB.nx hA2;have hmS:=hmL.other (hA2.block b hmL.lt);have yV:=(hA2.block wo.heap.size (by omega)).trans hLh;generalize hWS:WL.alloc (.cells (vv (cY (cP ⟨wo.heap.size,0,cX⟩) 1 1) (cY cX 0 0)).toArray 40)=WS at*;have hFr:AZ WS b 84 4 ([(⟨x,bn,0,m1⟩:Lv)].map Kw) (cY (cP ⟨wo.heap.size,0,cX⟩) 1 1) (wo.heap.size::([b]++[]++[])):=by
   refine .inr ⟨wo.heap.size,1,_,_,rfl,by omega,yV,by simp,by unfold maxLen;omega,rfl,rfl,λd hd=>?_,?_⟩
   ·obtain rfl:d=Kw ⟨x,bn,0,m1⟩:=(by simpa using hd);rfl
   ·show AP WS b [Kw ⟨x,bn,0,m1⟩] wo.heap.size 0 _;unfold Kw;exact AP.ca (AP.cc (Zj.c 0 _ rfl) rfl (AP.cc (Zj.c 1 _ rfl) rfl (AP.cc (Zj.c 2 _ rfl) rfl (AP.cm (Zj.c 3 _ rfl) (AQ) hmS AP.cn)))) AP.cn
  have hLi:=jk (s:=mY x bn m1 []) (fr:=cY (cP ⟨wo.heap.size,0,cX⟩) 1 1) (hp:=cY cX 0 0) (gl:=cY cX 0 0) (tr:=cY cX 0 0) (mk:=cY cX 0 0) TM hFr .nil .nil .nil .nil;have hown:Own WS b WS.heap.size (Eh (mY x bn m1 [])) (wo.heap.size+1) 0:=by
   refine⟨by omega,by omega,AQ,_,hLi,?_,λc hc=>?_⟩
   ·have h1:b≠wo.heap.size:=(by omega);have h2:b≠wo.heap.size+1:=(by omega);simp;omega
   ·simp at hc;omega
  have hty:∃cur T,WS.heap[wo.heap.size+1]? =cP (.cells cur T (0,0)):=⟨_,_,TL⟩;have j2:=hPS.c 2 _ rfl;clear hWS hWL hLB hLh hA1 hmL hPL hZL hbL TM TL hA2 Zj hmS yV hFr hLi hPo hZo hFo Qg o4 Yu d0 h0o;go_wp2_with fail;have h0S:=AB h0 hbS;generalize hSb:wo.heap.size+1=Sb at*;have AJo:b<Sb:=by omega
  go_loopw[83] (λi wr=>∃(q N':Nat),q<=p.gs.length/\i=cI cJ (q:Int)/\Own wr b N' (Eh (mY x bn m1 ((p.gs.take q).map λg=>Ap g.t))) Sb 0/\(∃cur T,wr.heap[Sb]? =cP (.cells cur T (0,0)))/\Below b WS wr) (λi _=>p.gs.length-(intOf i).toNat);exact⟨0,_,AY,rfl,hown,hty,AL⟩;clear hown hty j2;obtain⟨q,N',hq,rfl,hown,hty,hb⟩:=hrel;by_cases hend:q=p.gs.length
  ·subst hend;rw[List.take_length]at hown;obtain⟨wy,rfl⟩:=again wr;obtain⟨hge,AJa,AJK,fp,hl5,hn5,-⟩:=hown;generalize ht:mY x bn m1 (p.gs.map λg=>Ap g.t)=t at*;obtain⟨fr,hp,gl,tr,mk,ho,hcells⟩:=rZ hl5 (BN.1 hn5).2;obtain⟨a1,b1,a2,b2,a3,b3,a4,b4,a5,b5,rfl,rfl,rfl,rfl,rfl⟩:=ho.shape;have KA:=hZS.below (show w.heap.size+1<b by omega) hb;have hof:=(ho.run (R:=w.heap.size+1) (by omega) (WG t (cY a1 t.frames.length b1) (cY a2 t.heap.length b2) (cY a3 t.globals.length b3) (cY a4 t.trace.length b4) (cY a5 t.marks.length b5))).mono (show w.heap.size<=b by omega);have hbf:=(hbS.trans (hb.mono (by omega))).trans (Ay (B:=w.heap.size) (p:=w.heap.size+1) (by omega) (WG t (cY a1 t.frames.length b1) (cY a2 t.heap.length b2) (cY a3 t.globals.length b3) (cY a4 t.trace.length b4) (cY a5 t.marks.length b5)) 0 wy);replace ht:=Wx ht;have y0:=hcells 0 _ rfl;have y1:=hcells 1 _ rfl;have y2:=hcells 2 _ rfl;have y3:=hcells 3 _ rfl;have y4:=hcells 4 _ rfl;have y5:=hcells 5 _ rfl;have y6:=hcells 6 _ rfl;have y7:=hcells 7 _ rfl;have y8:=hcells 8 _ rfl;have y9:=hcells 9 _ rfl;have y10:=hcells 10 _ rfl;have y11:=hcells 11 _ rfl;have y12:=hcells 12 _ rfl;obtain⟨r0,r1,r2,r3,r4,r5,r6,r7,r8,r9,r10,r11,r12⟩:=KA.c13;obtain⟨s0,s1,s2,s3,s4,s5,s6,s7,s8,s9,s10,s11,s12⟩:=KA.f13;clear hcells KA hl5 hn5 ho hZS hPS hb hty hgs;go_wp2_with fail;(refine rB rfl (by go_simp;try rfl) rfl ?_);rw[hpv.out,ht.out];exact⟨_,_,_,_,_,rfl,hof,hbf⟩
  ·have hlt:q<p.gs.length:=(by omega);have A8:(q:Int)<p.gs.length:=(by omega);obtain⟨ap,rfl,⟨v0,-⟩,v1,-⟩:=hgs q p.gs[q] (by simp[hlt]);have h0r:=h0S.trans (hb.mono (by omega));replace v0:=AA h0r v0;replace v1:wr.cell? ⟨(ap.add (q*2)).block,(ap.add (q*2)).off+1,cX⟩=_:=AA h0r v1;have htk:(p.gs.take (q+1)).map (λg=>Ap g.t)=(p.gs.take q).map (λg=>Ap g.t)++[Ap p.gs[q].t]:=by
    rw[List.take_succ_eq_append_getElem hlt,List.map_append,List.map_singleton]
   have hlenq:((p.gs.take q).map (λg=>Ap g.t)).length=q:=(by simp;omega);generalize(p.gs.take q).map (λg=>Ap g.t)=gq at*;generalize p.gs[q]=pq at*;have hn:=λw=>Ju pq.t w;rw[show∀t:ByteArray,Ending.returned (Value.agg #[cS (F9 t),cI cJ 0])=.returned (Kn (Ap t))from λt=>by rw[<-I7]]at hn;generalize hvq:Ap pq.t=vq at*;obtain⟨S9,wN⟩:=BR (w:=wr) (c1:=[cS pq.n,cS pq.t]) (t1:=71) (AL);have Zy:=hown.kp (wN.mono hown.sz);have xX:∃cur T,(wr.alloc (.cells #[cS pq.n,cS pq.t] 71)).heap[Sb]? =cP (.cells cur T (0,0)):=by
    obtain⟨cur,T,e⟩:=hty;exact⟨cur,T,(wN.block Sb (by have:=hown.lt;have:=hown.sz;omega)).trans e⟩
   have AEM:=hb.trans (wN.mono (by have:=hown.lt;have:=hown.sz;omega));go_upto_region 21 with fail;generalize hWV:wr.alloc _=WV at*;have s0:=Zy.spot;unfold Eh at s0;have s1:=s0.nth 5 rfl (n:=6) (by simp[Dt.DF,Dt.wd,C9,dN,dS]);obtain⟨vt,xs,ct,PU,pt,kt,rfl⟩:=s1.owns;rw[List.length_map,hlenq]at ct PU;have IW:=s1.OE ct;have hfz:WV.frozen? ⟨Sb,6,cX⟩=cA:=by
    obtain⟨cur,T,e⟩:=xX;unfold World.frozen?;dsimp only;rw[e];rfl
   have AJZ:=Zy.lt;have ADj:=Zy.sz;have ADs:=S9.lt;have hsd:WV.drew.heap.size=WV.heap.size:=rfl;have hxd:=Dh PU (Al (w:=WV) 1) (AQ);refine ALR (S:=Ad WV.drew b 34 2 5 6 8 [cS vq.1,cI cJ vq.2] q xs (cY pt q kt) ⟨Sb,6,cX⟩) (Ad.start (AL)) ?_;(refine AU.q (λz=>z.s.keep rfl rfl rfl) ?_);(refine AU.f (λz=>z.s.keep rfl rfl rfl) (λz=>AA (z.s.below (z.o 6)) (show WV.drew.cell? ⟨Sb,6,cX⟩=cP (cY pt q kt)from ct)) ?_);(refine AU.q (λz=>z.s.keep rfl rfl rfl) ?_);(refine AU.f (λz=>z.s.keep rfl rfl rfl) (λz=>((S9.drew).below ADs (z.s.below (z.r 6 4 (by kernel_rfl) (z.o 4)))).c 1 _ rfl) ?_);(refine AU.c (λz=>hn _) (λz hb=>z.s.call (z.o 6) (z.o 5) hb rfl rfl) ?_);(apply AU.w rfl;intro V L w1 _ _ _ z hK;go_simp;exact hK rfl (z.s.made (z.o 6) rfl _);(try simp only[pE]));(refine Ad.aq (VW) (underlying37) (hxd) ?_;(try simp only[pE]));(refine AU.q (λz=>z.s.keep rfl rfl rfl) ?_);(refine Ad.sv (λhS hi=>ALS (hS.cellOf hi (show WV.drew.cell? ⟨Sb,6,cX⟩=cP (cY pt q kt)from ct) IW) (hS.EA hi (o:=6) (show Sb<WV.drew.heap.size by omega) hfz IW)) ?_;simp only[Act.put]);refine AU.nil λV w1 hS=>?_;obtain⟨⟨N1,ho⟩,hbel,-,w9,u9,rfl,Y9⟩:=hS.done rfl rfl (s1.kp ((Al (w:=WV) 1).mono ADj)) (AL) ct hxd (by rw[List.length_map,hlenq]) (d:=C9 vq)
    (λw1 pb b1 _ _ hx=>⟨[],Tw hx,by simp⟩) rfl rfl
   have RG:Own (w9.setCell ⟨Sb,0+6,cX⟩ u9) b N1 (Eh (mY x bn m1 ((p.gs.take (q+1)).map λg=>Ap g.t))) Sb 0:=by
    rw[htk];refine sI ho ?_;unfold Eh;simp
   have ADe:∃cur T,(w9.setCell ⟨Sb,0+6,cX⟩ u9).heap[Sb]? =cP (.cells cur T (0,0)):=by
    obtain⟨cur,T,e⟩:=xX;exact Iq (Y9.trans e) _ _
   have Nf:Below b WS (w9.setCell ⟨Sb,0+6,cX⟩ u9):=AEM.trans ((Al (w:=WV) 1|>.mono (by omega)).trans hbel);generalize w9.setCell ⟨Sb,0+6,cX⟩ u9=W9 at*;go_wp2;go_roundw;exact⟨q+1,_,by omega,by go_num,RG,ADe,Nf⟩;simp[intOf];omega
 ·have hlt:q<f.ps.length:=by omega
  have A8:(q:Int)<f.ps.length:=by omega
  obtain⟨ap,rfl,⟨v0,-⟩,v1,-⟩:=hps q f.ps[q] (by simp[hlt]);have hbp:=World.block_lt_of_cell? w0 _ v0;have hne:(ap.add (q*2)).block≠b:=λe=>by rw[e]at hbp;omega
  replace v0:=hap.cell (AA Ku v0) hne;replace v1:wr.cell? ⟨(ap.add (q*2)).block,(ap.add (q*2)).off+1,cX⟩=_:=hap.cell (AA Ku v1) hne;have Qg:=hbi.out;rw[List.drop_eq_getElem_cons hlt,Us,List.tail_drop,List.head?_drop]at Qg;replace Qg:=Wx Qg;generalize f.ps[q]=pq at*;have hn:=λw=>Ju pq.t w;rw[show∀t:ByteArray,Ending.returned (Value.agg #[cS (F9 t),cI cJ 0])=.returned (Kn (Ap t))from λt=>by rw[<-I7]]at hn;obtain⟨S9,wN⟩:=BR (w:=wr) (c1:=[cS pq.n,cS pq.t]) (t1:=71) (AL);go_wp2_with fail;refine(hn _).mono ?_;rintro e w5 ⟨rfl,hb6⟩;have yQ:=S9.nx hb6;have AEL:=AB wN hb6;have Y6:=Ae.alloc w5 [cS (Ap pq.t).1,cI cJ (Ap pq.t).2] 34;have hA:=AJ w5 (.cells #[cS (Ap pq.t).1,cI cJ (Ap pq.t).2] 34);have yP:=yQ.nx hA;have BJ:=AB AEL hA;have xw:=Yu.other (BJ.block b Yu.lt);have jK:=hap.trans (Apart.of BJ (by omega));have hsz5:wr.heap.size<w5.heap.size:=yQ.lt;generalize hX:w5.heap.size=XB at*;go_upto_if 47 with fail;generalize hW6:w5.alloc _=W6 at*;have yB:=Y6.lt;generalize hv:Lx pq.t args[q]? =v at*;replace hv:=Wx hv;go_cut[47]from 48 to 64 (λ_ wx=>Ae wx XB [cS v.1,cI cJ v.2]/\Apart W6 wx XB)
  ·have vb1:=yP.c 1 _ rfl;have x1:=Y6.c 1 _ rfl;have z1:=Y6.f 1 (by simp);by_cases hqa:q<args.length
   ·have hqN:decide (q<args.length)=cC:=decide_eq_true hqa;have nA:(q:Int)<args.length:=(by omega);obtain⟨aa,rfl,hz⟩:=has q args[q] (by simp[hqa]);unfold Nj at hz;rw[Nat.mul_one]at hz;have hza:=World.block_lt_of_cell? w0 _ hz;have hze:(aa.add q).block≠b:=λe=>(by rw[e]at hza;omega);replace hz:=jK.cell (AA Ku hz) hze;have hvv:v=Lx pq.t (cP args[q]):=(by rw[<-hv.out,List.getElem?_eq_getElem hqa]);generalize args[q]=n at*;by_cases hti:pq.t=BA
    ·have hs1:(pq.t.toList==[105,110,116])=cC:=FE hti;have hn1:Ap pq.t=(pq.t,0):=(by unfold Ap;rw[if_pos (.inl hti)]);have hv1:v=(pq.t,n):=(by rw[hvv];unfold Lx;dsimp only;rw[if_pos hti]);rw[hn1]at Y6 x1;subst hv1;clear hvv hti hn1 hv;go_wp2;go_meet;exact⟨Y6.set (i:=1) (by simp) _,Apart.set 1 _⟩
    ·have hs1:(pq.t.toList==[105,110,116])=cA:=D9 hti;by_cases uz:pq.t=Ao
     ·have hs2:(pq.t.toList==[102,108,111,97,116])=cC:=FE uz;have hn1:Ap pq.t=(pq.t,0):=(by unfold Ap;rw[if_pos (.inr uz)]);have hv1:v=(pq.t,Ba n):=(by rw[hvv];unfold Lx;dsimp only;rw[if_neg hti,if_pos uz]);rw[hn1]at Y6 x1;subst hv1;clear hvv hti hn1 hv uz;have hpl:=λw=>Ka n w;generalize Ba n=pn at*;(go_wp2_with(refine(hpl _).mono ?_;rintro e w9 ⟨rfl,rfl⟩));go_meet;exact⟨Y6.set (i:=1) (by simp) _,Apart.set 1 _⟩
     ·have hs2:(pq.t.toList==[102,108,111,97,116])=cA:=D9 uz;have hv1:v=Ap pq.t:=by
       rw[hvv];unfold Lx Ap;dsimp only;rw[if_neg hti,if_neg uz,if_neg (by rintro(h|h)<;>contradiction)]
      rw[<-hv1]at Y6;go_wp2;go_meet;exact⟨Y6,Apart.refl _ _⟩
   ·have hqN:decide (q<args.length)=cA:=decide_eq_false hqa;have nA:¬(q:Int)<args.length:=(by omega);have hv1:v=Ap pq.t:=by
     rw[<-hv.out,List.getElem?_eq_none (by omega)];rfl
    rw[<-hv1]at Y6;go_wp2;go_meet;exact⟨Y6,Apart.refl _ _⟩
  obtain⟨hX2,jJ⟩:=hcut;have AJp:=jK.b.size;have hbX:b<XB:=by omega
  have hVc:=jJ.box yP (by omega);have xu:=xw.other (jJ.k b (by omega) xw.lt);have AEQ:Apart W4 wc b:=⟨jK.b.trans (jJ.b.mono (by omega)),λr h1 h2=>(jJ.k r (by omega) (by omega)).trans (jK.k r h1 h2)⟩;have vb0:=hVc.c 0 _ rfl;obtain⟨x0,x1⟩:=hX2.c2;obtain⟨o2,ho,hm2⟩:=Mi t1 t2 xu pq.n v;have AEP:=AEQ.trans (Apart.blk (m:=b) (by have:=xu.lt;omega) o2);have hbn:Hid (ET (f.ps.drop (q+1)) (args.drop (q+1)) (Ei mq pq.n v)=ET f.ps args []):=Qg;go_wp2;go_roundw;exact⟨q+1,_,by omega,by go_num,hm2,hbn,AEP⟩;simp[intOf];omega
end
section
open Num Dp
abbrev fS:ByteArray:=⟨#[102]⟩
abbrev kS:ByteArray:=⟨#[107]⟩
abbrev aS:ByteArray:=⟨#[97]⟩
def RI:Is:=⟨33,Bv,Bv,[⟨1,kS,0⟩],[],[]⟩
def Pp:Bk:=⟨aS,[],[RI],⟨3,⟨1,kS,0⟩,[],0⟩⟩
def Nu:Fn:=⟨fS,BA,[⟨kS,BA⟩],[],[Pp]⟩
def FN:Pg:=⟨cA,[],[],[],[Nu]⟩
def IY:St:={st0 with frames:=[⟨fS,aS,0,[(kS,(BA,5))]⟩]}
def yx:Ev:=⟨Bv,[5],0,cA⟩
def jO:St:={st0 with frames:=[⟨fS,aS,1,[(kS,(BA,5))]⟩],trace:=[yx],marks:=[0],steps:=1}
def yw:St:={st0 with status:=1,result:=(BA,5),frames:=[],trace:=[yx],marks:=[0],steps:=2}
def yu:St:={jO with status:=3}
def fG:GK FN fS [5]=cP IY:=by rfl
def oK(fuel:Int)(h:0<fuel):EP FN [] [] fuel IY 0=cP (jO,0):=by
 unfold EP;rw[show xH FN IY=cP (⟨fS,aS,0,[(kS,(BA,5))]⟩,Nu,Pp)from rfl];dsimp only;rw[if_neg (by decide),if_neg (show¬fuel<=IY.steps by show¬fuel<=0;omega)];rfl
def AAh:EP FN [] [] 9 jO 0=cP (yw,0):=by rfl
def AAg:EP FN [] [] 1 jO 0=cP (yu,0):=by rfl
def lW:Runs FN [] [] 9 IY 0 yw:=.step rfl (oK 9 (by decide)) (.step rfl AAh (.stop (by decide)))
def tT:Runs FN [] [] 1 IY 0 yu:=.step rfl (oK 1 (by decide)) (.step rfl AAg (.stop (by decide)))
theorem V9:DJ FN where
 names:=λc hc=>by simp[FN]at hc
 heads:=by rfl
 fs:=λf hf=>by
  obtain rfl:f=Nu:=by simpa[FN]using hf
  refine⟨by simp[Nu],λb hb=>?_⟩;obtain rfl:b=Pp:=by simpa[Nu]using hb
  refine⟨rfl,λi hi=>?_,rfl,λh=>absurd h (by decide),λh=>absurd h (by decide),λy hy=>by simp[Pp]at hy⟩;obtain rfl:i=RI:=by simpa[Pp]using hi
  exact⟨rfl,λfm hf=>by
   have:fm=⟨cA,cA,1,1⟩:=by
    have h2:BH RI.op=cP ⟨cA,cA,1,1⟩:=rfl;rw[h2]at hf;injection hf with hf;exact hf.symm
   subst this
   rfl⟩
end
section
open Num Dp
theorem sQ{l:List Vr}(h:(l.map Vr.n).Nodup){u v:Vr}(hu:u∈l)(hv:v∈l)(e:u.n=v.n):u=v:=by
 induction l with
 |nil=>cases hu
 |cons a r ih=>
  rw[List.map_cons,List.nodup_cons]at h;rcases List.mem_cons.1 hu with e1|hu1
  ·rcases List.mem_cons.1 hv with e2|hv1
   ·rw[e1,e2]
   ·exact absurd (List.mem_map.2 ⟨v,hv1,by rw[<-e,e1]⟩) h.1
  ·rcases List.mem_cons.1 hv with e2|hv1
   ·exact absurd (List.mem_map.2 ⟨u,hu1,by rw[e,e2]⟩) h.1
   ·exact ih h.2 hu1 hv1
theorem kG(h:List Ob)(t:ByteArray)(a:Option Int):okV h (Lx t a) t:=by
 unfold Lx
 cases a with
 |none=>exact Ke h t t
 |some n=>
  dsimp only;by_cases e:t=BA
  ·exact .plain (by rw[e];exact JR)
  ·by_cases e2:t=Ao
   ·exact .plain (by rw[e2];exact Jr)
   ·rw[if_neg e,if_neg e2];exact .zero rfl
theorem Rk(hg:DJ p){f:Fn}(hf:f∈p.fs)(h:List Ob):∀(ps:List Vr) (l:List Int) (m:Vm),(∀v∈ps,v∈f.ps)->EO f h m->EO f h (ET ps l m)
 | [],_,_,_,hm=>hm
 |v::r,l,m,hp,hm=>by
  unfold ET;refine Rk hg hf h r l.tail _ (λu hu=>hp u (by simp[hu])) (hm.put λu hu=>?_);obtain⟨h1,h2⟩:=KP hu;obtain rfl:v=u:=sQ (hg.hp.n f hf) (by simp[hp v (by simp)]) h1 h2.symm;exact kG h _ _
theorem bP(hg:DJ p){x:ByteArray}(hs:GK p x args=cP s):WT p s:=by
 unfold GK at hs;split at hs
 ·cases hs
 ·rename_i f hf
  split at hs
  ·cases hs
  ·rename_i b0 br hbs
   injection hs with hs;subst hs;obtain⟨hm,hn⟩:=Ak hf;refine⟨(λob h=>by cases h),⟨by simp,λk v y hv hy=>?_⟩,⟨f,b0,?_,?_,AY,?_⟩,λ_=>by simp⟩
   ·simp only[List.getElem?_map,hy,Option.map_some,Option.some.injEq]at hv;subst hv;exact Ke _ _ _
   ·exact hf
   ·rw[hbs];unfold Ai;rw[if_pos rfl]
   ·exact Rk hg hm [] f.ps args [] (λ_ h=>h) λx v _=> .zero rfl
theorem dJ(t:ByteArray){a:Option Int}(h:∀n,a=cP n->Bo n):Bo (Lx t a).2:=by
 unfold Lx
 cases a with
 |none=>exact JW t
 |some n=>
  dsimp only;by_cases e:t=BA
  ·rw[if_pos e];exact h n rfl
  ·by_cases e2:t=Ao
   ·rw[if_neg e,if_pos e2];exact Ki (h n rfl)
   ·rw[if_neg e,if_neg e2];exact⟨by decide,by decide⟩
theorem Oh:∀(ps:List Vr) (l:List Int) (m:Vm),(∀n∈l,Bo n)->JG m->JG (ET ps l m)
 | [],_,_,_,hm=>hm
 |v::r,l,m,hl,hm=>by
  unfold ET;refine Oh r l.tail _ (λn hn=>hl n (List.mem_of_mem_tail hn)) (Jt hm _ (dJ _ λn hn=>hl n ?_))
  cases l with
  |nil=>cases hn
  |cons a t=>
   obtain rfl:a=n:=(by simpa using hn);simp
theorem KT(hg:DJ p)(hgl:p.gs.length<=4000){x:ByteArray}(ha:∀n∈args,Bo n)(hs:GK p x args=cP s){fuel:Int}(hfu:fuel<=100000):Way p s fuel/\jW s:=by
 have hw:=bP hg hs;unfold GK at hs;split at hs
 ·cases hs
 ·rename_i f hf
  split at hs
  ·cases hs
  ·rename_i b0 br hbs
   injection hs with hs;subst hs;have hc:ZH ({st0 with frames:=[⟨x,b0.n,0,ET f.ps args []⟩],globals:=p.gs.map λg=>Ap g.t}:St):=
    ⟨Int.le_refl 0,⟨Int.le_refl 0,Int.le_refl 0,rfl⟩,⟨Int.le_refl 0,Int.le_refl 0⟩,⟨Int.le_refl 0,rfl⟩,Int.le_refl 0,rfl,(λm h=>by cases h),(λk a b h=>by simp[st0]at h),(λe h=>by cases h),(show((1:Nat):Int)<=0+1 by decide),⟨(λh=>absurd (show(0:Int)=1 from h) (by decide)),(λh=>by cases h)⟩⟩
   have hr:Ga ({st0 with frames:=[⟨x,b0.n,0,ET f.ps args []⟩],globals:=p.gs.map λg=>Ap g.t}:St):=
    ⟨(λy hy=>by
     obtain rfl:=List.mem_singleton.1 hy
     exact Oh f.ps args [] ha (λy hy=>by cases hy)),(λob h=>by cases h),λv hv=>by
     obtain⟨g,-,rfl⟩:=List.mem_map.1 hv
     exact JW _⟩
   have hy:Way p ({st0 with frames:=[⟨x,b0.n,0,ET f.ps args []⟩],globals:=p.gs.map λg=>Ap g.t}:St) fuel:=⟨hw,hc,hr,(show(0:Int)<=100000 by decide),hfu,by simpa using hgl⟩;exact⟨hy,{toSmall:=hy.small,vs:=(λob h=>by cases h),ar:=(λe h=>by cases h)}⟩
end
end Go.Proofs.YtlffomedflegdaaGreatDoor
