/- Part 07 of the proof: Mh, Mi, Mj, Mk, Ml, Mm, Mn, Mo, Mp, Mq, Mr, Ms. -/
import Derived.Test.YtlffomedflegdaaGreatDoorPd06
set_option linter.all false
set_option maxHeartbeats 16000000
set_option maxRecDepth 100000
namespace Go.Proofs.YtlffomedflegdaaGreatDoor
open Go.Proofs.Tryz
open Go.RowKit
open Go.Value renaming int→cI,string→cS,slice→cY,bool→cE
open Go.IntKind renaming i64→cJ
open Option renaming some→cP,none→cX
open Bool renaming false→cA,true→cC
variable {B HB M N VB c1 c2 c3 ch cv l l2 l3 n q:Nat}{a:Ag}{c x:ByteArray}{i:Is}{j:Int}{k:Hd}{p:Pg}{p1 p2 p3:Option Addr}{r:List Ag}{rest:List Lv}{s:St}{u:Vu}{v:Value}{w w0:World}{y:Vr}
def EJ(q:Nat)(r:Option Nat):Int:=match r with
 |some k=>((q+k:Nat):Int)
 |none=> -1
theorem lG{r:List Vr}(hy:y.n≠x):FK x (y::r)=(FK x r).map (· +1):=by simp_all[FK]
theorem O5{r:List Vr}(hy:y.n≠x):EJ q (FK x (y::r))=EJ (q+1) (FK x r):=by
 rw[lG hy]
 cases FK x r with
 |none=>rfl
 |some k=>
  show((q+(k+1):Nat):Int)=((q+1+k:Nat):Int);rw[show q+(k+1)=q+1+k by omega]
theorem O6{r:List Vr}(hy:y.n=x):EJ q (FK x (y::r))=(q:Int):=by simp_all[EJ,FK]
theorem nZ(s x:ByteArray):(s.toList==x.toList)=decide (s=x):=by grind [EZ,Ea]
def U6{pb o:Nat}(hc:w.cell? ⟨pb,o,cX⟩=cP (cS x))(s t:ByteArray):Calls prog 193 #[.agg #[cS s,cS t],.pointer (cP ⟨pb,o,cX⟩)] w λe w'=>e=.returned (cE (decide (s=x)))/\AA6 w w':=by
 have hb:=AJ w (.cells #[cS s,cS t] 71);have hc2:=AA hb hc;have he:=nZ s x;go_enter func193,ntmps193;go_wp2;go_ret;exact⟨by first|rw[he]|(go_simp;rw[he])|simp[he],hb⟩
def LC{pb:Nat}(hc:w.cell? ⟨pb,2,cX⟩=cP (cS x))(s t:ByteArray):Calls prog 139 #[.agg #[cS s,cS t],.pointer (cP ⟨pb,0,cX⟩)] w λe w'=>e=.returned (cE (decide (s=x)))/\AA6 w w':=by
 have hb:=AJ w (.cells #[cS s,cS t] 71);have hc2:=AA hb hc;have he:=nZ s x;clear hc;go_enter func139,ntmps139;go_wp2;go_ret;exact⟨by first|rw[he]|(go_simp;rw[he])|simp[he],hb⟩
theorem U1(h0:AA6 w0 w){l:List Vr}(hl:Row IU 2 w0 v l)(x:ByteArray){cp:Value}(hg:∀w' (y:Vr),AA6 w w'->Calls prog 193 #[.agg #[cS y.n,cS y.t],cp] w' λe w2=>e=.returned (cE (decide (y.n=x)))/\AA6 w' w2):Calls prog 138 #[v,.func (Fn.func 193) #[] #[cp]] w λe w'=>e=.returned (cI cJ (EJ 0 (FK x l)))/\AA6 w w':=by
 obtain⟨pl,cl,rfl,-,hn,hl⟩:=hl;generalize hr:EJ 0 (FK x l)=r;go_enter func138,ntmps138;go_wp2;go_loopw[8] (λi wr=>∃q:Nat,q<=l.length/\i=cI cJ (q:Int)/\AA6 w wr/\EJ q (FK x (l.drop q))=r) (λi _=>l.length-(intOf i).toNat);exact⟨0,AY,rfl,AL,hr⟩;obtain⟨q,hq,rfl,hb,hr⟩:=hrel;by_cases hend:q=l.length
 ·subst hend;rw[List.drop_length]at hr;replace hr: -1=r:=hr;subst hr;clear hl hg;go_wp2;go_ret;exact⟨rfl,hb⟩
 ·have hlt:q<l.length:=by omega
  have A8:(q:Int)<(l.length:Int):=by omega
  rw[List.drop_eq_getElem_cons hlt]at hr;obtain⟨a,rfl,⟨c0,-⟩,c1,-⟩:=hl q l[q] (by simp[hlt]);have hb0:=AB h0 hb;replace c0:=AA hb0 c0;replace c1:=AA hb0 c1;have Nk:=hg wr l[q] hb;clear hl hg;by_cases hy:l[q].n=x
  ·rw[O6 hy]at hr;subst hr;rw[decide_eq_true hy]at Nk;replace Nk:=Wx Nk;clear hy;generalize l[q]=y at*;go_wp2_with fail;refine Nk.out.mono ?_;rintro e w2 ⟨rfl,hb2⟩;have hb3:=hb.trans (hb2.mono hb.size);clear Nk hb hb2 c0 c1;go_wp2;go_ret;exact⟨rfl,hb3⟩
  ·rw[O5 hy]at hr;rw[decide_eq_false hy]at Nk;replace Nk:=Wx Nk;clear hy;generalize l[q]=y at*;go_wp2_with fail;refine Nk.out.mono ?_;rintro e w2 ⟨rfl,hb2⟩;have hb3:=hb.trans (hb2.mono hb.size);clear Nk hb hb2 c0 c1;go_wp2;go_roundw;exact⟨q+1,by omega,by go_num,hb3,hr⟩;simp[intOf];omega
theorem NK(h0:AA6 w0 w){l:List Vr}(hl:Row IU 2 w0 v l)(x:ByteArray){cp:Value}(hg:∀w' (y:Vr),AA6 w w'->Calls prog 139 #[.agg #[cS y.n,cS y.t],cp] w' λe w2=>e=.returned (cE (decide (y.n=x)))/\AA6 w' w2):Calls prog 138 #[v,.func (Fn.func 139) #[] #[cp]] w λe w'=>e=.returned (cI cJ (EJ 0 (FK x l)))/\AA6 w w':=by
 obtain⟨pl,cl,rfl,-,hn,hl⟩:=hl;generalize hr:EJ 0 (FK x l)=r;go_enter func138,ntmps138;go_wp2;go_loopw[8] (λi wr=>∃q:Nat,q<=l.length/\i=cI cJ (q:Int)/\AA6 w wr/\EJ q (FK x (l.drop q))=r) (λi _=>l.length-(intOf i).toNat);exact⟨0,AY,rfl,AL,hr⟩;obtain⟨q,hq,rfl,hb,hr⟩:=hrel;by_cases hend:q=l.length
 ·subst hend;rw[List.drop_length]at hr;replace hr: -1=r:=hr;subst hr;clear hl hg;go_wp2;go_ret;exact⟨rfl,hb⟩
 ·have hlt:q<l.length:=by omega
  have A8:(q:Int)<(l.length:Int):=by omega
  rw[List.drop_eq_getElem_cons hlt]at hr;obtain⟨a,rfl,⟨c0,-⟩,c1,-⟩:=hl q l[q] (by simp[hlt]);have hb0:=AB h0 hb;replace c0:=AA hb0 c0;replace c1:=AA hb0 c1;have Nk:=hg wr l[q] hb;clear hl hg;by_cases hy:l[q].n=x
  ·rw[O6 hy]at hr;subst hr;rw[decide_eq_true hy]at Nk;replace Nk:=Wx Nk;clear hy;generalize l[q]=y at*;go_wp2_with fail;refine Nk.out.mono ?_;rintro e w2 ⟨rfl,hb2⟩;have hb3:=hb.trans (hb2.mono hb.size);clear Nk hb hb2 c0 c1;go_wp2;go_ret;exact⟨rfl,hb3⟩
  ·rw[O5 hy]at hr;rw[decide_eq_false hy]at Nk;replace Nk:=Wx Nk;clear hy;generalize l[q]=y at*;go_wp2_with fail;refine Nk.out.mono ?_;rintro e w2 ⟨rfl,hb2⟩;have hb3:=hb.trans (hb2.mono hb.size);clear Nk hb hb2 c0 c1;go_wp2;go_roundw;exact⟨q+1,by omega,by go_num,hb3,hr⟩;simp[intOf];omega
structure MJ(w:World)(M HB n ch q VB l cv:Nat)(c:ByteArray):Prop where
 sl:w.cell? ⟨M,10,cX⟩=cP (cY (cP ⟨HB,0,cX⟩) n ch)
 c:w.cell? ⟨HB,q*2,cX⟩=cP (cS c)
 v:w.cell? ⟨HB,q*2+1,cX⟩=cP (cY (cP ⟨VB,0,cX⟩) l cv)
 lt:q<n
 n:n<=140737488351232
 l:l<=140737488351232
theorem MJ.kp{w1:World}(h:MJ w M HB n ch q VB l cv c)(hb:AA6 w w1):MJ w1 M HB n ch q VB l cv c:=
 ⟨AA hb h.sl,AA hb h.c,AA hb h.v,h.lt,h.n,h.l⟩
theorem Jp{a b:Addr}{u:Value}{p:Option Addr}{c:Nat}(ha:w.cell? a=cP u)(h:(w.setCell a (cS x)).cell? b=cP (cY p l c)):w.cell? b=cP (cY p l c):=by
 by_cases e:a=b
 ·subst e;rw[World.cell?_setCell_same _ _ _ ha]at h;cases h
 ·rwa[World.cell?_setCell_other _ _ _ _ (λh=>e h)]at h
theorem Am.obj(h:Am w B N M k s j){l1 l2:List Ob}{o:Ob}(hh:s.heap=l1++o::l2){v1 v2:List Vu}(hv:o.vs=v1++u::v2)(hn:s.heap.length<=140737488351232)(hl:o.vs.length<=140737488351232):∃HB ch VB cv,MJ w M HB s.heap.length ch l1.length VB o.vs.length cv o.c/\w.cell? ⟨VB,v1.length*2,cX⟩=cP (cS u.1)/\w.cell? ⟨VB,v1.length*2+1,cX⟩=cP (cI cJ u.2)/\B<=VB/\VB<N/\(∀i,w.frozen? ⟨VB,i,cX⟩=cA)/\(∀x:Vu,Am ((w.setCell ⟨VB,v1.length*2,cX⟩ (cS x.1)).setCell ⟨VB,v1.length*2+1,cX⟩ (cI cJ x.2)) B N M k {s with heap:=l1++⟨o.c,v1++x::v2⟩::l2} j):=by
 have key:∀(w:World) (s:St) (o:Ob) (u:Vu),Am w B N M k s j->s.heap=l1++o::l2->o.vs=v1++u::v2->∃HB ch VB cv,w.cell? ⟨M,10,cX⟩=cP (cY (cP ⟨HB,0,cX⟩) (l1.length+1+l2.length) ch)/\w.cell? ⟨HB,l1.length*2,cX⟩=cP (cS o.c)/\
   w.cell? ⟨HB,l1.length*2+1,cX⟩=cP (cY (cP ⟨VB,0,cX⟩) (v1.length+1+v2.length) cv)/\w.cell? ⟨VB,v1.length*2,cX⟩=cP (cS u.1)/\w.cell? ⟨VB,v1.length*2+1,cX⟩=cP (cI cJ u.2)/\B<=VB/\VB<N/\(∀i,w.frozen? ⟨VB,i,cX⟩=cA)/\
   (∀x:ByteArray,Am (w.setCell ⟨VB,v1.length*2,cX⟩ (cS x)) B N M k {s with heap:=l1++⟨o.c,v1++(x,u.2)::v2⟩::l2} j)/\
   (∀x:Int,Am (w.setCell ⟨VB,v1.length*2+1,cX⟩ (cI cJ x)) B N M k {s with heap:=l1++⟨o.c,v1++(u.1,x)::v2⟩::l2} j):=by
  intro w s o u h hh hv
  have hSt:Eh s=.agg ([dN s.status,C9 s.result,dN s.code,.row 84 4 (s.frames.map Kw)]++ .row 119 2 (l1.map Ld++Ld o::l2.map Ld)::[.row 34 2 (s.globals.map C9),
    .row 59 4 (s.trace.map Qc),.row 2 1 (s.marks.map dN),dN s.allocs,dN s.steps,dN s.guards,dN s.asked]):=by
   unfold Eh;rw[hh];simp
  have hOb:Ld o=.agg [dS o.c,.row 34 2 (v1.map C9++C9 u::v2.map C9)]:=by
   unfold Ld;rw[hv];simp
  have s0:=h.st;rw[hSt]at s0;have s1:=s0.agg;obtain⟨HB,ch,c9,fz,_,s2⟩:=s1.row;rw[List.length_map,List.length_map]at c9;rw[List.length_map]at s2;rw[hOb]at s2;have a0:=Aq.cell (v:=cS o.c) (Aq.nth (l:=[dS o.c,.row 34 2 (v1.map C9++C9 u::v2.map C9)]) s2 0 rfl rfl);have a1:=Aq.nth (l:=[dS o.c,.row 34 2 (v1.map C9++C9 u::v2.map C9)]) s2 1 rfl rfl;obtain⟨VB,cv,c10,fz2,_,s3⟩:=a1.row;rw[List.length_map,List.length_map]at c10;rw[List.length_map]at s3;have b0:=Aq.nth (l:=[dS u.1,dN u.2]) s3 0 rfl rfl;have b1:=Aq.nth (l:=[dS u.1,dN u.2]) s3 1 rfl rfl;have hat:=s3.at;refine⟨HB,ch,VB,cv,?_,a0,c10,Aq.cell b0,Aq.cell b1,hat.1,hat.2.1,fz2,λx=>?_,λx=>?_⟩
  ·simpa[Dt.DF,Dt.wd,dN,C9,dS]using c9
  ·refine h.of (Aq.set1 (v1:=cS x) b0 rfl) ?_;unfold dM Eh;simp[Ld,C9,dS,dN]
  ·refine h.of (Aq.set1 (v1:=cI cJ x) b1 rfl) ?_;unfold dM Eh;simp[Ld,C9,dS,dN]
 obtain⟨HB,ch,VB,cv,k1,k2,k3,k4,k5,k6,k7,k8,k9,k10⟩:=key w s o u h hh hv;have e1:s.heap.length=l1.length+1+l2.length:=by rw[hh];simp;omega
 have e2:o.vs.length=v1.length+1+v2.length:=by rw[hv];simp;omega
 refine⟨HB,ch,VB,cv,⟨by rw[e1];exact k1,k2,by rw[e2];exact k3,by omega,hn,hl⟩,k4,k5,k6,k7,k8,λx=>?_⟩;have h1:=k9 x.1;obtain⟨HB',ch',VB',cv',m1,m2,m3,m4,m5,m6,m7,m8,m9,m10⟩:=key _ _ ⟨o.c,v1++(x.1,u.2)::v2⟩ (x.1,u.2) h1 rfl rfl;have q1:=(Jp k4 m1).symm.trans k1;obtain⟨rfl,rfl⟩:HB'=HB/\ch'=ch:=by simpa using q1
 have q3:=(Jp k4 m3).symm.trans k3;grind
def Gj{α:Type}{l:List α}{k:Nat}{x:α}(h:l[k]? =cP x):∃l1 l2,l=l1++x::l2/\l1.length=k:=by
 obtain⟨hk,e⟩:=List.getElem?_eq_some_iff.1 h;refine⟨l.take k,l.drop (k+1),?_,by simp;omega⟩;rw[<-e,<-List.drop_eq_getElem_cons hk,List.take_append_drop]
theorem KV{α:Type}{l1 l2:List α}{x y:α}:(l1++x::l2).set l1.length y=l1++y::l2:=by simp
theorem X8(h:MJ w M HB n ch q VB l cv c):Calls prog 194 #[cY (cP ⟨HB,0,cX⟩) n ch,.agg #[cS E9,cI cJ ((q:Int)+1)]] w λe w'=>e=.returned (.tuple #[.agg #[cS c,cY (cP ⟨VB,0,cX⟩) l cv],cE cC])/\AA6 w w':=by
 obtain⟨-,c0,c1,hq,hn,hl⟩:=h;have hB:HB<w.heap.size:=World.block_lt_of_cell? w ⟨HB,q*2,cX⟩ c0;have hB1:HB<w.heap.size+1:=by omega
 have hB2:HB<w.heap.size+1+1:=by omega
 have ee:E9.toList=[114,101,102]:=by rw[Li]
 have e3:IntKind.i64.wrap ((q:Int)+1-1)=(q:Int):=by
  have:(q:Int)+1-1=q:=by omega
  rw[this];exact IntWalk.i64_in _ (by omega)
 generalize E9=rs at*;go_enter func194,ntmps194;go_wp2;(refine rB rfl (by go_simp;try rfl) rfl ⟨rfl,?_⟩);(repeat(first|with_reducible assumption|exact AJ _ _|exact AL|refine Below.drew ?_|refine Below.setCell ?_ (by first|exact AQ|(dsimp only;omega)) _|refine Below.alloc ?_ (by first|exact AQ|(simp;omega)|simp) _))
theorem Vy(h:MJ w M HB n ch q VB l cv c){i:Nat}(hi:i<l)(c0:w.cell? ⟨VB,i*2,cX⟩=cP (cS u.1))(c1:w.cell? ⟨VB,i*2+1,cX⟩=cP (cI cJ u.2)):Calls prog 137 #[cY (cP ⟨HB,0,cX⟩) n ch,.agg #[cS E9,cI cJ ((q:Int)+1)],cI cJ (i:Int)] w λe w'=>e=.returned (.tuple #[Kn u,cE cC])/\AA6 w w':=by
 have hb0:=(Ch (w:=w) (c1:=[cS E9,cI cJ ((q:Int)+1)]) (c2:=[.string {data:=#[]},cI cJ 0]) (t1:=34) (t2:=34) (AL)).2.2;have HO:=X8 (h.kp hb0);have hiI:(i:Int)<l:=by omega
 have hlm:=h.l;generalize E9=rs at*;go_enter func137,ntmps137;go_wp2_with fail;refine HO.mono ?_;rintro e w1 ⟨rfl,hb⟩;obtain⟨-,hR,hBw⟩:=Ch hb;have hb4:=hBw.alloc hBw.size (Obj.cells #[cS c,cY (cP ⟨VB,0,cX⟩) l cv] 119);replace c0:=AA hb4 c0;replace c1:=AA hb4 c1;have r0':=λo=>(hR.al o).c 0 _ rfl;have r1':=λo=>(hR.al o).c 1 _ rfl;have f0':=λo=>(hR.al o).f 0 (by simp);have f1':=λo=>(hR.al o).f 1 (by simp);go_wp2;(refine rB rfl (by go_simp;try rfl) rfl ⟨rfl,?_⟩);((repeat(refine Below.setCell ?_ (by dsimp only;omega) _));exact(hBw).alloc (hBw).size _)
theorem kU(ph:Option Addr)(n ch:Nat)(hn:n<=140737488351232)(s:ByteArray)(at':Int)(w:World):Calls prog 137 #[cY ph n ch,.agg #[cS s,cI cJ 0],cI cJ at'] w λe w'=>e=.returned (.tuple #[.agg #[cS .empty,cI cJ 0],cE cA])/\AA6 w w':=by
 have HO:=λw=>X7 ph n ch (by omega) s 0 (by unfold UA;simp) w;go_enter func137,ntmps137;go_wp2_with fail;refine(HO _).mono ?_;rintro e w1 ⟨rfl,hb⟩;obtain⟨-,hR,hB⟩:=Ch hb;obtain⟨r0,r1⟩:=hR.c2;obtain⟨f0,f1⟩:=hR.f2;have r0':=λo=>(hR.al o).c 0 _ rfl;have r1':=λo=>(hR.al o).c 1 _ rfl;have f0':=λo=>(hR.al o).f 0 (by simp);have f1':=λo=>(hR.al o).f 1 (by simp);go_wp2;(refine rB rfl (by go_simp;try rfl) rfl ⟨rfl,?_⟩);((repeat(refine Below.setCell ?_ (by dsimp only;omega) _));exact(hB).alloc (hB).size _)
theorem fE(M:Nat)(t x:ByteArray)(o:Int)(ho:o<1):Calls prog 136 #[.pointer (cP ⟨M,0,cX⟩),.agg #[cS t,cI cJ o],cS x] w λe w'=>e=.returned (cI cJ (-1))/\AA6 w w':=by
 obtain⟨-,-,hb⟩:=Ch (w:=w) (c1:=[cS t,cI cJ o]) (c2:=[cS x]) (t1:=34) (t2:=9) (AL);have hd:decide (o<1)=cC:=decide_eq_true ho;go_enter func136,ntmps136;go_wp2;go_quiet (fail);go_wp2;go_ret;exact⟨rfl,below_drewN hb _⟩
theorem R5(h0:AA6 w0 w)(h:Am w B N M k s j)(hp:Cj w0 (.agg #[k.u0,k.u1,k.u2,k.u3,k.u4]) p k.u1 k.u2 k.u3 k.u4)  (hO:MJ w M HB n ch q VB l cv c) {cl:Cl} (hc:Ai Cl.n c p.cs=cP cl):Calls prog 136 #[.pointer (cP ⟨M,0,cX⟩),.agg #[cS E9,cI cJ ((q:Int)+1)],cS x] w λe w'=>e=.returned (cI cJ (EJ 0 (FK x cl.fs)))/\AA6 w w':=by
 obtain⟨uu,hsel,hval⟩:=Vf hp.c hc;have hL:=λv (hv:AA6 w0 v)=>Ot hv hp c hsel hval;obtain⟨g0,g1,g2,g3,g4,-⟩:=h.hd;obtain⟨hV,hX,hb2⟩:=Ch (w:=w) (c1:=[cS E9,cI cJ ((q:Int)+1)]) (c2:=[cS x]) (t1:=34) (t2:=9) (AL);have WK:=hO.lt;have hnn:=hO.n;have hd1:decide ((q:Int)+1<1)=cA:=decide_eq_false (by omega);have hd2:decide ((n:Int)<(q:Int)+1)=cA:=decide_eq_false (by omega);have e3:=wrN (n:=q) (by omega);have nA:(q:Int)<n:=by omega
 have hfs:=hval.f;obtain⟨pu,ku,rfl⟩:=hfs.slice;have hI:=λv (hv:AA6 w0 v) (hcx:v.cell? ⟨w.heap.size+1,0,cX⟩=cP (cS x))=>U1 (x:=x) (cp:=.pointer (cP ⟨w.heap.size+1,0,cX⟩)) hv hfs (λw' y hb=>U6 (AA hb hcx) y.n y.t);generalize EJ 0 (FK x cl.fs)=r at*;generalize E9=rs at*;generalize cl.fs.length=nf at*;generalize cl.n=cn at*;go_enter func136,ntmps136;generalize Cr:World.alloc _ _=W at*;have nO:=AB h0 hb2;have hOW:=hO.kp hb2;replace g0:=AA hb2 g0;replace g1:=AA hb2 g1;replace g2:=AA hb2 g2;replace g3:=AA hb2 g3;replace g4:=AA hb2 g4;obtain⟨v0,v1⟩:=hV.c2;have x0:=hX.c 0 _ rfl;have o0:=hOW.sl;have o1:=hOW.c;go_wp2;go_quiet (fail);go_wp2;generalize hW2:W.drewN _=W2;have hq2:AA6 W W2:=hW2▸Al _;have h02:=AB nO hq2;replace hb2:=hb2.trans (hq2.mono hb2.size);replace g0:=AA hq2 g0;replace g1:=AA hq2 g1;replace g2:=AA hq2 g2;replace g3:=AA hq2 g3;replace g4:=AA hq2 g4;replace v1:=AA hq2 v1;replace x0:=AA hq2 x0;replace o0:=AA hq2 o0;replace o1:=AA hq2 o1;have hdr:=(Below.refl W2.heap.size W2).drew;refine ALR (S:=Ck W2 19 20 [cS ⟨#[]⟩,cY cX 0 0] [cS cn,cY pu nf ku]) (Ck.start hdr) ?_;iterate 15((refine AU.f (λz=>z.s.keep rfl rfl) (λz=>ALS (AA z.s.1 g0) (ALS (AA z.s.1 g1) (ALS (AA z.s.1 g2) (ALS (AA z.s.1 g3) (ALS (AA z.s.1 g4) (ALS (AA z.s.1 o0) (ALS (AA z.s.1 v1) (AA z.s.1 o1)))))))) ?_))
 (apply AU.y rfl;intro V L w1 _ _ z hK;go_simp;go_wp2_with(((refine(hL _ (AB h02 z.s.1)).mono ?_;rintro e w2 ⟨hb,rfl⟩)));(try simp only[pE]);exact hK.out _ (z.s.call hb rfl rfl);intros;rfl);iterate 3((refine AU.q (λz=>z.s.keep rfl rfl) ?_))
 (apply AU.w rfl;intro V L w1 _ _ _ z hK;go_simp;exact hK rfl (z.s.made rfl z.i _);(try simp only[pE]));(apply AU.val undef (λ_=>rfl);intro V L w1 _ _ hS hi hR' hd hK;have hl:=hd.out (19) (by kernel_rfl);obtain⟨pb,hp,hp0,hp1,hx⟩:=hS.at hl hi;have k0:=hx.c 0 _ rfl;have k1:=hx.c 1 _ rfl;have f0:=hx.f 0 (by decide);have f1:=hx.f 1 (by decide);go_simp;refine hK.out _ _ (by simp only[hp];rfl) (hS.fill hl hp hp0 (by simpa using hp1) ((hS.1.setCell hp0 _).setCell hp0 _) ((hx.set (i:=0) (by simp) _).set (i:=1) (by simp) _) rfl);simp only[Act.put]);(refine AU.q (λz=>z.s.keep rfl rfl) ?_);refine AU.nil λV w5 hS=>?_;obtain⟨pb,hpb,hp0,hp1,hxb⟩:=hS.done rfl rfl;have hb5:=hS.1;simp only[hpb];have Ku:=AB h02 hb5;have hx5:=AA hb5 x0;have TA:=hI _ Ku hx5;have b1:=hxb.c 1 _ rfl;have hbw:=hb2.trans (hb5.mono hb2.size);go_wp2_with fail;refine TA.mono ?_;rintro e w6 ⟨rfl,hb6⟩;go_wp2;go_ret;exact⟨rfl,hbw.trans (hb6.mono hbw.size)⟩
theorem Am.heapC(h:Am w B N M k s j):∃ph ch,w.cell? ⟨M,10,cX⟩=cP (cY ph s.heap.length ch):=by
 have s0:=h.st;unfold Eh at s0;have s1:=s0.nth 4 rfl (n:=5) (by simp[Dt.DF,Dt.wd,C9,dN,dS]);obtain⟨vt,xs,ct,hx,pt,kt,rfl⟩:=s1.owns;grind
theorem LK{x:Lv}(h:Qd w0 w B N M k s j rest x i p1 c1)(has:i.as=a::r)(hz:(Ar x.vars a).2=0)(hn:s.heap.length<=1000000):Calls prog 79 #[.pointer (cP ⟨M,0,cX⟩),.agg #[cI cJ i.op,cS i.d,cS i.n,cY p1 i.as.length c1,cY p2 l2 c2,cY p3 l3 c3]] w (BI B M k (Gd s 1) j w):=by
 obtain⟨h0,hA,hM,hfr,hl,hx,hin,hk⟩:=h;obtain⟨pa,ca,hpa,-,-,hA⟩:=hA;have hka:NZ a:=hk a (by rw[has];simp);obtain⟨aa,e1,d0,⟨d1,-⟩,d2⟩:=hA 0 a (by rw[has];rfl);obtain⟨nl,hnl⟩:∃nl,i.as.length=nl+1:=⟨r.length,by rw[has];rfl⟩;rw[hnl]at hpa hin⊢;obtain⟨rfl,rfl⟩:p1=pa/\c1=ca:=by simpa using hpa
 subst e1;replace d0:w0.cell? aa=cP (cI cJ a.k):=d0;replace d1:w0.cell? ⟨aa.block,aa.off+1,cX⟩=cP (cS a.s):=d1;replace d2:w0.cell? ⟨aa.block,aa.off+2,cX⟩=cP (cI cJ a.n):=d2;generalize i.d=dst at*;generalize i.n=nm at*;generalize i.op=op at*;obtain⟨hI,hb1⟩:=BR (w:=w) (c1:=[cI cJ op,cS dst,cS nm,cY (cP aa) (nl+1) c1,cY p2 l2 c2,cY p3 l3 c3]) (t1:=133) (AL);have Df:N<=w.heap.size:=hM.own.sz;have hBN:B<=N:=by have:=hM.own.ge;have:=hM.own.lt;omega
 go_enter func79,ntmps79;generalize Cr:w.alloc (.cells #[cI cJ op,cS dst,cS nm,cY (cP aa) (nl+1) c1,cY p2 l2 c2,cY p3 l3 c3] 133)=W at*;replace hM:=hM.kp (hb1.mono Df);obtain⟨FB,cap,bm,hT,-⟩:=hM.top hfr hl;have hw0:=AB h0 hb1;replace d0:=AA hw0 d0;replace d1:=AA hw0 d1;replace d2:=AA hw0 d2;have iI:=hI.lt;have hva:=Cm hT a hka;obtain⟨-,-,i2,i3⟩:=hI.c4;generalize Yt:Ar x.vars a=ua at*;replace hz:=Wx hz;go_wp2_with fail;refine hva.mono ?_;rintro e w2 ⟨rfl,hb2⟩;replace i2:=AA hb2 i2;obtain⟨hU,hb4⟩:=BR (w:=w2) (c1:=[cS ua.1,cI cJ ua.2]) (t1:=34) (AL);replace i2:=AA hb4 i2;obtain⟨u0,u1⟩:=hU.c2;go_wp2_with fail;generalize hW3:w2.alloc (.cells #[cS ua.1,cI cJ ua.2] 34)=W3 at*;have hb5:=AB hb2 hb4;obtain⟨ph,ch,IX⟩:=hM.heapC;replace IX:=AA hb5 IX;replace hM:=hM.kp (hb5.mono hM.own.sz);have hbW:Below B w W3:=(hb1.mono (by omega)).trans (hb5.mono (AX hBN (AX Df hb1.size)));refine(fE M ua.1 nm ua.2 (by rw[hz.out];decide)).mono ?_;rintro e w4 ⟨rfl,hb6⟩;replace IX:=AA hb6 IX;replace u0:=AA hb6 u0;replace u1:=AA hb6 u1;rw[hz.out]at u1;replace hM:=hM.kp (hb6.mono hM.own.sz);replace hbW:Below B w w4:=hbW.trans (hb6.mono (AX hBN (AX Df hbW.size)));go_wp2;refine ALR (S:=Ck w4 11 12 [cS ⟨#[]⟩,cI cJ 0] [cS .empty,cI cJ 0]) (Ck.start Ac) ?_;iterate 7((refine AU.f (λz=>z.s.keep rfl rfl) (λz=>ALS (AA z.s.1 IX) (ALS (AA z.s.1 u0) (AA z.s.1 u1))) ?_))
 (refine AU.c (λz=>kU ph s.heap.length ch (by omega) ua.1 (-1) _) (λz hb=>z.s.call hb rfl rfl) ?_);iterate 3((refine AU.q (λz=>z.s.keep rfl rfl) ?_))
 (apply AU.w rfl;intro V L w1 _ _ _ z hK;go_simp;exact hK rfl (z.s.made rfl z.i _);(try simp only[pE]));(apply AU.val undef (λ_=>rfl);intro V L w1 _ _ hS hi hR' hd hK;have hl:=hd.out (11) (by kernel_rfl);obtain⟨pb,hp,hp0,hp1,hx⟩:=hS.at hl hi;have k0:=hx.c 0 _ rfl;have k1:=hx.c 1 _ rfl;have f0:=hx.f 0 (by decide);have f1:=hx.f 1 (by decide);go_simp;refine hK.out _ _ (by simp only[hp];rfl) (hS.fill hl hp hp0 (by simpa using hp1) ((hS.1.setCell hp0 _).setCell hp0 _) ((hx.set (i:=0) (by simp) _).set (i:=1) (by simp) _) rfl);simp only[Act.put]);(refine AU.q (λz=>z.s.keep rfl rfl) ?_);refine AU.nil λV w5 hS=>?_;obtain⟨pb,hpb,hp0,hp1,hxb⟩:=hS.done rfl rfl;have hb5:=hS.1;simp only[hpb];replace hM:=hM.kp (hb5.mono hM.own.sz);replace hbW:Below B w w5:=hbW.trans (hb5.mono (AX hBN (AX Df hbW.size)));have htr:=Mg hM 1;go_wp2_with fail;refine htr.mono ?_;rintro e w2 ⟨rfl,hm,hb⟩;go_wp2;go_end0;exact⟨rfl,⟨_,hm⟩,hbW.trans hb⟩
theorem GR{o:Vu}{r:Nat×ByteArray×List Vu×Nat×Vu}(h:fieldAt p s o x=cP r):∃ob cl,o.1=E9/\o.2=(r.1:Int)+1/\s.heap[r.1]? =cP ob/\ob.c=r.2.1/\ob.vs=r.2.2.1/\Ai Cl.n ob.c p.cs=cP cl/\FK x cl.fs=cP r.2.2.2.1/\ob.vs[r.2.2.2.1]? =cP r.2.2.2.2:=by
 unfold fieldAt at h;split at h
 ·rename_i h1
  split at h
  ·cases h
  ·rename_i ob h2
   split at h
   ·cases h
   ·rename_i c h3
    split at h
    ·cases h
    ·rename_i k h4
     split at h
     ·cases h
     ·rename_i v h5
      injection h with h;subst h;exact⟨ob,c,h1.1,by dsimp only;omega,h2,rfl,rfl,h3,h4,h5⟩
 ·cases h
theorem Sv{x:Lv}(h:Qd w0 w B N M k s j rest x i p1 c1)(has:i.as=a::r)(hop:i.op≠27)(hp:Cj w0 (.agg #[k.u0,k.u1,k.u2,k.u3,k.u4]) p k.u1 k.u2 k.u3 k.u4){fr:Nat×ByteArray×List Vu×Nat×Vu}(hf:fieldAt p s (Ar x.vars a) i.n=cP fr)(hn:s.heap.length<=1000000)(hvl:fr.2.2.1.length<=1000000):Calls prog 79 #[.pointer (cP ⟨M,0,cX⟩),.agg #[cI cJ i.op,cS i.d,cS i.n,cY p1 i.as.length c1,cY p2 l2 c2,cY p3 l3 c3]] w (BI B M k (BP s rest x i.d fr.2.2.2.2) j w):=by
 obtain⟨h0,hA,hM,hfr,hl,hx,hin,hk⟩:=h;obtain⟨pa,ca,hpa,-,-,hA⟩:=hA;have hka:NZ a:=hk a (by rw[has];simp);obtain⟨aa,e1,d0,⟨d1,-⟩,d2⟩:=hA 0 a (by rw[has];rfl);obtain⟨nl,hnl⟩:∃nl,i.as.length=nl+1:=⟨r.length,by rw[has];rfl⟩;rw[hnl]at hpa hin⊢;obtain⟨rfl,rfl⟩:p1=pa/\c1=ca:=by simpa using hpa
 subst e1;replace d0:w0.cell? aa=cP (cI cJ a.k):=d0;replace d1:w0.cell? ⟨aa.block,aa.off+1,cX⟩=cP (cS a.s):=d1;replace d2:w0.cell? ⟨aa.block,aa.off+2,cX⟩=cP (cI cJ a.n):=d2;generalize i.d=dst at*;generalize i.n=nm at*;generalize i.op=op at*;obtain⟨hI,hb1⟩:=BR (w:=w) (c1:=[cI cJ op,cS dst,cS nm,cY (cP aa) (nl+1) c1,cY p2 l2 c2,cY p3 l3 c3]) (t1:=133) (AL);have Df:N<=w.heap.size:=hM.own.sz;have hBN:B<=N:=by have:=hM.own.ge;have:=hM.own.lt;omega
 go_enter func79,ntmps79;generalize Cr:w.alloc (.cells #[cI cJ op,cS dst,cS nm,cY (cP aa) (nl+1) c1,cY p2 l2 c2,cY p3 l3 c3] 133)=W at*;replace hM:=hM.kp (hb1.mono Df);obtain⟨FB,cap,bm,hT,-⟩:=hM.top hfr hl;have hw0:=AB h0 hb1;replace d0:=AA hw0 d0;replace d1:=AA hw0 d1;replace d2:=AA hw0 d2;have hva:=Cm hT a hka;obtain⟨i0,i1,i2,i3,i4,i5⟩:=hI.c6;generalize Yt:Ar x.vars a=ua at*;obtain⟨ob,cl,ho1,ho2,Nc,hoc,hov,hcl,hix,hu⟩:=GR hf;obtain⟨q,c,vs,ix,u⟩:=fr;dsimp only at ho2 Nc hoc hov hix hu hvl;obtain⟨h1,h2,hh,rfl⟩:=Gj Nc;obtain⟨v1,v2,hvv,rfl⟩:=Gj hu;have ADd:ob.vs.length<=1000000:=by rw[hov];exact hvl
 have qd:v1.length<ob.vs.length:=by rw[hvv];simp
 obtain⟨ut,un⟩:=ua;dsimp only at ho1 ho2;subst ho1 ho2;go_wp2_with fail;refine hva.mono ?_;rintro e w2 ⟨rfl,hb2⟩;replace i0:=AA hb2 i0;replace i1:=AA hb2 i1;replace i2:=AA hb2 i2;replace i3:=AA hb2 i3;replace i4:=AA hb2 i4;replace i5:=AA hb2 i5;obtain⟨hU,hb4⟩:=BR (w:=w2) (c1:=[cS E9,cI cJ ((h1.length:Int)+1)]) (t1:=34) (AL);replace i0:=AA hb4 i0;replace i1:=AA hb4 i1;replace i2:=AA hb4 i2;replace i3:=AA hb4 i3;replace i4:=AA hb4 i4;replace i5:=AA hb4 i5;obtain⟨u0,u1⟩:=hU.c2;go_wp2_with fail;generalize hW3:w2.alloc (.cells #[cS E9,cI cJ ((h1.length:Int)+1)] 34)=W3 at*;have hb5:=AB hb2 hb4;replace hM:=hM.kp (hb5.mono hM.own.sz);obtain⟨HB,ch,VB,cv,hO,e0,e1,-⟩:=hM.obj hh hvv (by omega) (by omega);clear hh hvv;have nO:=AB hw0 hb5;have hbW:Below B w W3:=(hb1.mono (by omega)).trans (hb5.mono (AX hBN (AX Df hb1.size)));clear hb4 hb2 hb5 hT hI hb1 Cr hW3 d0 d1 d2 hw0;have hfa:=R5 (x:=nm) nO hM hp hO hcl;rw[hix]at hfa;have hidx:EJ 0 (cP v1.length)=(v1.length:Int):=by unfold EJ;simp
 rw[hidx]at hfa;refine hfa.mono ?_;rintro e w4 ⟨rfl,hb6⟩;replace hO:=hO.kp hb6;replace e0:=AA hb6 e0;replace e1:=AA hb6 e1;have IX:=hO.sl;replace i0:=AA hb6 i0;replace i1:=AA hb6 i1;replace i2:=AA hb6 i2;replace i3:=AA hb6 i3;replace i4:=AA hb6 i4;replace i5:=AA hb6 i5;replace u0:=AA hb6 u0;replace u1:=AA hb6 u1;replace hM:=hM.kp (hb6.mono hM.own.sz);replace hbW:Below B w w4:=hbW.trans (hb6.mono (AX hBN (AX Df hbW.size)));go_wp2;refine ALR (S:=Ck w4 11 12 [cS ⟨#[]⟩,cI cJ 0] [cS u.1,cI cJ u.2]) (Ck.start Ac) ?_;iterate 7((refine AU.f (λz=>z.s.keep rfl rfl) (λz=>ALS (AA z.s.1 IX) (ALS (AA z.s.1 u0) (AA z.s.1 u1))) ?_))
 (refine AU.c (λz=>Vy (hO.kp z.s.1) qd (AA z.s.1 e0) (AA z.s.1 e1)) (λz hb=>z.s.call hb rfl rfl) ?_);iterate 3((refine AU.q (λz=>z.s.keep rfl rfl) ?_))
 (apply AU.w rfl;intro V L w1 _ _ _ z hK;go_simp;exact hK rfl (z.s.made rfl z.i _);(try simp only[pE]));(apply AU.val undef (λ_=>rfl);intro V L w1 _ _ hS hi hR' hd hK;have hl:=hd.out (11) (by kernel_rfl);obtain⟨pb,hp,hp0,hp1,hx⟩:=hS.at hl hi;have k0:=hx.c 0 _ rfl;have k1:=hx.c 1 _ rfl;have f0:=hx.f 0 (by decide);have f1:=hx.f 1 (by decide);go_simp;refine hK.out _ _ (by simp only[hp];rfl) (hS.fill hl hp hp0 (by simpa using hp1) ((hS.1.setCell hp0 _).setCell hp0 _) ((hx.set (i:=0) (by simp) _).set (i:=1) (by simp) _) rfl);simp only[Act.put]);(refine AU.q (λz=>z.s.keep rfl rfl) ?_);refine AU.nil λV w5 hS=>?_;obtain⟨pb,hpb,hp0,hp1,hxb⟩:=hS.done rfl rfl;have hb5:=hS.1;simp only[hpb];replace hM:=hM.kp (hb5.mono hM.own.sz);replace hbW:Below B w w5:=hbW.trans (hb5.mono (AX hBN (AX Df hbW.size)));replace i0:=AA hb5 i0;replace i1:=AA hb5 i1;replace i2:=AA hb5 i2;replace i3:=AA hb5 i3;replace i4:=AA hb5 i4;replace i5:=AA hb5 i5;obtain⟨y0,y1⟩:=hxb.c2;have hop':decide (op=27)=cA:=decide_eq_false hop;have hset:=Co hM hfr hl hx op dst nm (cP aa) p2 p3 (nl+1) l2 l3 c1 c2 c3 u;go_wp2_with fail;refine hset.mono ?_;rintro e w2 ⟨rfl,hm,hb⟩;go_wp2;go_end0;exact⟨rfl,⟨_,hm⟩,hbW.trans hb⟩
theorem QU{x:Lv}(h:Qd w0 w B N M k s j rest x i p1 c1){b:Ag}(has:i.as=a::b::r)(hop:i.op=27)(hd0:i.d=Bv)(hp:Cj w0 (.agg #[k.u0,k.u1,k.u2,k.u3,k.u4]) p k.u1 k.u2 k.u3 k.u4){fr:Nat×ByteArray×List Vu×Nat×Vu}(hf:fieldAt p s (Ar x.vars a) i.n=cP fr)(hn:s.heap.length<=1000000)(hvl:fr.2.2.1.length<=1000000):Calls prog 79 #[.pointer (cP ⟨M,0,cX⟩),.agg #[cI cJ i.op,cS i.d,cS i.n,cY p1 i.as.length c1,cY p2 l2 c2,cY p3 l3 c3]] w (BI B M k (BP {s with heap:=setAt s.heap fr.1 ⟨fr.2.1,setAt fr.2.2.1 fr.2.2.2.1 (Ar x.vars b)⟩} rest x i.d (Bv,0)) j w):=by
 replace hop:=Wx hop;replace hd0:=Wx hd0;obtain⟨h0,hA,hM,hfr,hl,hx,hin,hk⟩:=h;obtain⟨pa,ca,hpa,-,-,hA⟩:=hA;have hka:NZ a:=hk a (by rw[has];simp);obtain⟨aa,e1,d0,⟨d1,-⟩,d2⟩:=hA 0 a (by rw[has];rfl);have hkb:NZ b:=hk b (by rw[has];simp);obtain⟨xJ,e2,g0,⟨g1,-⟩,g2⟩:=hA 1 b (by rw[has];rfl);obtain⟨nl,hnl,hn0,hn1⟩:∃nl:Nat,i.as.length=nl/\(0:Int)<nl/\(1:Int)<nl:=⟨i.as.length,rfl,by rw[has];simp;omega,by rw[has];simp;omega⟩;rw[hnl]at hpa hin⊢;obtain⟨rfl,rfl⟩:p1=pa/\c1=ca:=by simpa using hpa
 subst e1;obtain rfl:aa=xJ:=by simpa using e2
 replace d0:w0.cell? aa=cP (cI cJ a.k):=d0;replace d1:w0.cell? ⟨aa.block,aa.off+1,cX⟩=cP (cS a.s):=d1;replace g0:w0.cell? ⟨aa.block,aa.off+3,cX⟩=cP (cI cJ b.k):=g0;replace g1:w0.cell? ⟨aa.block,aa.off+3+1,cX⟩=cP (cS b.s):=g1;replace g2:w0.cell? ⟨aa.block,aa.off+3+2,cX⟩=cP (cI cJ b.n):=g2;replace d2:w0.cell? ⟨aa.block,aa.off+2,cX⟩=cP (cI cJ a.n):=d2;generalize i.d=dst at*;generalize i.n=nm at*;generalize i.op=op at*;obtain⟨hI,hb1⟩:=BR (w:=w) (c1:=[cI cJ op,cS dst,cS nm,cY (cP aa) nl c1,cY p2 l2 c2,cY p3 l3 c3]) (t1:=133) (AL);have Df:N<=w.heap.size:=hM.own.sz;have hBN:B<=N:=by have:=hM.own.ge;have:=hM.own.lt;omega
 go_enter func79,ntmps79;generalize Cr:w.alloc (.cells #[cI cJ op,cS dst,cS nm,cY (cP aa) nl c1,cY p2 l2 c2,cY p3 l3 c3] 133)=W at*;replace hM:=hM.kp (hb1.mono Df);obtain⟨FB,cap,bm,hT,-⟩:=hM.top hfr hl;have hw0:=AB h0 hb1;replace d0:=AA hw0 d0;replace d1:=AA hw0 d1;replace d2:=AA hw0 d2;replace g0:=AA hw0 g0;replace g1:=AA hw0 g1;replace g2:=AA hw0 g2;have hva:=Cm hT a hka;generalize hub:Ar x.vars b=ub at*;obtain⟨i0,i1,i2,i3,i4,i5⟩:=hI.c6;generalize Yt:Ar x.vars a=ua at*;obtain⟨ob,cl,ho1,ho2,Nc,hoc,hov,hcl,hix,hu⟩:=GR hf;obtain⟨q,c,vs,ix,u⟩:=fr;dsimp only at ho2 Nc hoc hov hix hu hvl;obtain⟨h1,h2,hh,rfl⟩:=Gj Nc;obtain⟨v1,v2,hvv,rfl⟩:=Gj hu;have ADd:ob.vs.length<=1000000:=by rw[hov];exact hvl
 have qd:v1.length<ob.vs.length:=by rw[hvv];simp
 subst hoc hov;obtain⟨ut,un⟩:=ua;dsimp only at ho1 ho2;subst ho1 ho2;go_wp2_with fail;refine hva.mono ?_;rintro e w2 ⟨rfl,hb2⟩;replace i0:=AA hb2 i0;replace i1:=AA hb2 i1;replace i2:=AA hb2 i2;replace i3:=AA hb2 i3;replace i4:=AA hb2 i4;replace i5:=AA hb2 i5;obtain⟨hU,hb4⟩:=BR (w:=w2) (c1:=[cS E9,cI cJ ((h1.length:Int)+1)]) (t1:=34) (AL);replace i0:=AA hb4 i0;replace i1:=AA hb4 i1;replace i2:=AA hb4 i2;replace i3:=AA hb4 i3;replace i4:=AA hb4 i4;replace i5:=AA hb4 i5;obtain⟨u0,u1⟩:=hU.c2;go_wp2_with fail;generalize hW3:w2.alloc (.cells #[cS E9,cI cJ ((h1.length:Int)+1)] 34)=W3 at*;have hb5:=AB hb2 hb4;replace hM:=hM.kp (hb5.mono hM.own.sz);obtain⟨HB,ch,VB,cv,hO,e0,e1,S9,hVN,hVz,hput⟩:=hM.obj hh hvv (by omega) (by omega);clear hput;have nO:=AB hw0 hb5;replace g0:=AA hb5 g0;replace g1:=AA hb5 g1;replace g2:=AA hb5 g2;have gJ:=hT.kp hb5;have hbW:Below B w W3:=(hb1.mono (by omega)).trans (hb5.mono (AX hBN (AX Df hb1.size)));clear hb4 hb2 hb5 hT hI hb1 Cr hW3 d0 d1 d2 hw0;have hfa:=R5 (x:=nm) nO hM hp hO hcl;rw[hix]at hfa;have hidx:EJ 0 (cP v1.length)=(v1.length:Int):=by unfold EJ;simp
 rw[hidx]at hfa;clear hix hcl hidx;refine hfa.mono ?_;rintro e w4 ⟨rfl,hb6⟩;replace hO:=hO.kp hb6;replace e0:=AA hb6 e0;replace e1:=AA hb6 e1;have IX:=hO.sl;have ZU:=hO.v;replace gJ:=gJ.kp hb6;replace g0:=AA hb6 g0;replace g1:=AA hb6 g1;replace g2:=AA hb6 g2;have AJq:VB<w4.heap.size:=World.block_lt_of_cell? w4 ⟨VB,v1.length*2,cX⟩ e0;replace i0:=AA hb6 i0;replace i1:=AA hb6 i1;replace i2:=AA hb6 i2;replace i3:=AA hb6 i3;replace i4:=AA hb6 i4;replace i5:=AA hb6 i5;replace u0:=AA hb6 u0;replace u1:=AA hb6 u1;replace hM:=hM.kp (hb6.mono hM.own.sz);replace hbW:Below B w w4:=hbW.trans (hb6.mono (AX hBN (AX Df hbW.size)));have hlen:s.heap.length=h1.length+1+h2.length:=by rw[hh];simp;omega
 replace hh:=Wx hh;replace hvv:=Wx hvv;generalize hsl:s.heap.length=sl at*;have nA:(h1.length:Int)<sl:=by omega
 clear hlen;clear hU hb6 hfa;go_wp2;refine ALR (S:=Ck w4 11 12 [cS ⟨#[]⟩,cI cJ 0] [cS u.1,cI cJ u.2]) (Ck.start Ac) ?_;iterate 7((refine AU.f (λz=>z.s.keep rfl rfl) (λz=>ALS (AA z.s.1 IX) (ALS (AA z.s.1 u0) (AA z.s.1 u1))) ?_))
 (refine AU.c (λz=>Vy (hO.kp z.s.1) qd (AA z.s.1 e0) (AA z.s.1 e1)) (λz hb=>z.s.call hb rfl rfl) ?_);iterate 3((refine AU.q (λz=>z.s.keep rfl rfl) ?_))
 (apply AU.w rfl;intro V L w1 _ _ _ z hK;go_simp;exact hK rfl (z.s.made rfl z.i _);(try simp only[pE]));(apply AU.val undef (λ_=>rfl);intro V L w1 _ _ hS hi hR' hd hK;have hl:=hd.out (11) (by kernel_rfl);obtain⟨pb,hp,hp0,hp1,hx⟩:=hS.at hl hi;have k0:=hx.c 0 _ rfl;have k1:=hx.c 1 _ rfl;have f0:=hx.f 0 (by decide);have f1:=hx.f 1 (by decide);go_simp;refine hK.out _ _ (by simp only[hp];rfl) (hS.fill hl hp hp0 (by simpa using hp1) ((hS.1.setCell hp0 _).setCell hp0 _) ((hx.set (i:=0) (by simp) _).set (i:=1) (by simp) _) rfl);simp only[Act.put]);(refine AU.q (λz=>z.s.keep rfl rfl) ?_);refine AU.nil λV w5 hS=>?_;obtain⟨pb,hpb,hp0,hp1,hxb⟩:=hS.done rfl rfl;have hb5:=hS.1;simp only[hpb];replace hM:=hM.kp (hb5.mono hM.own.sz);replace hbW:Below B w w5:=hbW.trans (hb5.mono (AX hBN (AX Df hbW.size)));replace i0:=AA hb5 i0;replace i1:=AA hb5 i1;replace i2:=AA hb5 i2;replace i3:=AA hb5 i3;replace i4:=AA hb5 i4;replace i5:=AA hb5 i5;replace gJ:=gJ.kp hb5;replace g0:=AA hb5 g0;replace g1:=AA hb5 g1;replace g2:=AA hb5 g2;replace u1:=AA hb5 u1;replace IX:=AA hb5 IX;replace ZU:=AA hb5 ZU;replace e0:=AA hb5 e0;replace e1:=AA hb5 e1;have hop':(op==27)=cC:=by rw[hop.out];rfl
 have hqw:=wrN (n:=h1.length) (by omega);have AJh:(v1.length:Int)<ob.vs.length:=by omega
 generalize xV:ob.vs.length=vl at*;have hvb:=λv (hT:DX v M FB rest.length cap bm x)=>Cm hT b hkb;rw[hub]at hvb;clear hS hpb hb5 u0 hO;go_wp2;refine ALQ (S:=Ah 19 (λv=>AA6 w5 v) (λv=>∃v0,AA6 w5 v0/\v=(v0.setCell ⟨VB,v1.length*2,cX⟩ (cS ub.1)).setCell ⟨VB,v1.length*2+1,cX⟩ (cI cJ ub.2))) (Ah.start Ac) ?_;iterate 19((first|(refine Ab.q (λz=>z.s.pass rfl) ?_)|(refine Ab.f (λz=>z.s.pass rfl) (λz=>have hI:=(z.s.1 (z.o 19));have hI:=(z.s.1 (z.o 19));ALS (AA hI IX) (ALS (AA hI ZU) (ALS (AA hI u1) (ALS (AA hI g0) (ALS (AA hI g1) (ALS (AA hI g2) (ALS (AA hI i3) (gJ.kp hI)))))))) ?_)|(refine Ab.c (λz=>have hI:=(z.s.1 (z.o 19));have hI:=(z.s.1 (z.o 19));have hTI:=gJ.kp hI;hvb _ hTI) (λz hb=>Ah.keep (z.o 19) (AB ((z.s.1 (z.o 19))) hb) rfl) ?_)|(refine Ab.skip rfl (λL w1 hS hi=>(hS.pass rfl)) ?_;(try simp only[pE]))))
 have hLen:s.heap.length<=140737488351232:=by omega
 have hVl:ob.vs.length<=140737488351232:=by omega
 have put:∀v,AA6 w5 v->v.cell? ⟨VB,v1.length*2,cX⟩=cP (cS u.1)/\v.cell? ⟨VB,v1.length*2+1,cX⟩=cP (cI cJ u.2)/\(∀i,v.frozen? ⟨VB,i,cX⟩=cA)/\B<=VB/\
   Am ((v.setCell ⟨VB,v1.length*2,cX⟩ (cS ub.1)).setCell ⟨VB,v1.length*2+1,cX⟩ (cI cJ ub.2)) B N M k {s with heap:=h1++⟨ob.c,v1++ub::v2⟩::h2} j:=by
  intro v hI;obtain⟨HB',ch',VB',cv',hO',q0,q1,q8,AJr,AEX,AAa⟩:=(hM.kp (hI.mono hM.own.sz)).obj hh.out hvv.out hLen hVl;have z1:=hO'.sl.symm.trans (AA hI IX);rw[hsl]at z1;obtain⟨rfl,rfl⟩:HB'=HB/\ch'=ch:=by simpa using z1
  have z2:=hO'.v.symm.trans (AA hI ZU);rw[xV]at z2;obtain⟨rfl,rfl⟩:VB'=VB/\cv'=cv:=by simpa using z2
  exact⟨q0,q1,AEX,q8,AAa ub⟩
 (refine Ab.step (a1:=?_) rfl (λL w1 K' Q' hS hi hR hd hK=>?_) ?_ ?_;rotate_left)
 ·have hI:=hS.1 hi;obtain⟨q0,q1,qz,-,-⟩:=put _ hI;have qz0:=qz (v1.length*2);have qz1:=qz (v1.length*2+1);go_simp;exact hK.out _ (Ah.done ⟨w1,hI,rfl⟩)
 ·rfl
 refine Ab.nil λw6 H6=>?_;obtain⟨v0,hI,iF⟩:=H6.2 rfl;obtain⟨-,-,-,q8,ZA⟩:=put _ hI;rw[<-iF]at ZA;have hb6:Below VB v0 w6:=by
  rw[iF];exact((AL).setCell (p:=⟨VB,v1.length*2,cX⟩) (AQ) _).setCell (p:=⟨VB,v1.length*2+1,cX⟩) (AQ) _
 have kp:∀{g o:Nat} {v:Value},g≠VB->w5.cell? ⟨g,o,cX⟩=cP v->w6.cell? ⟨g,o,cX⟩=cP v:=λhne hc=>by
  rw[iF];rw[World.cell?_setCell_other _ _ _ _ (by intro e;exact hne (congrArg Addr.block e).symm),World.cell?_setCell_other _ _ _ _ (by intro e;exact hne (congrArg Addr.block e).symm)];exact AA hI hc
 have hne1:w.heap.size≠VB:=by omega
 have hne2:pb≠VB:=by omega
 replace i0:=kp hne1 i0;replace i1:=kp hne1 i1;replace i2:=kp hne1 i2;replace i3:=kp hne1 i3;replace i4:=kp hne1 i4;replace i5:=kp hne1 i5;have y0:=kp hne2 (hxb.c 0 _ rfl);have y1:=kp hne2 (hxb.c 1 _ rfl);have BJ:Below B w5 w6:=(hI.mono (AX hBN (AX Df hbW.size))).trans (hb6.mono q8);have hset:=Co ZA hfr hl hx op dst nm (cP aa) p2 p3 nl l2 l3 c1 c2 c3 u;have hst:BP {s with heap:=h1++⟨ob.c,v1++ub::v2⟩::h2} rest x dst u=BP {s with heap:=setAt s.heap h1.length ⟨ob.c,setAt ob.vs v1.length ub⟩} rest x dst (Bv,0):=by
  unfold BP setAt;rw[if_pos hd0.out,if_pos hd0.out,hh.out,hvv.out,KV,KV]
 rw[hst]at hset;replace hbW:=hbW.trans BJ;clear H6 iF hI hb6 kp put ZA hM hxb hvb hst hop' hsl xV;go_wp2_with fail;refine hset.mono ?_;rintro e w7 ⟨rfl,hm,hb⟩;clear hset;go_wp2;go_end0;exact⟨rfl,⟨_,hm⟩,hbW.trans hb⟩
theorem Am.glob(h:Am w B N M k s j){l1 l2:List Vu}(hh:s.globals=l1++u::l2):∃GB ch,w.cell? ⟨M,11,cX⟩=cP (cY (cP ⟨GB,0,cX⟩) s.globals.length ch)/\w.cell? ⟨GB,l1.length*2,cX⟩=cP (cS u.1)/\w.cell? ⟨GB,l1.length*2+1,cX⟩=cP (cI cJ u.2)/\B<=GB/\GB<N/\(∀i,w.frozen? ⟨GB,i,cX⟩=cA)/\(∀x:Vu,Am ((w.setCell ⟨GB,l1.length*2,cX⟩ (cS x.1)).setCell ⟨GB,l1.length*2+1,cX⟩ (cI cJ x.2)) B N M k {s with globals:=l1++x::l2} j):=by
 have key:∀(w:World) (s:St) (u:Vu),Am w B N M k s j->s.globals=l1++u::l2->∃GB ch,w.cell? ⟨M,11,cX⟩=cP (cY (cP ⟨GB,0,cX⟩) (l1.length+1+l2.length) ch)/\w.cell? ⟨GB,l1.length*2,cX⟩=cP (cS u.1)/\
   w.cell? ⟨GB,l1.length*2+1,cX⟩=cP (cI cJ u.2)/\B<=GB/\GB<N/\(∀i,w.frozen? ⟨GB,i,cX⟩=cA)/\
   (∀x:ByteArray,Am (w.setCell ⟨GB,l1.length*2,cX⟩ (cS x)) B N M k {s with globals:=l1++(x,u.2)::l2} j)/\
   (∀x:Int,Am (w.setCell ⟨GB,l1.length*2+1,cX⟩ (cI cJ x)) B N M k {s with globals:=l1++(u.1,x)::l2} j):=by
  intro w s u h hh
  have hSt:Eh s=.agg ([dN s.status,C9 s.result,dN s.code,.row 84 4 (s.frames.map Kw),.row 119 2 (s.heap.map Ld)]++ .row 34 2 (l1.map C9++C9 u::l2.map C9)::[
    .row 59 4 (s.trace.map Qc),.row 2 1 (s.marks.map dN),dN s.allocs,dN s.steps,dN s.guards,dN s.asked]):=by
   unfold Eh;rw[hh];simp
  have s0:=h.st;rw[hSt]at s0;have s1:=s0.agg;obtain⟨GB,ch,c9,fz,_,s2⟩:=s1.row;rw[List.length_map,List.length_map]at c9;rw[List.length_map]at s2;have b0:=Aq.nth (l:=[dS u.1,dN u.2]) s2 0 rfl rfl;have b1:=Aq.nth (l:=[dS u.1,dN u.2]) s2 1 rfl rfl;have hat:=s2.at;refine⟨GB,ch,?_,Aq.cell b0,Aq.cell b1,hat.1,hat.2.1,fz,λx=>?_,λx=>?_⟩
  ·simpa[Dt.DF,Dt.wd,dN,C9,dS]using c9
  ·refine h.of (Aq.set1 (v1:=cS x) b0 rfl) ?_;unfold dM Eh;simp[C9,dS,dN]
  ·refine h.of (Aq.set1 (v1:=cI cJ x) b1 rfl) ?_;unfold dM Eh;simp[C9,dS,dN]
 obtain⟨GB,ch,k1,k4,k5,k6,k7,k8,k9,k10⟩:=key w s u h hh;have e1:s.globals.length=l1.length+1+l2.length:=by rw[hh];simp;omega
 refine⟨GB,ch,by rw[e1];exact k1,k4,k5,k6,k7,k8,λx=>?_⟩;have h1:=k9 x.1;obtain⟨GB',ch',m1,m4,m5,m6,m7,m8,m9,m10⟩:=key _ _ (x.1,u.2) h1 rfl;have q1:=(Jp k4 m1).symm.trans k1;grind
theorem YT{x:Lv}{l1:Nat}(h0:AA6 w0 w)(hM:Am w B N M k s j)(hfr:s.frames=rest++[x])(hl:rest.length+1<=140737488351232)(hx:x.i<=1000000)(hop:i.op≠30) (hp:Cj w0 (.agg #[k.u0,k.u1,k.u2,k.u3,k.u4]) p k.u1 k.u2 k.u3 k.u4) {at':Nat} (hix:FK i.n p.gs=cP at')  (hu:s.globals[at']? =cP u) (hn:s.globals.length<=140737488351232):Calls prog 81 #[.pointer (cP ⟨M,0,cX⟩),.agg #[cI cJ i.op,cS i.d,cS i.n,cY p1 l1 c1,cY p2 l2 c2,cY p3 l3 c3]] w (BI B M k (BP s rest x i.d u) j w):=by
 obtain⟨q1,q2,hh,rfl⟩:=Gj hu;have hlt:q1.length<s.globals.length:=(List.getElem?_eq_some_iff.1 hu).1;have hidx:EJ 0 (cP q1.length)=(q1.length:Int):=by unfold EJ;simp
 generalize i.d=dst at*;generalize i.n=nm at*;generalize i.op=op at*;obtain⟨hI,hb1⟩:=BR (w:=w) (c1:=[cI cJ op,cS dst,cS nm,cY p1 l1 c1,cY p2 l2 c2,cY p3 l3 c3]) (t1:=133) (AL);have Df:N<=w.heap.size:=hM.own.sz;have hBN:B<=N:=by have:=hM.own.ge;have:=hM.own.lt;omega
 have hop':(op==30)=cA:=by simpa using hop
 go_enter func81,ntmps81;generalize Cr:w.alloc (.cells #[cI cJ op,cS dst,cS nm,cY p1 l1 c1,cY p2 l2 c2,cY p3 l3 c3] 133)=W at*;replace hM:=hM.kp (hb1.mono Df);have hw0:=AB h0 hb1;obtain⟨-,-,g2,-⟩:=hM.hd;have i2:=hI.c 2 _ rfl;have hIx:=NK (x:=nm) hw0 hp.g (cp:=.pointer (cP ⟨w.heap.size,0,cX⟩)) (λw' y hb=>LC (AA hb i2) y.n y.t);rw[hix,hidx]at hIx;go_wp2_with fail;refine hIx.mono ?_;rintro e w2 ⟨rfl,hb2⟩;have Fq:=hI.nx hb2;replace hM:=hM.kp (hb2.mono hM.own.sz);have hbW:Below B w w2:=(hb1.mono (by omega)).trans (hb2.mono (AX hBN (AX Df hb1.size)));obtain⟨GB,ch,c11,e0,e1,-,-,-,-⟩:=hM.glob hh;have i0:=Fq.c 0 _ rfl;have nA:(q1.length:Int)<s.globals.length:=by omega
 generalize s.globals.length=gl at*;go_wp2;refine ALQ (S:=Ah 10 (λv=>AA6 w2 v) (λv=>Am v B N M k (BP s rest x dst u) j/\Below B w2 v)) (Ah.start Ac) ?_;(refine Ab.q (λz=>z.s.pass rfl) ?_);(refine Ab.f (λz=>z.s.pass rfl) (λz=>(Fq.nx (z.s.1 (z.o 10))).c6) ?_);iterate 4((refine Ab.q (λz=>z.s.pass rfl) ?_))
 (refine Ab.f (λz=>z.s.pass rfl) (λz=>AA (z.s.1 (z.r 10 9 (by kernel_rfl) (z.r 9 8 (by kernel_rfl) (z.o 8)))) c11) ?_);iterate 2((refine Ab.q (λz=>z.s.pass rfl) ?_))
 (refine Ab.f (λz=>z.s.pass rfl) (λz=>have hI:=z.s.1 (z.o 10);ALS (AA hI e0) (AA hI e1)) ?_);(apply Ab.y rfl;intro L w1 _ _ z hK;go_simp;go_wp2_with((refine(Co (hM.kp ((z.s.1 z.i).mono hM.own.sz)) hfr hl hx op dst nm p1 p2 p3 l1 l2 l3 c1 c2 c3 u).mono ?_;rintro e w3 ⟨rfl,hm,hb⟩));(try simp only[pE]);exact hK.out _ (Ah.done ⟨hm,(z.s.1 z.i).mono (AX hBN hM.own.sz)|>.trans hb⟩);rfl);refine Ab.nil λw6 H6=>?_;obtain⟨hm,hb⟩:=H6.2 rfl;go_wp2;go_end0;exact⟨rfl,⟨_,hm⟩,hbW.trans hb⟩
theorem U4{x:Lv}(h:Qd w0 w B N M k s j rest x i p1 c1)(has:i.as=a::r)(hop:i.op=30)(hd0:i.d=Bv) (hp:Cj w0 (.agg #[k.u0,k.u1,k.u2,k.u3,k.u4]) p k.u1 k.u2 k.u3 k.u4) {at':Nat} (hix:FK i.n p.gs=cP at')  (hu:s.globals[at']? =cP u) (hn:s.globals.length<=140737488351232):Calls prog 81 #[.pointer (cP ⟨M,0,cX⟩),.agg #[cI cJ i.op,cS i.d,cS i.n,cY p1 i.as.length c1,cY p2 l2 c2,cY p3 l3 c3]] w (BI B M k (BP {s with globals:=setAt s.globals at' (Ar x.vars a)} rest x i.d (Bv,0)) j w):=by
 replace hop:=Wx hop;replace hd0:=Wx hd0;obtain⟨h0,hA,hM,hfr,hl,hx,hin,hk⟩:=h;obtain⟨pa,ca,hpa,-,-,hA⟩:=hA;have hka:NZ a:=hk a (by rw[has];simp);obtain⟨aa,e1,d0,⟨d1,-⟩,d2⟩:=hA 0 a (by rw[has];rfl);obtain⟨nl,hnl,hn0⟩:∃nl:Nat,i.as.length=nl/\(0:Int)<nl:=⟨i.as.length,rfl,by rw[has];simp⟩;have ZO:0<nl:=by omega
 rw[hnl]at hpa hin⊢;obtain⟨rfl,rfl⟩:p1=pa/\c1=ca:=by simpa using hpa
 subst e1;replace d0:w0.cell? aa=cP (cI cJ a.k):=d0;replace d1:w0.cell? ⟨aa.block,aa.off+1,cX⟩=cP (cS a.s):=d1;replace d2:w0.cell? ⟨aa.block,aa.off+2,cX⟩=cP (cI cJ a.n):=d2;generalize Yt:Ar x.vars a=ua at*;obtain⟨q1,q2,hh,rfl⟩:=Gj hu;have hlt:q1.length<s.globals.length:=(List.getElem?_eq_some_iff.1 hu).1;have hidx:EJ 0 (cP q1.length)=(q1.length:Int):=by unfold EJ;simp
 generalize i.d=dst at*;generalize i.n=nm at*;generalize i.op=op at*;obtain⟨hI,hb1⟩:=BR (w:=w) (c1:=[cI cJ op,cS dst,cS nm,cY (cP aa) nl c1,cY p2 l2 c2,cY p3 l3 c3]) (t1:=133) (AL);have Df:N<=w.heap.size:=hM.own.sz;have hBN:B<=N:=by have:=hM.own.ge;have:=hM.own.lt;omega
 have hop':(op==30)=cC:=by rw[hop.out];rfl
 go_enter func81,ntmps81;generalize Cr:w.alloc (.cells #[cI cJ op,cS dst,cS nm,cY (cP aa) nl c1,cY p2 l2 c2,cY p3 l3 c3] 133)=W at*;replace hM:=hM.kp (hb1.mono Df);have hw0:=AB h0 hb1;replace d0:=AA hw0 d0;replace d1:=AA hw0 d1;replace d2:=AA hw0 d2;obtain⟨-,-,g2,-⟩:=hM.hd;have i2:=hI.c 2 _ rfl;have hIx:=NK (x:=nm) hw0 hp.g (cp:=.pointer (cP ⟨w.heap.size,0,cX⟩)) (λw' y hb=>LC (AA hb i2) y.n y.t);rw[hix,hidx]at hIx;go_wp2_with fail;refine hIx.mono ?_;rintro e w2 ⟨rfl,hb2⟩;have Fq:=hI.nx hb2;replace hM:=hM.kp (hb2.mono hM.own.sz);have hbW:Below B w w2:=(hb1.mono (by omega)).trans (hb2.mono (AX hBN (AX Df hb1.size)));replace d0:=AA hb2 d0;replace d1:=AA hb2 d1;replace d2:=AA hb2 d2;obtain⟨FB,cap,bm,hT,-⟩:=hM.top hfr hl;have hva:=λv (hT:DX v M FB rest.length cap bm x)=>Cm hT a hka;rw[Yt]at hva;obtain⟨i0,-,-,i3⟩:=Fq.c4;have nA:(q1.length:Int)<s.globals.length:=by omega
 replace hh:=Wx hh;have put:∀v,AA6 w2 v->∃GB ch,v.cell? ⟨M,11,cX⟩=cP (cY (cP ⟨GB,0,cX⟩) s.globals.length ch)/\v.cell? ⟨GB,q1.length*2,cX⟩=cP (cS u.1)/\v.cell? ⟨GB,q1.length*2+1,cX⟩=cP (cI cJ u.2)/\B<=GB/\GB<N/\(∀i,v.frozen? ⟨GB,i,cX⟩=cA)/\
   Am ((v.setCell ⟨GB,q1.length*2,cX⟩ (cS ua.1)).setCell ⟨GB,q1.length*2+1,cX⟩ (cI cJ ua.2)) B N M k {s with globals:=q1++ua::q2} j:=by
  intro v hI;obtain⟨GB,ch,z1,z2,z3,z4,z5,z6,z7⟩:=(hM.kp (hI.mono hM.own.sz)).glob hh.out;exact⟨GB,ch,z1,z2,z3,z4,z5,z6,z7 ua⟩
 obtain⟨GB,ch,c11,e0,e1,hGB,hGN,hGz,-⟩:=put w2 (AL);have ADV:∀v,AA6 w2 v->Am ((v.setCell ⟨GB,q1.length*2,cX⟩ (cS ua.1)).setCell ⟨GB,q1.length*2+1,cX⟩ (cI cJ ua.2)) B N M k {s with globals:=q1++ua::q2} j:=by
  intro v hI;obtain⟨GB',ch',z1,z2,z3,z4,z5,z6,z7⟩:=put v hI;have z:=z1.symm.trans (AA hI c11);obtain⟨rfl,rfl⟩:GB'=GB/\ch'=ch:=by simpa using z
  exact z7
 have yt:GB<w2.heap.size:=World.block_lt_of_cell? w2 ⟨GB,q1.length*2,cX⟩ e0;have AAc:{s with globals:=q1++ua::q2}.globals.length=s.globals.length:=by rw[hh.out];simp
 generalize hgl:s.globals.length=gl at*;go_wp2;refine ALQ (S:=Ah 13 (λv=>AA6 w2 v) (λv=>∃v0,AA6 w2 v0/\v=(v0.setCell ⟨GB,q1.length*2,cX⟩ (cS ua.1)).setCell ⟨GB,q1.length*2+1,cX⟩ (cI cJ ua.2))) (Ah.start Ac) ?_;iterate 13((first|(refine Ab.q (λz=>z.s.pass rfl) ?_)|(refine Ab.f (λz=>z.s.pass rfl) (λz=>have hI:=(z.s.1 (z.o 13));ALS (AA hI c11) (ALS ((Fq.nx hI).c 3 _ rfl) (ALS (AA hI d0) (ALS (AA hI d1) (AA hI d2))))) ?_)|(apply Ab.y rfl;intro L w1 _ _ z hK;go_simp;go_wp2_with((have hI:=(z.s.1 (z.o 13));(have k11:=AA hI c11;have hB:=Fq.nx hI;have b3:=hB.c 3 _ rfl;have m0:=AA hI d0;have m1:=AA hI d1;have m2:=AA hI d2);(refine(hva _ (hT.kp hI)).mono ?_;rintro e w3 ⟨rfl,hb⟩)));(try simp only[pE]);exact hK.out _ (Ah.keep (z.o 13) (AB ((z.s.1 (z.o 13))) hb) rfl);rfl)|(refine Ab.skip rfl (λL w1 hS hi=>(hS.pass rfl)) ?_;(try simp only[pE]))))
 (refine Ab.step (a1:=?_) rfl (λL w1 K' Q' hS hi hR hd hK=>?_) ?_ ?_;rotate_left)
 ·have hI:=hS.1 hi;have q0:=AA hI e0;have q1':=AA hI e1;have qz0:w1.frozen? ⟨GB,q1.length*2,cX⟩=cA:=by rw[hI.frozen yt];exact hGz _
  have qz1:w1.frozen? ⟨GB,q1.length*2+1,cX⟩=cA:=by rw[hI.frozen yt];exact hGz _
  go_simp;exact hK.out _ (Ah.done ⟨w1,hI,rfl⟩)
 ·rfl
 refine Ab.nil λw3 WQ=>?_;obtain⟨v0,hI,hw3⟩:=WQ.2 rfl;have TR:=ADV _ hI;rw[<-hw3]at TR;have hb6:Below GB v0 w3:=by
  rw[hw3];exact((AL).setCell (p:=⟨GB,q1.length*2,cX⟩) (AQ) _).setCell (p:=⟨GB,q1.length*2+1,cX⟩) (AQ) _
 have kp:∀{o:Nat} {v:Value},w2.cell? ⟨w.heap.size,o,cX⟩=cP v->w3.cell? ⟨w.heap.size,o,cX⟩=cP v:=λhc=>by
  have hne:w.heap.size≠GB:=by omega
  rw[hw3,World.cell?_setCell_other _ _ _ _ (by intro e;exact hne (congrArg Addr.block e).symm),World.cell?_setCell_other _ _ _ _ (by intro e;exact hne (congrArg Addr.block e).symm)];exact AA hI hc
 have BJ:Below B w2 w3:=(hI.mono (AX hBN hM.own.sz)).trans (hb6.mono hGB);replace hbW:=hbW.trans BJ;obtain⟨GB',ch',c11',e0',qD,-,-,-,-⟩:=TR.glob (u:=ua) rfl;rw[AAc]at c11';have i1:=kp (Fq.c 1 _ rfl);have i2:=kp (Fq.c 2 _ rfl);have i4:=kp (Fq.c 4 _ rfl);have i5:=kp (Fq.c 5 _ rfl);replace i0:=kp i0;replace i3:=kp i3;have hst:BP {s with globals:=q1++ua::q2} rest x dst ua=BP {s with globals:=setAt s.globals q1.length ua} rest x dst (Bv,0):=by
  unfold BP setAt;rw[if_pos hd0.out,if_pos hd0.out,hh.out,KV]
 generalize hs3:{s with globals:=q1++ua::q2}=s3 at*;have AD8:s3.frames=rest++[x]:=by rw[<-hs3];exact hfr
 go_wp2;refine ALQ (S:=Ah 10 (λv=>AA6 w3 v) (λv=>Am v B N M k (BP s3 rest x dst ua) j/\Below B w3 v)) (Ah.start Ac) ?_;(refine Ab.q (λz=>z.s.pass rfl) ?_);(refine Ab.f (λz=>z.s.pass rfl) (λz=>have hI:=z.s.1 (z.o 10);ALS (AA hI i0) (ALS (AA hI i1) (ALS (AA hI i2) (ALS (AA hI i3) (ALS (AA hI i4) (AA hI i5)))))) ?_);iterate 4((refine Ab.q (λz=>z.s.pass rfl) ?_))
 (refine Ab.f (λz=>z.s.pass rfl) (λz=>AA (z.s.1 (z.r 10 9 (by kernel_rfl) (z.r 9 8 (by kernel_rfl) (z.o 8)))) c11') ?_);iterate 2((refine Ab.q (λz=>z.s.pass rfl) ?_))
 (refine Ab.f (λz=>z.s.pass rfl) (λz=>have hI:=z.s.1 (z.o 10);ALS (AA hI e0') (AA hI qD)) ?_);(apply Ab.y rfl;intro L w1 _ _ z hK;go_simp;go_wp2_with((refine(Co (TR.kp ((z.s.1 z.i).mono TR.own.sz)) AD8 hl hx op dst nm (cP aa) p2 p3 nl l2 l3 c1 c2 c3 ua).mono ?_;rintro e w3 ⟨rfl,hm,hb⟩));(try simp only[pE]);exact hK.out _ (Ah.done ⟨hm,(z.s.1 z.i).mono (AX hBN TR.own.sz)|>.trans hb⟩);rfl);refine Ab.nil λw6 H6=>?_;obtain⟨hm,hb⟩:=H6.2 rfl;rw[hst]at hm;go_wp2;go_end0;exact⟨rfl,⟨_,hm⟩,hbW.trans hb⟩
def Nj(w:World)(a:Addr)(x:Int):Prop:=w.cell? a=cP (cI cJ x)
def JO(x:Int):List Int->Option Nat
 | []=>cX
 |y::r=>if y=x then cP 0 else(JO x r).map (· +1)
theorem lF{x y:Int}{r:List Int}(hy:y≠x):JO x (y::r)=(JO x r).map (· +1):=by grind [JO]
theorem O1{x y:Int}{r:List Int}(hy:y≠x):EJ q (JO x (y::r))=EJ (q+1) (JO x r):=by
 rw[lF hy]
 cases JO x r with
 |none=>rfl
 |some k=>
  show((q+(k+1):Nat):Int)=((q+1+k:Nat):Int);rw[show q+(k+1)=q+1+k by omega]
theorem O4{x y:Int}{r:List Int}(hy:y=x):EJ q (JO x (y::r))=(q:Int):=by grind [EJ,JO]
theorem Rz{x:Int}:∀{l:List Int},(EJ 0 (JO x l)= -1/\x∉l)\/(0<=EJ 0 (JO x l)/\x∈l)
 | []=> .inl ⟨rfl,by simp⟩
 |y::r=>by
  by_cases e:y=x
  ·rw[O4 e];exact .inr ⟨by simp,by simp[e]⟩
  ·rw[O1 e];have e':¬x=y:=λh=>e h.symm;have ih:=Rz (x:=x) (l:=r)
   cases h:JO x r with
   |none=>
    rw[h]at ih;rcases ih with⟨_,h2⟩|⟨h1,_⟩
    ·exact .inl ⟨rfl,by simp[e',h2]⟩
    ·exact absurd h1 (by unfold EJ;simp)
   |some k=>
    rw[h]at ih;rcases ih with⟨h1,_⟩|⟨_,h2⟩
    ·exact absurd h1 (by unfold EJ;dsimp only;omega)
    ·exact .inr ⟨by unfold EJ;simp;omega,by simp[h2]⟩
theorem U0(h0:AA6 w0 w){l:List Int}(hl:Row Nj 1 w0 v l)(x:Int):Calls prog 195 #[v,cI cJ x] w λe w'=>e=.returned (cI cJ (EJ 0 (JO x l)))/\AA6 w w':=by
 obtain⟨pl,cl,rfl,-,hn,hl⟩:=hl;generalize hr:EJ 0 (JO x l)=r;go_enter func195,ntmps195;go_wp2;go_loopw[8] (λi wr=>∃q:Nat,q<=l.length/\i=cI cJ (q:Int)/\AA6 w wr/\EJ q (JO x (l.drop q))=r) (λi _=>l.length-(intOf i).toNat);exact⟨0,AY,rfl,AL,hr⟩;obtain⟨q,hq,rfl,hb,hr⟩:=hrel;by_cases hend:q=l.length
 ·subst hend;rw[List.drop_length]at hr;replace hr: -1=r:=hr;subst hr;go_wp2;go_ret;exact⟨rfl,hb⟩
 ·have hlt:q<l.length:=by omega
  have A8:(q:Int)<l.length:=by omega
  rw[List.drop_eq_getElem_cons hlt]at hr;obtain⟨a,rfl,c0⟩:=hl q l[q] (by simp[hlt]);have hb0:=AB h0 hb;replace c0:wr.cell? (a.add (q*1))=_:=AA hb0 c0;rw[Nat.mul_one]at c0;by_cases hy:l[q]=x
  ·rw[O4 hy]at hr;subst hr;have he:(l[q]==x)=cC:=(by simpa using hy);generalize l[q]=y at*;go_wp2;go_ret;exact⟨rfl,hb⟩
  ·rw[O1 hy]at hr;have he:(l[q]==x)=cA:=(by simpa using hy);generalize l[q]=y at*;go_wp2;go_roundw;exact⟨q+1,by omega,by go_num,hb,hr⟩;simp[intOf];omega
theorem Nz(h0:AA6 w0 w){l:List Int}(hl:Row Nj 1 w0 v l)(x:Int):Calls prog 140 #[v,cI cJ x] w λe w'=>e=.returned (cE (decide (x∈l)))/\AA6 w w':=by
 have hI:=U0 h0 hl x;have hm:=Rz (x:=x) (l:=l);obtain⟨pl,cl,rfl,-,hn,hl⟩:=hl;generalize EJ 0 (JO x l)=r at*;have hd:decide (0<=r)=decide (x∈l):=by
  rcases hm with⟨h1,h2⟩|⟨h1,h2⟩
  ·rw[decide_eq_false h2,decide_eq_false (by omega)]
  ·rw[decide_eq_true h2,decide_eq_true h1]
 go_enter func140,ntmps140;go_wp2_with fail;refine hI.mono ?_;rintro e w2 ⟨rfl,hb⟩;go_wp2;go_ret;exact⟨by first|rw[hd]|(go_simp;rw[hd])|simp[hd],hb⟩
theorem YR{x:Lv}{l1:Nat}(h0:AA6 w0 w)(hM:Am w B N M k s j)(hfr:s.frames=rest++[x])(hl:rest.length+1<=140737488351232)(hx:x.i<=1000000)(hd0:i.d=Bv){fails:List Int} (hf:Row Nj 1 w0 k.fv fails) (hg:0<=s.guards/\s.guards<=1000000000) (hB0:w0.heap.size<=B):Calls prog 85 #[.pointer (cP ⟨M,0,cX⟩),.agg #[cI cJ i.op,cS i.d,cS i.n,cY p1 l1 c1,cY p2 l2 c2,cY p3 l3 c3]] w (BI B M k (if s.guards∈fails then{s with guards:=s.guards+1,status:=4}else BP {s with guards:=s.guards+1} rest x i.d (Bv,0)) j w):=by
 generalize i.d=dst at*;generalize i.n=nm at*;generalize i.op=op at*;replace hd0:=Wx hd0;obtain⟨hI,hb1⟩:=BR (w:=w) (c1:=[cI cJ op,cS dst,cS nm,cY p1 l1 c1,cY p2 l2 c2,cY p3 l3 c3]) (t1:=133) (AL);have Df:N<=w.heap.size:=hM.own.sz;have hBN:B<=N:=by have:=hM.own.ge;have:=hM.own.lt;omega
 have hBw:Below B w (w.alloc (.cells #[cI cJ op,cS dst,cS nm,cY p1 l1 c1,cY p2 l2 c2,cY p3 l3 c3] 133)):=hb1.mono (by omega);have iI:=hI.lt;generalize ht:(if s.guards∈fails then{s with guards:=s.guards+1,status:=4}else BP {s with guards:=s.guards+1} rest x dst (Bv,0))=t;replace ht:=Wx ht;go_enter func85,ntmps85;generalize Cr:w.alloc (.cells #[cI cJ op,cS dst,cS nm,cY p1 l1 c1,cY p2 l2 c2,cY p3 l3 c3] 133)=W at*;replace hM:=hM.kp (hb1.mono Df);have hw0:=AB h0 hb1;obtain⟨-,-,-,-,-,-,g19,-⟩:=hM.hd;obtain⟨-,-,-,-,-,-,n16,-⟩:=hM.ns;have fz:=hM.Bw;have hM2:=hM.UY (s.guards+1);have hb2:=hM.low 16 (cI cJ (s.guards+1));have Pk:=hM.own.lt;have hwr:IntKind.i64.wrap (s.guards+1)=s.guards+1:=IntWalk.i64_in _ (by omega);go_wp2_with fail;have hb3:Below B w (W.setCell ⟨M,16,cX⟩ (cI cJ (s.guards+1))):=hBw.trans hb2;have c19:(W.setCell ⟨M,16,cX⟩ (cI cJ (s.guards+1))).cell? ⟨M,19,cX⟩=cP k.fv:=hM2.hd.2.2.2.2.2.2.1;have hsz:(W.setCell ⟨M,16,cX⟩ (cI cJ (s.guards+1))).heap.size=W.heap.size:=G7 _ _ _;have pV:M≠w.heap.size:=by
  have:=hM.own.lt;omega
 have kp:∀{o:Nat} {v:Value},W.cell? ⟨w.heap.size,o,cX⟩=cP v->(W.setCell ⟨M,16,cX⟩ (cI cJ (s.guards+1))).cell? ⟨w.heap.size,o,cX⟩=cP v:=λhc=>by
  rw[World.cell?_setCell_other _ _ _ _ (by intro e;exact pV (congrArg Addr.block e))];exact hc
 have i0:=kp (hI.c 0 _ rfl);have i1:=kp (hI.c 1 _ rfl);have i2:=kp (hI.c 2 _ rfl);have i3:=kp (hI.c 3 _ rfl);have i4:=kp (hI.c 4 _ rfl);have i5:=kp (hI.c 5 _ rfl);have hw3:AA6 w0 (W.setCell ⟨M,16,cX⟩ (cI cJ (s.guards+1))):=h0.trans (hb3.mono hB0);have hC:=Nz hw3 hf s.guards;generalize W.setCell ⟨M,16,cX⟩ (cI cJ (s.guards+1))=W2 at*;refine hC.mono ?_;rintro e w2 ⟨rfl,hb4⟩;replace hM2:=hM2.kp (hb4.mono hM2.own.sz);replace hb3:Below B w w2:=hb3.trans (hb4.mono (AX hBN (AX Df hb3.size)));replace i0:=AA hb4 i0;replace i1:=AA hb4 i1;replace i2:=AA hb4 i2;replace i3:=AA hb4 i3;replace i4:=AA hb4 i4;replace i5:=AA hb4 i5;by_cases hin:s.guards∈fails
 ·have hd:decide (s.guards∈fails)=cC:=decide_eq_true hin;replace ht:=ht.out;rw[if_pos hin]at ht;have TR:=hM2.ER 4;have hb5:=hM2.low 5 (cI cJ 4);obtain⟨n5,-⟩:=hM2.ns;have fz:=hM2.Bw;generalize decide (s.guards∈fails)=dd at*;subst hd;subst ht;go_wp2;go_end0;exact⟨rfl,⟨_,TR⟩,hb3.trans hb5⟩
 ·have hd:decide (s.guards∈fails)=cA:=decide_eq_false hin;replace ht:=ht.out;rw[if_neg hin]at ht;have hset:=Co hM2 (rest:=rest) (x:=x) hfr hl hx op dst nm p1 p2 p3 l1 l2 l3 c1 c2 c3 (Bv,0);generalize decide (s.guards∈fails)=dd at*;subst hd;go_wp2_with fail;refine hset.mono ?_;rintro e w3 ⟨rfl,hm,hb⟩;rw[ht]at hm;go_wp2;go_end0;exact⟨rfl,⟨_,hm⟩,hb3.trans hb⟩
def M9(hM:Am w B N M k s j)(fuel:Int)(hj:0<=j/\j<=1000):Calls prog 52 #[.pointer (cP ⟨M,0,cX⟩),cI cJ fuel,cE cC] w λe w'=>e=.returned (cE (decide (256<j+1)))/\Am w' B N M k s (j+1)/\Below B w w'/\∀r,r≠M->w'.heap[r]? =w.heap[r]? :=by
 obtain⟨-,-,-,-,-,-,-,c20⟩:=hM.hd;have fz:=hM.Bw;have hM2:=hM.OZ (j+1);have hb2:=hM.low 20 (cI cJ (j+1));obtain⟨-,-,-,-,-,-,-,d20⟩:=hM2.hd;have hwr:IntKind.i64.wrap (j+1)=j+1:=IntWalk.i64_in _ (by omega);go_enter func52,ntmps52;go_wp2;go_ret;exact⟨by first|rfl|(go_simp)|simp,hM2,hb2,λr hr=>Below.heap_setCell _ _ _ _ hr⟩
def OX(hM:Am w B N M k s j)(fuel:Int)(hf:fuel<=s.steps):Calls prog 52 #[.pointer (cP ⟨M,0,cX⟩),cI cJ fuel,cE cA] w λe w'=>e=.returned (cE cC)/\Am w' B N M k s j/\Below B w w'/\∀r,r≠M->w'.heap[r]? =w.heap[r]? :=by
 obtain⟨-,-,-,-,-,n15,-,-⟩:=hM.ns;have hd:decide (fuel<=s.steps)=cC:=decide_eq_true hf;go_enter func52,ntmps52;go_wp2;go_ret;exact⟨rfl,hM,AL,λ_ _=>rfl⟩
def RZ(hM:Am w B N M k s j)(fuel:Int)(hf:¬fuel<=s.steps)(hs:0<=s.steps/\s.steps<=1000000000):Calls prog 52 #[.pointer (cP ⟨M,0,cX⟩),cI cJ fuel,cE cA] w λe w'=>e=.returned (cE cA)/\Am w' B N M k {s with steps:=s.steps+1} 0/\Below B w w'/\∀r,r≠M->w'.heap[r]? =w.heap[r]? :=by
 obtain⟨-,-,-,-,-,n15,-,-⟩:=hM.ns;have fz:=hM.Bw;have hd:decide (fuel<=s.steps)=cA:=decide_eq_false hf;have hM2:=hM.Xb (s.steps+1);have hb2:=hM.low 15 (cI cJ (s.steps+1));have TR:=hM2.OZ 0;have hb3:=hb2.trans (hM2.low 20 (cI cJ 0));obtain⟨-,-,-,-,-,-,-,d20⟩:=hM2.hd;have fz2:=hM2.Bw;have hwr:IntKind.i64.wrap (s.steps+1)=s.steps+1:=IntWalk.i64_in _ (by omega);go_enter func52,ntmps52;go_wp2;go_ret;exact⟨rfl,TR,hb3,λr hr=>(Below.heap_setCell _ _ _ _ hr).trans (Below.heap_setCell _ _ _ _ hr)⟩
def bW(a b:Vu)(w:World):Calls prog 80 #[Kn a,Kn b] w λe w'=>e=.returned (Kn (BA,if a.2=b.2 then 1 else 0))/\AA6 w w':=by
 obtain⟨a1,a2⟩:=a;obtain⟨b1,b2⟩:=b;dsimp only;by_cases h:a2=b2
 ·rw[if_pos h];have he:(a2==b2)=cC:=by simpa using h
  go_enter func80,ntmps80;go_wp2;(refine rO rfl (by go_simp;try rfl) rfl ⟨rfl,?_⟩);(repeat(first|with_reducible assumption|exact AJ _ _|exact AL|refine Below.drew ?_|refine Below.setCell ?_ (by first|exact AQ|(dsimp only;omega)) _|refine Below.alloc ?_ (by first|exact AQ|(simp;omega)|simp) _))
 ·rw[if_neg h];have he:(a2==b2)=cA:=by simpa using h
  go_enter func80,ntmps80;go_wp2;(refine rO rfl (by go_simp;try rfl) rfl ⟨rfl,?_⟩);(repeat(first|with_reducible assumption|exact AJ _ _|exact AL|refine Below.drew ?_|refine Below.setCell ?_ (by first|exact AQ|(dsimp only;omega)) _|refine Below.alloc ?_ (by first|exact AQ|(simp;omega)|simp) _))
theorem fV{x:Lv}(h:Qd w0 w B N M k s j rest x i p1 c1)(has:i.as=a::r)(hop:i.op=24):Calls prog 53 #[.pointer (cP ⟨M,0,cX⟩),.agg #[cI cJ i.op,cS i.d,cS i.n,cY p1 i.as.length c1,cY p2 l2 c2,cY p3 l3 c3]] w (BI B M k (BP s rest x i.d (Ar x.vars a)) j w):=by
 obtain⟨h0,hA,hM,hfr,hl,hx,hin,hk⟩:=h;obtain⟨pa,ca,hpa,-,-,hA⟩:=hA;have hka:NZ a:=hk a (by rw[has];simp);obtain⟨aa,e1,d0,⟨d1,-⟩,d2⟩:=hA 0 a (by rw[has];rfl);obtain⟨nl,hnl,hn0⟩:∃nl:Nat,i.as.length=nl/\(0:Int)<nl:=⟨i.as.length,rfl,by rw[has];simp⟩;have ZO:0<nl:=by omega
 rw[hnl]at hpa hin⊢;rw[hop];obtain⟨rfl,rfl⟩:p1=pa/\c1=ca:=by simpa using hpa
 subst e1;replace d0:w0.cell? aa=cP (cI cJ a.k):=d0;replace d1:w0.cell? ⟨aa.block,aa.off+1,cX⟩=cP (cS a.s):=d1;replace d2:w0.cell? ⟨aa.block,aa.off+2,cX⟩=cP (cI cJ a.n):=d2;generalize i.d=dst at*;generalize i.n=nm at*;obtain⟨hI,hb1⟩:=BR (w:=w) (c1:=[cI cJ 24,cS dst,cS nm,cY (cP aa) nl c1,cY p2 l2 c2,cY p3 l3 c3]) (t1:=133) (AL);have Df:N<=w.heap.size:=hM.own.sz;have hBN:B<=N:=by have:=hM.own.ge;have:=hM.own.lt;omega
 go_enter func53,ntmps53;generalize Cr:w.alloc (.cells #[cI cJ 24,cS dst,cS nm,cY (cP aa) nl c1,cY p2 l2 c2,cY p3 l3 c3] 133)=W at*;replace hM:=hM.kp (hb1.mono Df);obtain⟨FB,cap,bm,hT,-⟩:=hM.top hfr hl;have hw0:=AB h0 hb1;replace d0:=AA hw0 d0;replace d1:=AA hw0 d1;replace d2:=AA hw0 d2;have hva:=λv (hT:DX v M FB rest.length cap bm x)=>Cm hT a hka;generalize Yt:Ar x.vars a=ua at*;obtain⟨i0,i1,i2,i3,i4,i5⟩:=hI.c6;have Db:Below B w W:=hb1.mono (by omega);go_wp2;refine ALQ (S:=Ah 8 (λv=>AA6 W v) (λv=>Am v B N M k (BP s rest x dst ua) j/\Below B W v)) (Ah.start Ac) ?_;(refine Ab.q (λz=>z.s.pass rfl) ?_);(refine Ab.f (λz=>z.s.pass rfl) (λz=>have hI:=z.s.1 (z.o 8);ALS (AA hI i0) (ALS (AA hI i1) (ALS (AA hI i2) (ALS (AA hI i3) (ALS (AA hI i4) (AA hI i5)))))) ?_);iterate 2((refine Ab.q (λz=>z.s.pass rfl) ?_))
 (refine Ab.f (λz=>z.s.pass rfl) (λz=>AA (z.s.1 (z.r 8 7 (by kernel_rfl) (z.r 7 6 (by kernel_rfl) (z.r 6 5 (by kernel_rfl) (z.o 5))))) i3) ?_);(refine Ab.q (λz=>z.s.pass rfl) ?_);(refine Ab.f (λz=>z.s.pass rfl) (λz=>have hI:=z.s.1 (z.r 8 7 (by kernel_rfl) (z.o 7));ALS (AA hI d0) (ALS (AA hI d1) (AA hI d2))) ?_);(apply Ab.y rfl;intro L w1 _ _ z hK;go_simp;go_wp2_with((refine(hva _ (hT.kp (z.s.1 (z.r 8 7 (by kernel_rfl) z.i)))).mono ?_;rintro e w3 ⟨rfl,hb⟩));(try simp only[pE]);exact hK.out _ (Ah.keep (z.r 8 7 (by kernel_rfl) z.i) (AB (z.s.1 (z.r 8 7 (by kernel_rfl) z.i)) hb) rfl);rfl);(apply Ab.y rfl;intro L w1 _ _ z hK;go_simp;go_wp2_with((refine(Co (hM.kp ((z.s.1 z.i).mono hM.own.sz)) hfr hl hx 24 dst nm (cP aa) p2 p3 nl l2 l3 c1 c2 c3 ua).mono ?_;rintro e w3 ⟨rfl,hm,hb⟩));(try simp only[pE]);exact hK.out _ (Ah.done ⟨hm,(z.s.1 z.i).mono (AX hBN hM.own.sz)|>.trans hb⟩);rfl);refine Ab.nil λw6 H6=>?_;obtain⟨hm,hb⟩:=H6.2 rfl;go_wp2;go_end0;exact⟨rfl,⟨_,hm⟩,Db.trans hb⟩
end Go.Proofs.YtlffomedflegdaaGreatDoor
