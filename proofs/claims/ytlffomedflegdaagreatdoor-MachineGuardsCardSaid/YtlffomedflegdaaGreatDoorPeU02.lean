/- Part U02 of the proof: Wpg, NoP, Ui, Uj, LawMachineGuards. -/
import Derived.Test.YtlffomedflegdaaGreatDoorTie
import Derived.Test.YtlffomedflegdaaGreatDoorCards
import Derived.Test.YtlffomedflegdaaGreatDoorPeS01
import Derived.Test.YtlffomedflegdaaGreatDoorPeC01
import Derived.Test.YtlffomedflegdaaGreatDoorPeU01
set_option linter.all false
set_option maxHeartbeats 16000000
set_option maxRecDepth 100000
namespace Go.Proofs.YtlffomedflegdaaGreatDoor
open Go.Proofs.Tryz
open Go.RowKit
open Go.Value renaming int→cI,string→cS,slice→cY,bool→cE
open Go.IntKind renaming i64→cJ
open Option renaming some→cP,none→cX
open Bool renaming false→cA,true→cC
variable {B:Nat}{f:Fn}{fuel g:Int}{p:Pg}{rest:List Lv}{s:St}{w:World}{x:Lv}
section
open Num Dp
section
variable {p : Pg} {ans fails : List Int} {fuel : Int} {s s1 t u : St} {j j1 k : Nat}
theorem ABm{i:Is}(h:¬(i.op=34/\s.guards=g)):Bq p ans [g] s rest x i=Bq p ans [] s rest x i:=by
 unfold Bq;by_cases h34:i.op=34
 ·have hne:s.guards∉ [g]:=by simpa using λe=>h ⟨h34,e⟩
  have hne2:s.guards∉([]:List Int):=by simp
  rw[if_neg hne,if_neg hne2]
 ·simp only[h34,if_false]
theorem ACC{b:Bk}(h:s.guards≠g):El p ans [g] s x f b=El p ans [] s x f b:=by
 unfold El;split
 ·rfl
 ·split
  ·rfl
  ·exact ABm λe=>h e.2
def ABo{t:St}{d:ByteArray}(h:TU s rest x d=cP t):t.guards=s.guards:=by
 unfold TU at h;split at h
 ·injection h with h;subst h;rfl
 ·cases h
theorem ABk{i:Is}(h34:i.op≠34)(h:Bq p ans fails s rest x i=cP t):t.guards=s.guards:=by
 unfold Bq at h;rw[if_neg h34]at h;repeat'(first|(injection h with h;subst h;rfl)|exact(ABo h).trans rfl|cases h;done|(rw[d9]at h;rcases h with⟨_,h⟩|⟨_,h⟩)|split at h)
def ABp{i:Is}(h:Bq p ans fails s rest x i=cP t):t.guards<=s.guards+1:=by
 by_cases h34:i.op=34
 ·unfold Bq at h;rw[h34]at h;simp only[show¬(34:Int)=25 by decide,show¬(34:Int)=29 by decide,show¬(34:Int)=31 by decide,show¬(34:Int)=32 by decide,if_false,if_true]at h;split at h
  ·injection h with h;subst h;exact Int.le_refl _
  ·have:=ABo h;dsimp only at this;omega
 ·rw[ABk h34 h];omega
theorem ABc{e:Tm}(h:La p f s rest x e=cP t):t.guards=s.guards:=by
 unfold La H7 K4 at h;repeat'(first|(injection h with h;subst h;rfl)|cases h;done|split at h)
def ACB{b:Bk}(h:El p ans fails s x f b=cP t):t.guards<=s.guards+1:=by
 unfold El at h;split at h
 ·rw[ABc h];omega
 ·split at h
  ·cases h
  ·exact ABp h
theorem ACJ(hg:DJ p)(hw:WT p s)(hst:s.status=0)(h:EP p ans [] fuel s j=cP (t,k)):(EP p ans [g] fuel s j=cP (t,k)/\(s.guards<=g->t.guards<=g))\/(s.guards=g/\t.guards=g+1/\k=0/\∃t',EP p ans [g] fuel s j=cP (t',0)/\t'.status=4/\t'.guards=g+1/\ABd t'=t):=by
 obtain⟨x,f,b,h1,h2,h3,h4⟩:=Il hg hw hst h;have r1:∀fails,EP p ans fails fuel s j=if H8 x b=cC then(if j=256 then cP ({s with status:=3},j)else(El p ans fails s x f b).map λt=>(t,j+1))
   else if fuel<=s.steps then cP ({s with status:=3},j)else(El p ans fails {s with steps:=s.steps+1} x f b).map λt=>(t,0):=λfails=>by
  unfold EP;rw[h1]
 rcases h4 with⟨hf,hj,rfl,rfl⟩|⟨hf,hj2,rfl,hs⟩|⟨hf,hle,rfl,rfl⟩|⟨hf,hlt,rfl,hs⟩
 ·exact .inl ⟨by rw[r1,if_pos hf,if_pos hj],id⟩
 ·refine .inl ⟨?_,?_⟩;rotate_left
  ·unfold El at hs;rw[if_pos (JX hf).1]at hs;rw[ABc hs];exact id
  rw[r1,if_pos hf,if_neg hj2];have:El p ans [g] s x f b=cP t:=by
   rw[<-hs];unfold El;rw[if_pos (JX hf).1,if_pos (JX hf).1]
  rw[this];rfl
 ·exact .inl ⟨by rw[r1,if_neg (by rw[hf];decide),if_pos hle],id⟩
 ·rw[r1,if_neg (by rw[hf];decide),if_neg (by omega)];by_cases hsg:s.guards=g
  ·unfold El at hs⊢;by_cases hend:x.i=b.cs.length
   ·rw[if_pos hend]at hs⊢;refine .inl ⟨by rw[hs];rfl,?_⟩;rw[ABc hs];exact id
   ·rw[if_neg hend]at hs⊢
    cases hi:b.cs[x.i]? with
    |none=>rw[hi]at hs;cases hs
    |some i=>
     rw[hi]at hs;dsimp only at hs⊢;by_cases h34:i.op=34
     ·right;unfold Bq at hs⊢;have hin:({s with steps:=s.steps+1}:St).guards∈ [g]:=(by simp[hsg]);have hno:({s with steps:=s.steps+1}:St).guards∉([]:List Int):=(by simp);rw[h34]at hs⊢;simp only[show¬(34:Int)=25 by decide,show¬(34:Int)=29 by decide,show¬(34:Int)=31 by decide,show¬(34:Int)=32 by decide,if_false,if_true]at hs⊢;rw[if_neg hno]at hs;rw[if_pos hin];unfold TU at hs;by_cases hd:i.d=Bv
      ·rw[if_pos hd]at hs;injection hs with hs;subst hs;refine⟨hsg,by unfold BP;dsimp only;omega,by trivial,_,rfl,rfl,by dsimp only;omega,?_⟩;unfold ABd BP;dsimp only;rw[if_pos rfl,h2,List.getLast?_concat,List.dropLast_concat];dsimp only;rw[hd,if_pos rfl,<-hst]
      ·rw[if_neg hd]at hs;cases hs
     ·refine .inl ⟨by rw[ABm (λe=>h34 e.1),hs];rfl,?_⟩;rw[ABk h34 hs];exact id
  ·refine .inl ⟨by rw[ACC (s:={s with steps:=s.steps+1}) hsg,hs];rfl,λh=>?_⟩;have:=ACB hs;dsimp only at this;omega
theorem ACa(hg:DJ p)(hn:KO p){c:St}(hc:Runs p ans [] fuel s j c)(hw:WT p s)(hct:ZH s)(hs:s.guards<=g):(c.guards<=g->Runs p ans [g] fuel s j c)/\(g<c.guards->∃a,Runs p ans [g] fuel s j a/\a.status=4/\a.guards=g+1/\Reach p ans [] fuel s j (ABd a) 0/\Runs p ans [] fuel (ABd a) 0 c):=by
 obtain⟨k,hr,hk⟩:=hc
 induction hr with
 |refl=>exact⟨λ_=>Runs.stop hk,λh=>absurd h (by omega)⟩
 | @step s s1 t j j1 k a b c ih=>
  obtain⟨t1,k1,e,hw1⟩:=Ml hg hw a ans [] fuel j;rw[b]at e;injection e with e;injection e with e1 e2;subst e1 e2;have hc1:=Oa hg hn hw hct a b;have hmono:=(c.cnt hg hn hw1 hc1.1).2.2.1;rcases ACJ (g:=g) hg hw a b with⟨h,hle⟩|⟨h1,h2,rfl,t',h3,h4,h5,h6⟩
  ·obtain⟨i1,i2⟩:=ih hw1 hc1.1 (hle hs) hk;refine⟨λh7=>Runs.step a h (i1 h7),λh7=>?_⟩;obtain⟨a2,j1,j2,j3,j5,j4⟩:=i2 h7;exact⟨a2,Runs.step a h j1,j2,j3,.step a b j5,j4⟩
  ·refine⟨λh7=>absurd h7 (by omega),λ_=>⟨t',Runs.step a h3 (Runs.stop (by rw[h4];decide)),h4,h5,?_⟩⟩;rw[h6];exact⟨.step a b (.refl _ _),k,c,hk⟩
end
end
section
open Num Dp
def ACe{N O:Nat}(h:Own w B N (Eh s) O 0)(n:Int):Own (w.setCell ⟨O,0,cX⟩ (cI cJ n)) B N (Eh {s with status:=n}) O 0:=by
 have s0:=h.spot;unfold Eh at s0;exact sI (Aq.set1 (v1:=cI cJ n) (s0.nth 0 rfl rfl) rfl) (by unfold Eh;simp[dN])
theorem ACZ{N O:Nat}(h:Own w B N (Eh s) O 0)(hfr:s.frames=rest++[x]):∃FB cap,w.cell? ⟨O,4,cX⟩=cP (cY (cP ⟨FB,0,cX⟩) (rest.length+1) cap)/\w.cell? ⟨FB,rest.length*4+2,cX⟩=cP (cI cJ x.i)/\B<=FB/\(∀o,w.frozen? ⟨FB,o,cX⟩=cA)/\∀n:Nat,Own (w.setCell ⟨FB,rest.length*4+2,cX⟩ (cI cJ (n:Int))) B N (Eh {s with frames:=rest++[⟨x.f,x.b,n,x.vars⟩]}) O 0:=by
 have hSt:Eh s=.agg ([dN s.status,C9 s.result,dN s.code]++ .row 84 4 (rest.map Kw++Kw x::[])::[.row 119 2 (s.heap.map Ld),.row 34 2 (s.globals.map C9),
   .row 59 4 (s.trace.map Qc),.row 2 1 (s.marks.map dN),dN s.allocs,dN s.steps,dN s.guards,dN s.asked]):=by
  unfold Eh;rw[hfr];simp
 have s0:=h.spot;rw[hSt]at s0;have s1:=s0.agg;obtain⟨FB,cap,c9,fz,_,s2⟩:=s1.row;rw[List.length_map]at c9 s2;have a2:=Aq.nth (l:=[dS x.f,dS x.b,dN x.i,.mp x.vars]) s2 2 rfl rfl;have hat:=s2.at;refine⟨FB,cap,?_,Aq.cell a2,hat.1,fz,λn=>?_⟩
 ·simpa[Dt.DF,Dt.wd,dN,C9,dS]using c9
 ·exact sI (Aq.set1 (v1:=cI cJ (n:Int)) a2 rfl) (by unfold Eh;simp[Kw,dN])
theorem ADH{fr hp gl tr mk:Value}(hS:Qx w s fr hp gl tr mk)(hz:jW s)(hfr:s.frames=rest++[x])(hx:x.i<=1000000)(hst:s.status=4):Calls prog 19 #[Ko s fr hp gl tr mk] w λe w'=>∃fr' hp' TV TI mk',e=.returned (Ko (ABd s) fr' hp' TV TI mk')/\Bt w' w.heap.size (ABd s) fr' hp' TV TI mk'/\AA6 w w':=by
 obtain⟨F0,AHT⟩:=hS.fr;obtain⟨q1,d1,rfl⟩:=AHT.sl;obtain⟨H0,nD⟩:=hS.hp;obtain⟨q2,d2,rfl⟩:=nD.sl;obtain⟨G0,hgl⟩:=hS.gl;obtain⟨q3,d3,rfl⟩:=hgl.sl;obtain⟨T0,htr⟩:=hS.tr;obtain⟨q4,d4,rfl⟩:=htr.sl;obtain⟨M0,hmk⟩:=hS.mk';obtain⟨q5,d5,rfl⟩:=hmk.sl;obtain⟨hP,hZ,hb1⟩:=Ch (w:=w) (c1:=WG s (cY q1 s.frames.length d1) (cY q2 s.heap.length d2) (cY q3 s.globals.length d3) (cY q4 s.trace.length d4) (cY q5 s.marks.length d5)) (c2:=gF) (t1:=40) (t2:=40) (AL);have hps:ABd s={s with status:=0,frames:=rest++[⟨x.f,x.b,x.i+1,x.vars⟩]}:=by
  unfold ABd;rw[if_pos hst,hfr,List.getLast?_concat,List.dropLast_concat]
 have hfl:s.frames.length=rest.length+1:=by rw[hfr];simp
 have hi4:(s.status==(4:Int))=cC:=by simp[hst]
 replace hst:=Wx hst;replace hps:=Wx hps;rw[hfl]at hP hZ hb1 hS⊢;replace hfl:=Wx hfl;replace hfr:=Wx hfr;go_enter func19,ntmps19;go_wp2_with fail;generalize hW:World.alloc _ _=W at*;have hWz:W.heap.size=w.heap.size+1+1:=by rw[<-hW];simp
 have hcp:=VE (hS.kp hb1) hz;clear hW;refine hcp.mono ?_;rintro e w2 ⟨fr,hp,gl,tr,mk,rfl,ho,hb2⟩;obtain⟨e1,f1,e2,f2,e3,f3,e4,f4,e5,f5,he1,rfl,rfl,rfl,rfl⟩:=ho.shape;rw[hfl.out]at he1;subst he1;have hP2:=hP.nx hb2;have hZ2:=hZ.nx hb2;have hb3:=AB hb1 hb2;have hA:=AJ w2 (.cells (WG s (cY e1 (rest.length+1) f1) (cY e2 s.heap.length f2) (cY e3 s.globals.length f3) (cY e4 s.trace.length f4) (cY e5 s.marks.length f5)).toArray 40);have hOB:=Ae.alloc w2 (WG s (cY e1 (rest.length+1) f1) (cY e2 s.heap.length f2) (cY e3 s.globals.length f3) (cY e4 s.trace.length f4) (cY e5 s.marks.length f5)) 40;obtain⟨F1,F2,F3,F4,F5,m1,m2,m3,m4,m5,hnd⟩:=ho;have ACd:∀b∈F1++(F2++(F3++(F4++(F5++[])))),b<w2.heap.size:=λb hb=>by
  simp only[List.mem_append,List.not_mem_nil,or_false]at hb;rcases hb with hb|hb|hb|hb|hb
  ·exact(m1.fp b hb).2
  ·exact(m2.fp b hb).2
  ·exact(m3.fp b hb).2
  ·exact(m4.fp b hb).2
  ·exact(m5.fp b hb).2
 have l1:=m1.same λb hb=>hA.block b (m1.fp b hb).2;have l2:=m2.same λb hb=>hA.block b (m2.fp b hb).2;have l3:=m3.same λb hb=>hA.block b (m3.fp b hb).2;have l4:=m4.same λb hb=>hA.block b (m4.fp b hb).2;have l5:=m5.same λb hb=>hA.block b (m5.fp b hb).2;have hli:=jk hOB l1 l2 l3 l4 l5;have AJL:(w2.alloc (.cells (WG s (cY e1 (rest.length+1) f1) (cY e2 s.heap.length f2) (cY e3 s.globals.length f3) (cY e4 s.trace.length f4) (cY e5 s.marks.length f5)).toArray 40)).heap.size=w2.heap.size+1:=by simp
 have hown:Own (w2.alloc (.cells (WG s (cY e1 (rest.length+1) f1) (cY e2 s.heap.length f2) (cY e3 s.globals.length f3) (cY e4 s.trace.length f4) (cY e5 s.marks.length f5)).toArray 40)) W.heap.size (w2.heap.size+1) (Eh s) w2.heap.size 0:=⟨hb2.size,by omega,by omega,_,hli,BN.2 ⟨λh=>by have:=ACd _ h;omega,by simpa using hnd⟩,λb hb=>by have:=ACd b hb;omega⟩;have hP3:=hP2.nx hA;have hZ3:=hZ2.nx hA;have hb4:=AB hb3 hA;have p0:=hP3.c 0 _ rfl;obtain⟨o0,-,-,-,o4⟩:=hOB.c5;have z0:=hOB.f 0 (by simp);have hgt:decide (0<rest.length+1)=cC:=by simp
 have AMr:(0:Int)<((rest.length+1:Nat):Int):=by omega
 have hix:((rest.length+1:Nat):Int)-1=(rest.length:Int):=by omega
 have Ns:(rest.length:Int)<((rest.length+1:Nat):Int):=by omega
 have ADB:=ACe hown 0;obtain⟨FB,cap,g4,gi,hBF,gz,hset⟩:=ACZ (rest:=rest) (x:=x) ADB hfr.out;have g4':(w2.alloc (.cells (WG s (cY e1 (rest.length+1) f1) (cY e2 s.heap.length f2) (cY e3 s.globals.length f3) (cY e4 s.trace.length f4) (cY e5 s.marks.length f5)).toArray 40)).cell? ⟨w2.heap.size,4,cX⟩=cP (cY (cP ⟨FB,0,cX⟩) (rest.length+1) cap):=by
  rw[<-g4,World.cell?_setCell_other _ _ _ _ (Ik (by decide))]
 obtain⟨rfl,rfl⟩:e1=cP ⟨FB,0,cX⟩/\f1=cap:=by
  have:=o4.symm.trans g4';simpa using this
 have hFO:FB<w2.heap.size:=ACd FB (List.mem_append_left _ (m1.own FB rfl));go_upto_region 2 with fail;generalize hW3:w2.alloc (.cells (WG s (cY (cP ⟨FB,0,cX⟩) (rest.length+1) f1) (cY e2 s.heap.length f2) (cY e3 s.globals.length f3) (cY e4 s.trace.length f4) (cY e5 s.marks.length f5)).toArray 40)=W3 at*;have ADC:FB≠w2.heap.size:=by omega
 have gi':W3.cell? ⟨FB,rest.length*4+2,cX⟩=cP (cI cJ x.i):=by
  rw[<-gi,World.cell?_setCell_other _ _ _ _ (λe=>ADC (congrArg Addr.block e).symm)]
 have gz':∀o,W3.frozen? ⟨FB,o,cX⟩=cA:=λo=>by
  rw[<-gz o];exact(World.frozen?_of_block (w:=W3) (w':=W3.setCell ⟨w2.heap.size,0,cX⟩ (cI cJ 0)) (a:=⟨FB,o,cX⟩) (Below.heap_setCell _ _ _ _ ADC)).symm
 have hwx:IntKind.i64.wrap ((x.i:Int)+1)=(x.i:Int)+1:=IntWalk.i64_in _ (by omega);have hown5:=hset (x.i+1);have hrl:rest.length<=1000000:=by have:=hz.fr;have:=hfl.out;omega
 have ei:((x.i+1:Nat):Int)=(x.i:Int)+1:=by omega
 rw[ei]at hown5;have Kr:=(hZ3.far (q:=⟨w2.heap.size,0,cX⟩) (show w2.heap.size≠w.heap.size+1 by have:=hb2.size;omega) (cI cJ 0)).far (q:=⟨FB,rest.length*4+2,cX⟩) (show FB≠w.heap.size+1 by omega) (cI cJ ((x.i:Int)+1));have hb5:=(hb4.setCell (p:=⟨w2.heap.size,0,cX⟩) (show w.heap.size<=w2.heap.size by have:=hb2.size;omega) (cI cJ 0)).setCell (p:=⟨FB,rest.length*4+2,cX⟩) (show w.heap.size<=FB by omega) (cI cJ ((x.i:Int)+1));clear hset gi gz g4 ADB hown hli l1 l2 l3 l4 l5 m1 m2 m3 m4 m5 ACd hOB hA hP hZ hb1 hb2 hcp hS hP2 hZ2 hb3 hW3 ei hnd hb4 hZ3;go_upto_region 5 with fail;generalize pR:World.setCell _ _ _=W5 at*;have hpt:{s with status:=0,frames:=rest++[⟨x.f,x.b,x.i+1,x.vars⟩]}=ABd s:=hps.out.symm;replace hown5:Own W5 W.heap.size (w2.heap.size+1) (Eh (ABd s)) w2.heap.size 0:=by rw[<-hpt];exact hown5
 generalize ht:ABd s=t at*;obtain⟨-,-,-,fp,hl5,hn5,-⟩:=hown5;obtain⟨fr,hp,gl,tr,mk,ho,hcells⟩:=rZ hl5 (BN.1 hn5).2;obtain⟨a1,b1,a2,b2,a3,b3,a4,b4,a5,b5,rfl,rfl,rfl,rfl,rfl⟩:=ho.shape;have hof:=(ho.run (R:=w.heap.size+1) (by omega) (WG t (cY a1 t.frames.length b1) (cY a2 t.heap.length b2) (cY a3 t.globals.length b3) (cY a4 t.trace.length b4) (cY a5 t.marks.length b5))).mono (show w.heap.size<=W.heap.size by omega);have hbf:=hb5.trans (Ay (B:=w.heap.size) (p:=w.heap.size+1) (by omega) (WG t (cY a1 t.frames.length b1) (cY a2 t.heap.length b2) (cY a3 t.globals.length b3) (cY a4 t.trace.length b4) (cY a5 t.marks.length b5)) 0 W5);have y0:=hcells 0 _ rfl;have y1:=hcells 1 _ rfl;have y2:=hcells 2 _ rfl;have y3:=hcells 3 _ rfl;have y4:=hcells 4 _ rfl;have y5:=hcells 5 _ rfl;have y6:=hcells 6 _ rfl;have y7:=hcells 7 _ rfl;have y8:=hcells 8 _ rfl;have y9:=hcells 9 _ rfl;have y10:=hcells 10 _ rfl;have y11:=hcells 11 _ rfl;have y12:=hcells 12 _ rfl;obtain⟨r0,r1,r2,r3,r4,r5,r6,r7,r8,r9,r10,r11,r12⟩:=Kr.c13;obtain⟨s0,s1,s2,s3,s4,s5,s6,s7,s8,s9,s10,s11,s12⟩:=Kr.f13;replace ht:=Wx ht;go_wp2_with fail;(try simp only[Exit.inBlock,Exit.then]);refine bodyPost_ret_by (v:=Ko t (cY a1 t.frames.length b1) (cY a2 t.heap.length b2) (cY a3 t.globals.length b3) (cY a4 t.trace.length b4) (cY a5 t.marks.length b5)) ((GQ rfl _ _ _).trans (by go_simp;try rfl)) rfl ?_;obtain rfl:=ht.out;exact⟨_,_,_,_,_,rfl,hof,hbf⟩
end
section
theorem Cj.nx{w':World}(hb:AA6 w w'){v:Value}{u1 u2 u3 u4:Value}(h:Cj w v p u1 u2 u3 u4):Cj w' v p u1 u2 u3 u4:=
 ⟨h.e,h.c.map λ_ _ h=>Y0.kp hb h,h.g.map λ_ _ h=>IU.kp hb h,h.xt.map λ_ _ h=>gV.kp hb h,h.f.map λ_ _ h=>VP.kp hb h⟩
theorem ADF(w:World):Row Nj 1 w (cY cX 0 0) []:=⟨cX,0,rfl,λ_=>⟨rfl,rfl⟩,⟨AY,AQ⟩,λi x hx=>by simp at hx⟩
theorem ADE{b:Nat}{n:Int}(h:Ae w b [cI cJ n]):Row Nj 1 w (cY (cP ⟨b,0,cX⟩) 1 1) [n]:=⟨cP ⟨b,0,cX⟩,1,rfl,(λe=>by cases e),⟨by simp,by simp⟩,λi x hx=>by
 match i,hx with
 |0,hx=>exact⟨_,rfl,by obtain rfl:=Option.some.inj hx;exact h.c 0 _ rfl⟩⟩
def ADG{a:St}(h:Way p a fuel)(hs:a.status=4)(hbl:∀f∈p.fs,∀b∈f.bs,b.cs.length<=100000):∃rest x,a.frames=rest++[x]/\x.i<=1000000:=by
 have hne:a.frames≠ []:=λe=>by have:=h.ct.en.2 e;omega
 obtain⟨rest,x,e⟩:∃rest x,a.frames=rest++[x]:=⟨_,_,(List.dropLast_concat_getLast hne).symm⟩;refine⟨rest,x,e,?_⟩;have hst:=h.wt.frames;rw[e,List.reverse_append,List.reverse_singleton,List.singleton_append]at hst;obtain⟨f,b,hf,hb,hi,-⟩:=hst.top;have:=hbl f (Ak hf).1 b (Ak hb).1;omega
theorem AEq{t:St}{ans fails:List Int}{j k:Nat}{w0:World}{kk:Hd}(hE:Env w0 B kk p ans fails)(h:Reach p ans fails fuel s j t k)(hy:Way p s fuel):Way p t fuel:=by
 induction h with
 |refl=>exact hy
 |step a b _ ih=>exact ih (hy.round hE a b)
structure PaS(W:World)(a c:St)(V:Nat->Value)(L:Nat->Bool)(w:World):Prop where
 b:AA6 W w
 v6:L 6=cC->∃fr hp gl tr mk,V 6=Ko a fr hp gl tr mk/\Qx w a fr hp gl tr mk
 v11:L 11=cC->∃fr hp gl tr mk,V 11=Ko c fr hp gl tr mk/\Qx w c fr hp gl tr mk
section
variable {W w w2 : World} {a c : St} {V : Nat -> Value} {L : Nat -> Bool} {i : Nat} {fr hp gl tr mk : Value}
def PaS.start(h:AA6 W w):PaS W a c V (λ_=>cA) w:=⟨h,(λe=>by cases e),λe=>by cases e⟩
def PaS.kp(h:PaS W a c V L w)(hb:AA6 w w2):PaS W a c V L w2:=⟨AB h.b hb,λe=>by
 obtain⟨_,_,_,_,_,e1,e2⟩:=h.v6 e;exact⟨_,_,_,_,_,e1,e2.kp hb⟩,λe=>by
 obtain⟨_,_,_,_,_,e1,e2⟩:=h.v11 e
 exact⟨_,_,_,_,_,e1,e2.kp hb⟩⟩
def PaS.keep(h:PaS W a c V L w)(h1:(6==i)=cA)(h2:(11==i)=cA):PaS W a c V (upd L i) w:=⟨h.b,λe=>h.v6 (by rwa[Dm h1]at e),λe=>h.v11 (by rwa[Dm h2]at e)⟩
def PaS.m6(h:PaS W a c V L w)(hI:Qx w a fr hp gl tr mk):PaS W a c (EB V 6 (Ko a fr hp gl tr mk)) (upd L 6) w:=⟨h.b,λ_=>⟨_,_,_,_,_,BL _ _ _,hI⟩,λe=>by
 rw[Dm rfl]at e;rw[Br _ _ (by decide)]
 exact h.v11 e⟩
def PaS.m11(h:PaS W a c V L w)(hI:Qx w c fr hp gl tr mk):PaS W a c (EB V 11 (Ko c fr hp gl tr mk)) (upd L 11) w:=⟨h.b,λe=>by
 rw[Dm rfl]at e;rw[Br _ _ (by decide)]
 exact h.v6 e,λ_=>⟨_,_,_,_,_,BL _ _ _,hI⟩⟩
end
structure AEo(w0:World)(p:Pg)(u1 u2 u3 u4:Value)(qf:Nat)(l1:List Int)(fuel:Int)(l2 l3:List Int)(g1 g2 g3:Value):Prop where
 wd:Words w0
 m:∃m,w0.cell? ⟨1,0,cX⟩=cP (cI cJ m)
 pv:Cj w0 (.agg #[cE p.ssa,u1,u2,u3,u4]) p u1 u2 u3 u4
 r:Ky p
 q:oM w0 (.agg #[cI .u8 (qf:Int),g1,cI cJ fuel,g2,g3]) qf l1 fuel l2 l3 g1 g2 g3
def M7{x:ByteArray}{l:List Int}(h:GK p x l=cP s):s.status=0/\s.steps=0/\s.guards=0/\s.globals.length=p.gs.length:=by
 unfold GK at h;split at h
 ·cases h
 ·split at h
  ·cases h
  ·injection h with h;subst h;exact⟨rfl,rfl,rfl,by simp⟩
theorem ACr{u1 u2 u3 u4:Value}{qf:Nat}{l1 l2 l3:List Int}{g1 g2 g3:Value}(h:AEo w p u1 u2 u3 u4 qf l1 fuel l2 l3 g1 g2 g3)(at0:Int):Calls prog 7 #[.agg #[cE p.ssa,u1,u2,u3,u4],.agg #[cI .u8 (qf:Int),g1,cI cJ fuel,g2,g3],cI cJ at0] w λe w'=>oQ e/\AA6 w w':=by
 obtain⟨hwd,⟨m,hm⟩,hp,hr,hq⟩:=h;obtain⟨c1,k1,rfl⟩:=hp.c.slice;obtain⟨c2,k2,rfl⟩:=hp.g.slice;obtain⟨c3,k3,rfl⟩:=hp.xt.slice;obtain⟨c4,k4,rfl⟩:=hp.f.slice;obtain⟨q1,d1,rfl⟩:=hq.r1.slice;obtain⟨q2,d2,rfl⟩:=hq.r2.slice;obtain⟨q3,d3,rfl⟩:=hq.r3.slice;have hAw:=λ(W:World) (hb:AA6 w W)=>Sq m (AA hb hm);have hFe:=λ(W:World) (hb:AA6 w W)=>lU hb hwd hp hr ⟨(qf:Int),l1.length,fuel,l2.length,l3.length⟩ q1 q2 q3 d1 d2 d3;obtain⟨hP,hA,hb1⟩:=Ch (w:=w) (c1:=[cE p.ssa,cY c1 p.cs.length k1,cY c2 p.gs.length k2,cY c3 p.xs.length k3,cY c4 p.fs.length k4]) (c2:=[cI .u8 (qf:Int),cY q1 l1.length d1,cI cJ fuel,cY q2 l2.length d2,cY q3 l3.length d3]) (t1:=27) (t2:=30) (AL);replace hq:=Wx hq;replace hp:=Wx hp;replace hr:=Wx hr;replace hwd:=Wx hwd;generalize ZL:p.ssa=ssa at*;replace ZL:=Wx ZL;have a0:=hP.c 0 _ rfl;go_enter func7,ntmps7;go_wp2_with fail;generalize Cr:World.alloc (World.alloc _ _) _=W at*;refine(hAw _ hb1).mono ?_;rintro e w1 ⟨rfl,hb2⟩;have hP1:=hP.nx hb2;have hA1:=hA.nx hb2;have hb3:=AB hb1 hb2;obtain⟨a0,a1,a2,a3,a4⟩:=hP1.c5;obtain⟨b0,b1,b2,b3,b4⟩:=hA1.c5;go_wp2_with fail;refine(hFe _ hb3).mono ?_;rintro e w2 ⟨⟨r,rfl,Fu⟩,hb4⟩;replace hP:=hP1.nx hb4;replace hA:=hA1.nx hb4;replace hb1:=AB hb3 hb4;cases r
 ·clear Fu;go_wp2_with fail;refine(hAw _ hb1).mono ?_;rintro e w3 ⟨rfl,hb2⟩;go_wp2;go_ret;exact⟨rfl,AB hb1 hb2⟩
 have b4:=hA.c 4 _ rfl;have b0:=hA.c 0 _ rfl;cases hl3:decide ((0:Int)<(l3.length:Int));rotate_left
 ·have h3I:=BK hl3;have nN:0<l3.length:=by omega
  clear Fu;go_wp2_with fail;refine(hAw _ hb1).mono ?_;rintro e w3 ⟨rfl,hb2⟩;go_wp2;go_ret;exact⟨rfl,AB hb1 hb2⟩
 have h3I:=CJ hl3;have nN:¬0<l3.length:=by omega
 clear hl3;cases hat:decide (at0<0);rotate_left
 ·have haI:=BK hat;clear Fu;go_wp2_with fail;refine(hAw _ hb1).mono ?_;rintro e w3 ⟨rfl,hb2⟩;go_wp2;go_ret;exact⟨rfl,AB hb1 hb2⟩
 have haI:=CJ hat;clear hat;replace Fu:=Fu rfl;have hn0:0<p.fs.length:=Fu.p;have hNm:=λ(W:World) (hb:AA6 w W)=>YA hb hp.out hn0 qf hq.out.f (v1:=cY q1 l1.length d1) (v2:=cI cJ fuel) (v3:=cY q2 l2.length d2) (v4:=cY q3 l3.length d3) rfl rfl rfl rfl;generalize hnm:(p.fs[qf%p.fs.length]'(Nat.mod_lt _ hn0)).n=nm at*;obtain⟨s,hs0,hSt⟩:∃s,Hid (GK p nm l1=cP s)/\∀(W:World),AA6 w W->Calls prog 10 #[.agg #[cE ssa,cY c1 p.cs.length k1,cY c2 p.gs.length k2,cY c3 p.xs.length k3,cY c4 p.fs.length k4],cS nm,cY q1 l1.length d1] W λe w'=>∃fr hp gl tr mk,e=.returned (.tuple #[Ko s fr hp gl tr mk,cI cJ 0])/\Bt w' W.heap.size s fr hp gl tr mk/\AA6 W w':=by
  have hg:=J4 Fu;obtain⟨k,hk⟩:=Ms (nm:=Fn.n) (List.getElem_mem (Nat.mod_lt qf hn0));rw[hnm]at hk;obtain⟨f,hf⟩:=M4 hk;have hfm:=(Ak hf).1;have hbs:=(hg.fs f hfm).bs;obtain⟨j,hj,ej⟩:=List.mem_iff_getElem.1 hfm;have hz:=(Fu.s.z j f (by rw[List.getElem?_eq_getElem hj,ej])).2.1
  cases hbq:f.bs with
  |nil=>exact absurd hbq hbs
  |cons b0 br=>
   refine⟨mY nm b0.n (ET f.ps l1 []) (p.gs.map λg=>Ap g.t),Wx ?_,λW hb=>?_⟩
   ·unfold GK;rw[hf];dsimp only;rw[hbq];rfl
   ·have hp':=hp.out;rw[<-ZL.out]at hp';have:=OW hb hp' nm hf hbq hq.out.r1 (P7 Fu) (by omega);rw[ZL.out]at this;exact this
 replace hnm:=Wx hnm;replace Fu:=Wx Fu;go_wp2;refine AV (S:=Fv w2 s) rfl (by kernel_rfl) (Fv.start Ac) ?_;iterate 2((apply AU.z rfl;intro V L w1 _ _ _ z hK;(have hPn:=hP.nx z.s.b;obtain⟨a0,a1,a2,a3,a4⟩:=hPn.c5);go_simp;exact hK (z.s.keep rfl rfl rfl rfl rfl rfl);intros;rfl))
 (apply AU.z rfl;intro V L w1 _ _ _ z hK;(have hAn:=hA.nx z.s.b;obtain⟨b0,b1,b2,b3,b4⟩:=hAn.c5);go_simp;exact hK (z.s.keep rfl rfl rfl rfl rfl rfl);intros;rfl);(apply AU.y rfl;intro V L w1 _ _ z hK;go_simp;go_wp2_with((refine(hNm _ (AB hb1 z.s.b)).mono ?_;rintro e w2 ⟨rfl,hb⟩));(try simp only[pE]);exact hK.out _ ((z.s.kp hb).keep rfl rfl rfl rfl rfl rfl);intros;rfl);(apply AU.z rfl;intro V L w1 _ _ _ z hK;go_simp;exact hK (z.s.keep rfl rfl rfl rfl rfl rfl);intros;rfl);(apply AU.z rfl;intro V L w1 _ _ _ z hK;(have hAn:=hA.nx z.s.b;have b1:=hAn.c 1 _ rfl);go_simp;exact hK (z.s.keep rfl rfl rfl rfl rfl rfl);intros;rfl);refine AU.free (λ_=>rfl) (λV L w1 K' Q' hS hi hR hd hK=>?_) ?_
 ·go_simp;go_wp2_with(refine(hSt _ (AB hb1 hS.b)).mono ?_;rintro e w3 ⟨fr',hp',TV,TI,mk',rfl,ho,hb⟩)
  exact hK.out _ _ rfl (hS.called hb ho)
 simp only[Act.put];refine AU.free (λ_=>rfl) (λV L w1 K' Q' hS hi hR hd hK=>?_) ?_
 ·obtain⟨fr,h',gl,tr,mk,hV,hT⟩:=hS.v6 (hd.out 6 (by kernel_rfl));simp only[hV];go_simp;exact hK.out _ _ (by simp only[hV];rfl) (hS.set _ (by rfl) (by rfl) (λe=>absurd e (by decide)) (λ_=>⟨_,_,_,_,_,rfl,hT⟩) (λe=>absurd e (by decide)) (λe=>absurd e (by decide)))
 simp only[Act.put];refine AU.free (λ_=>rfl) (λV L w1 K' Q' hS hi hR hd hK=>?_) ?_
 ·obtain⟨fr,h',gl,tr,mk,hV,hT⟩:=hS.v7 (hd.out 7 (by kernel_rfl));simp only[hV];go_simp;exact hK.out _ _ (by simp only[hV];rfl) (hS.set _ (by rfl) (by rfl) (λe=>absurd e (by decide)) (λe=>absurd e (by decide)) (λ_=>⟨_,_,_,_,_,rfl,hT⟩) (λe=>absurd e (by decide)))
 simp only[Act.put];refine AU.free (λ_=>rfl) (λV L w1 K' Q' hS hi hR hd hK=>?_) ?_
 ·obtain⟨fr,h',gl,tr,mk,hV,hT⟩:=hS.v7 (hd.out 7 (by kernel_rfl));simp only[hV];go_simp;exact hK.out _ _ (by simp only[hV];rfl) (hS.set _ (by rfl) (by rfl) (λe=>absurd e (by decide)) (λe=>absurd e (by decide)) (λe=>absurd e (by decide)) (λ_=>rfl))
 simp only[Act.put];(apply AU.w rfl;intro V L w1 _ _ _ z hK;go_simp;exact hK rfl (z.s.made z.i (z.r 11 10 (by kernel_rfl) z.i) _);(try simp only[pE]));refine AU.val undef (λ_=>rfl) (λV L w1 K' Q' hS hi hR hd hK=>?_) ?_
 ·have hl:=hd.out 10 (by kernel_rfl);obtain⟨pb,hpb,hp0,hp1,hx,-⟩:=hS.vb hl;obtain⟨fr,h',gl,tr,mk,hV,hT⟩:=hS.v8 (hd.out 8 (by kernel_rfl));obtain⟨⟨_,y1⟩,⟨_,y2⟩,⟨_,y3⟩,⟨_,y4⟩,⟨_,y5⟩⟩:=hT.in;obtain⟨e1,f1,rfl⟩:=y1.sl;obtain⟨e2,f2,rfl⟩:=y2.sl;obtain⟨e3,f3,rfl⟩:=y3.sl;obtain⟨e4,f4,rfl⟩:=y4.sl;obtain⟨e5,f5,rfl⟩:=y5.sl;replace hx:=hx hi;obtain⟨k0,k1,k2,k3,k4,k5,k6,k7,k8,k9,k10,k11,k12⟩:=hx.c13;obtain⟨z0,z1,z2,z3,z4,z5,z6,z7,z8,z9,z10,z11,z12⟩:=hx.f13;simp only[hpb,hV,gY];go_simp;exact hK.out _ _ (by simp only[hpb,hV,gY];rfl) (hS.fill hl hi hpb hT)
 simp only[Act.put];refine AU.free (λ_=>rfl) (λV L w1 K' Q' hS hi hR hd hK=>?_) ?_
 ·have hV:=hS.v9 (hd.out 9 (by kernel_rfl));simp only[hV];go_simp;exact hK.out _ _ (by simp only[hV];rfl) (hS.set _ (by rfl) (by rfl) (λe=>absurd e (by decide)) (λe=>absurd e (by decide)) (λe=>absurd e (by decide)) (λe=>absurd e (by decide)))
 simp only[Act.put];refine AU.nil λV w3 hS=>?_;obtain⟨ps,hps,hp0,hp1,-,hx⟩:=hS.vb rfl;obtain⟨fr,h',gl,tr,mk,hxb,hT⟩:=hx rfl;have hb5:=hS.b;have hI:=hT.in;simp only[hps,gY];have hx5:=hxb;have Y8:=hP.nx hb5;have xA:=hA.nx hb5;have hb6:=AB hb1 hb5;obtain⟨z0,-,z2,-⟩:=M7 hs0.out;have hwk:Jg s=s:=OQ (by rw[z0];decide);have hfu:fuel<=100000:=by have:=Fu.out.d;dsimp only at this;omega
 have hsw:=KT (J4 Fu.out) (P7 Fu.out) hq.out.g1 hs0.out hfu;have hGu:=λc (hc:Runs p l2 [] fuel s 0 c)=>ACa (g:=at0) (J4 Fu.out) (aQ Fu.out) hc hsw.1.wt hsw.1.ct (by rw[z2];omega);have hEn:∀(W':World),AA6 w W'->Env W' W'.heap.size ⟨cE ssa,cY c1 p.cs.length k1,cY c2 p.gs.length k2,cY c3 p.xs.length k3,cY c4 p.fs.length k4,cY q2 l2.length d2,cY cX 0 0⟩ p l2 []:=λW' hb=>⟨hp.out.nx hb,Nj.low hb hq.out.r2,ADF _,AQ,J4 Fu.out,aQ Fu.out,lV hr.out,hq.out.g2,tL Fu.out,P7 Fu.out,tN Fu.out⟩;have Tp:∀(W':World) (s1:St) (f1 h1 g1 t1 m1 fv:Value) (fl:List Int),AA6 w W'->Row Nj 1 W' fv fl->Qx W' s1 f1 h1 g1 t1 m1->jW s1->Way p (Jg s1) fuel->Calls prog 12 #[.agg #[cE ssa,cY c1 p.cs.length k1,cY c2 p.gs.length k2,cY c3 p.xs.length k3,cY c4 p.fs.length k4],Ko s1 f1 h1 g1 t1 m1,cI cJ fuel,cY q2 l2.length d2,fv] W' λe w'=>∃t fr' hp' TV TI mk',e=.returned (Ko t fr' hp' TV TI mk')/\Bt w' W'.heap.size t fr' hp' TV TI mk'/\Runs p l2 fl fuel (Jg s1) 0 t/\Way p t fuel/\AA6 W' w':=λW' s1 f1 h1 g1 t1 m1 fv fl hb hfl hI hz hy=>by
  obtain⟨pf,cf,rfl⟩:=hfl.slice;exact Vi (w0:=W') (k:=⟨cE ssa,cY c1 p.cs.length k1,cY c2 p.gs.length k2,cY c3 p.xs.length k3,cY c4 p.fs.length k4,cY q2 l2.length d2,cY pf fl.length cf⟩) ⟨hp.out.nx hb,Nj.low hb hq.out.r2,hfl,AQ,J4 Fu.out,aQ Fu.out,lV hr.out,hq.out.g2,tL Fu.out,P7 Fu.out,tN Fu.out⟩ (AL) ⟨rfl,rfl,rfl,rfl,rfl,rfl,rfl⟩ (by rw[ZL.out]) hI hz fuel hy
 have hI0:=hI;obtain⟨⟨_,y1⟩,⟨_,y2⟩,⟨_,y3⟩,⟨_,y4⟩,⟨_,y5⟩⟩:=hI;obtain⟨e1,f1,rfl⟩:=y1.sl;obtain⟨e2,f2,rfl⟩:=y2.sl;obtain⟨e3,f3,rfl⟩:=y3.sl;obtain⟨e4,f4,rfl⟩:=y4.sl;obtain⟨e5,f5,rfl⟩:=y5.sl;clear y1 y2 y3 y4 y5 z0 z2 hx hxb hT hS;have hcl:=tL Fu.out;replace hEn:=Wx hEn;replace Tp:=Wx Tp;replace hwk:=Wx hwk;replace hGu:=Wx hGu;obtain⟨a0,a1,a2,a3,a4⟩:=Y8.c5;obtain⟨-,-,b2,b3,b4⟩:=xA.c5;unfold Wi at hx5;obtain⟨x0,x1,x2,x3,x4,x5,x6,x7,x8,x9,x10,x11,x12⟩:=hx5.c13;have hlx:=hx5.lt;go_wp2_with fail;refine(Tp.out w3 s _ _ _ _ _ _ [] hb6 (ADF _) hI0 hsw.2 (by rw[hwk.out];exact hsw.1)).mono ?_;rintro e w4 ⟨c,fc,hc,gc,tc,mc,rfl,hOc,hRc,hYc,hbn⟩;obtain⟨r4a,g4a,r4b,g4b,r4c,g4c,r4d,g4d,r4e,g4e,rfl,rfl,rfl,rfl,rfl⟩:=hOc.shape;clear a0 a1 a2 a3 a4 b2 b3 b4 x0 x1 x2 x3 x4 x5 x6 x7 x8 x9 x10 x11 x12;go_upto_region 5 with fail;generalize Cr:World.alloc w4 _=W4 at*;obtain⟨J8,hZc⟩:=ng Cr;have hIc:=hOc.in.kp J8;have pO:=AB hbn J8;replace Y8:=Y8.nx pO;replace xA:=xA.nx pO;replace hx5:=hx5.nx pO;replace hI0:=hI0.kp pO;replace hb6:=AB hb6 pO;clear Cr J8 hbn hOc pO;obtain⟨a0,a1,a2,a3,a4⟩:=Y8.c5;obtain⟨-,-,b2,b3,b4⟩:=xA.c5;obtain⟨x0,x1,x2,x3,x4,x5,x6,x7,x8,x9,x10,x11,x12⟩:=hx5.c13;go_wp2_with fail;generalize Cr:World.alloc W4 _=W5 at*;obtain⟨J8,hZ1⟩:=ng Cr;refine(Tp.out W5 s _ _ _ _ _ _ [at0] (AB hb6 J8) (ADE hZ1) (hI0.kp J8) hsw.2 (by rw[hwk.out];exact hsw.1)).mono ?_;rintro e w5 ⟨a,fa,ha,ga,ta,ma,rfl,hOa,hRa,hYa,hbn⟩;obtain⟨r5a,g5a,r5b,g5b,r5c,g5c,r5d,g5d,r5e,g5e,rfl,rfl,rfl,rfl,rfl⟩:=hOa.shape;replace hbn:=AB J8 hbn;clear a0 a1 a2 a3 a4 b2 b3 b4 x0 x1 x2 x3 x4 x5 x6 x7 x8 x9 x10 x11 x12 Cr J8 hZ1;go_upto_region 6 with fail;generalize Cr:World.alloc w5 _=W6 at*;obtain⟨J8,hZa⟩:=ng Cr;have hIa:=hOa.in.kp J8;have pO:=AB hbn J8;replace Y8:=Y8.nx pO;replace xA:=xA.nx pO;replace hZc:=hZc.nx pO;replace hIc:=hIc.kp pO;replace hb6:=AB hb6 pO;clear Cr J8 hbn hOa pO hx5 hI0;obtain⟨hSc,hLc⟩:=hIc.see (hYc.fine hcl);obtain⟨hSa,hLa⟩:=hIa.see (hYa.fine hcl);rw[hwk.out]at hRc hRa;obtain⟨hG1,hG2⟩:=hGu.out c hRc;cases hgc:decide (c.guards<=at0);rotate_left
 ·have QZ:=BK hgc;have hSS:∀W,AA6 W6 W->Calls prog 17 #[Ko a (cY r5a a.frames.length g5a) (cY r5b a.heap.length g5b) (cY r5c a.globals.length g5c) (cY r5d a.trace.length g5d) (cY r5e a.marks.length g5e),Ko c (cY r4a c.frames.length g4a) (cY r4b c.heap.length g4b) (cY r4c c.globals.length g4c) (cY r4d c.trace.length g4d) (cY r4e c.marks.length g4e)] W λe w'=>e=.returned (cE cC)/\AA6 W w':=λW hb=>(ACS hb hSa hLa hSc hLc).mono λe w' ⟨⟨r,hr,hy⟩,hb⟩=>⟨by rw[hr,hy (hRa.det (hG1 QZ))],hb⟩;replace hSS:=hSS _ (AL);replace hSS:=Wx hSS;obtain⟨x0,x1,x2,x3,x4,x5,x6,x7,x8,x9,x10,x11,x12⟩:=hZa.c13;obtain⟨y0,y1,y2,y3,y4,y5,y6,y7,y8,y9,y10,y11,y12⟩:=hZc.c13;go_wp2_with fail;refine hSS.out.mono ?_;rintro e w7 ⟨rfl,BJ⟩;have hbz:=AB hb6 BJ;clear hSS x0 x1 x2 x3 x4 x5 x6 x7 x8 x9 x10 x11 x12 y0 y1 y2 y3 y4 y5 y6 y7 y8 y9 y10 y11 y12;go_wp2;go_ret;exact⟨rfl,hbz⟩
 have QZ:=CJ hgc;obtain⟨a',AHU,hst,hgu,hre,hRp⟩:=hG2 (by omega);obtain rfl:a=a':=hRa.det AHU;have hgn:¬c.guards<=at0:=by omega
 have hwr:IntKind.i64.wrap (at0+1)=at0+1:=IntWalk.i64_in _ (by have:=hYa.ct.gu;have:=hYa.st;omega);have hYp:=AEq (hEn.out W6 hb6) hre hsw.1;obtain⟨rest,x,hfr,hxi⟩:=ADG hYa hst (tN Fu.out);have hwa:Jg a=a:=OQ (by rw[hst];decide)
 have hwp:Jg (ABd a)=ABd a:=OQ (by
  unfold ABd;rw[if_pos hst,hfr,List.getLast?_concat];show(0:Int)≠3
  decide)
 obtain⟨-,-,b2,b3,b4⟩:=xA.c5;have x0:=hZa.c 0 _ rfl;have x11:=hZa.c 11 _ rfl;have y11:=hZc.c 11 _ rfl;rw[hst]at x0;rw[hgu]at x11;replace hst:=Wx hst;replace hgu:=Wx hgu;replace hfr:=Wx hfr;replace hwa:=Wx hwa;replace hwp:=Wx hwp;clear hG1 hG2 hGu;go_upto_region 10 with fail;clear x0 x11 y11 hwr hgn QZ hgc b2 b3 b4;obtain⟨a0,a1,a2,a3,a4⟩:=Y8.c5;obtain⟨-,-,b2,b3,b4⟩:=xA.c5;obtain⟨x0,x1,x2,x3,x4,x5,x6,x7,x8,x9,x10,x11,x12⟩:=hZa.c13;go_wp2_with fail;refine(Tp.out W6 a _ _ _ _ _ _ [] hb6 (ADF _) hIa (hYa.fine hcl) (hYa.wake hfu)).mono ?_;rintro e w7 ⟨b,fb,hb,gb,tb,mb,rfl,hOb,hRb,hYb,hbn⟩;rw[hwa.out]at hRb;obtain rfl:a=b:=(hRb.still (by rw[hst.out];decide)).symm;obtain⟨r7a,g7a,r7b,g7b,r7c,g7c,r7d,g7d,r7e,g7e,rfl,rfl,rfl,rfl,rfl⟩:=hOb.shape;clear a0 a1 a2 a3 a4 b2 b3 b4 x0 x1 x2 x3 x4 x5 x6 x7 x8 x9 x10 x11 x12;go_upto_region 11 with fail;generalize Cr:World.alloc w7 _=W7 at*;obtain⟨J8,hZb⟩:=ng Cr;have Fq:=hOb.in.kp J8;have pO:=AB hbn J8;replace Y8:=Y8.nx pO;replace xA:=xA.nx pO;replace hZc:=hZc.nx pO;replace hZa:=hZa.nx pO;replace hIc:=hIc.kp pO;replace hIa:=hIa.kp pO;replace hb6:=AB hb6 pO;clear Cr J8 hbn hOb pO hSa hLa hSc hLc;have hzc:=hYc.fine hcl;have hza:=hYa.fine hcl;have wE:=hYp.fine hcl;have hSA:∀W,AA6 W7 W->Calls prog 17 #[Ko a (cY r7a a.frames.length g7a) (cY r7b a.heap.length g7b) (cY r7c a.globals.length g7c) (cY r7d a.trace.length g7d) (cY r7e a.marks.length g7e),Ko a (cY r5a a.frames.length g5a) (cY r5b a.heap.length g5b) (cY r5c a.globals.length g5c) (cY r5d a.trace.length g5d) (cY r5e a.marks.length g5e)] W λe w'=>e=.returned (cE cC)/\AA6 W w':=λW hb=>(ACS hb (Fq.see hza).1 (Fq.see hza).2 (hIa.see hza).1 (hIa.see hza).2).mono λe w' ⟨⟨r,hr,hy⟩,hb⟩=>⟨by rw[hr,hy rfl],hb⟩;have AEz:∀W,AA6 W7 W->Calls prog 19 #[Ko a (cY r5a a.frames.length g5a) (cY r5b a.heap.length g5b) (cY r5c a.globals.length g5c) (cY r5d a.trace.length g5d) (cY r5e a.marks.length g5e)] W λe w'=>∃fr' hp' TV TI mk',e=.returned (Ko (ABd a) fr' hp' TV TI mk')/\Bt w' W.heap.size (ABd a) fr' hp' TV TI mk'/\AA6 W w':=λW hb=>ADH (hIa.kp hb) hza hfr.out hxi hst.out;have hR2:∀(W:World) (fr hp gl tr mk:Value),AA6 W7 W->Qx W (ABd a) fr hp gl tr mk->Calls prog 12 #[.agg #[cE ssa,cY c1 p.cs.length k1,cY c2 p.gs.length k2,cY c3 p.xs.length k3,cY c4 p.fs.length k4],Ko (ABd a) fr hp gl tr mk,cI cJ fuel,cY q2 l2.length d2,cY cX 0 0] W λe w'=>∃fr' hp' TV TI mk',e=.returned (Ko c fr' hp' TV TI mk')/\Bt w' W.heap.size c fr' hp' TV TI mk'/\AA6 W w':=λW fr hp gl tr mk hb hI=>(Tp.out W (ABd a) _ _ _ _ _ _ [] (AB hb6 hb) (ADF _) hI wE (by rw[hwp.out];exact hYp)).mono λe w' ⟨t,fr',hp',TV,TI,mk',h1,h2,h3,_,h4⟩=>by
  rw[hwp.out]at h3;obtain rfl:c=t:=hRp.det h3;exact⟨_,_,_,_,_,h1,h2,h4⟩
 have hSC:∀(W:World) (fr hp gl tr mk:Value),AA6 W7 W->Qx W c fr hp gl tr mk->Calls prog 17 #[Ko c fr hp gl tr mk,Ko c (cY r4a c.frames.length g4a) (cY r4b c.heap.length g4b) (cY r4c c.globals.length g4c) (cY r4d c.trace.length g4d) (cY r4e c.marks.length g4e)] W λe w'=>e=.returned (cE cC)/\AA6 W w':=λW fr hp gl tr mk hb hI=>(ACS (AL) (hI.see hzc).1 (hI.see hzc).2 ((hIc.kp hb).see hzc).1 ((hIc.kp hb).see hzc).2).mono λe w' ⟨⟨r,hr,hy⟩,hb⟩=>⟨by rw[hr,hy rfl],hb⟩;replace hSA:=Wx hSA;replace AEz:=Wx AEz;replace hR2:=Wx hR2;replace hSC:=Wx hSC;clear hEn Tp hIa Fq hIc hzc hza wE hYa hYb hYc hYp hRa AHU hRb hRc hRp hre hfr hsw;go_wp2;refine AV (S:=PaS W7 (ABd a) c) rfl (by kernel_rfl) (PaS.start Ac) ?_;(apply AU.z rfl;intro V L w1 _ _ _ z hK;(have hPn:=hZb.nx z.s.b;obtain⟨x0,x1,x2,x3,x4,x5,x6,x7,x8,x9,x10,x11,x12⟩:=hPn.c13);go_simp;exact hK (z.s.keep rfl rfl);intros;rfl);(apply AU.z rfl;intro V L w1 _ _ _ z hK;(have hPn:=hZa.nx z.s.b;obtain⟨x0,x1,x2,x3,x4,x5,x6,x7,x8,x9,x10,x11,x12⟩:=hPn.c13);go_simp;exact hK (z.s.keep rfl rfl);intros;rfl);(apply AU.y rfl;intro V L w1 _ _ z hK;go_simp;go_wp2_with((refine(hSA.out _ z.s.b).mono ?_;rintro e w2 ⟨rfl,hb⟩));(try simp only[pE]);exact hK.out _ ((z.s.kp hb).keep rfl rfl);intros;rfl);(apply AU.z rfl;intro V L w1 _ _ _ z hK;go_simp;exact hK (z.s.keep rfl rfl);intros;rfl);(apply AU.z rfl;intro V L w1 _ _ _ z hK;(have hPn:=Y8.nx z.s.b;obtain⟨a0,a1,a2,a3,a4⟩:=hPn.c5);go_simp;exact hK (z.s.keep rfl rfl);intros;rfl);(apply AU.z rfl;intro V L w1 _ _ _ z hK;(have hPn:=hZa.nx z.s.b;obtain⟨x0,x1,x2,x3,x4,x5,x6,x7,x8,x9,x10,x11,x12⟩:=hPn.c13);go_simp;exact hK (z.s.keep rfl rfl);intros;rfl);refine AU.free (λ_=>rfl) (λV L w1 K' Q' hS hi hR hd hK=>?_) ?_
 ·go_simp;go_wp2_with(refine(AEz.out _ hS.b).mono ?_;rintro e w3 ⟨fr',hp',TV,TI,mk',rfl,ho,hb⟩)
  exact hK.out _ _ rfl ((hS.kp hb).m6 ho.in)
 simp only[Act.put];(apply AU.z rfl;intro V L w1 _ _ _ z hK;go_simp;exact hK (z.s.keep rfl rfl);intros;rfl);(apply AU.z rfl;intro V L w1 _ _ _ z hK;(have hAn:=xA.nx z.s.b;have b2:=hAn.c 2 _ rfl);go_simp;exact hK (z.s.keep rfl rfl);intros;rfl);(apply AU.z rfl;intro V L w1 _ _ _ z hK;go_simp;exact hK (z.s.keep rfl rfl);intros;rfl);(apply AU.z rfl;intro V L w1 _ _ _ z hK;(have hAn:=xA.nx z.s.b;have b3:=hAn.c 3 _ rfl);go_simp;exact hK (z.s.keep rfl rfl);intros;rfl);refine AU.free (λ_=>rfl) (λV L w1 K' Q' hS hi hR hd hK=>?_) ?_
 ·obtain⟨fr,h',gl,tr,mk,hV,hT⟩:=hS.v6 (hd.out 6 (by kernel_rfl));simp only[hV];go_simp;go_wp2_with(refine(hR2.out _ _ _ _ _ _ hS.b hT).mono ?_;rintro e w3 ⟨fr',hp',TV,TI,mk',rfl,ho,hb⟩)
  exact hK.out _ _ (by simp only[hV];rfl) ((hS.kp hb).m11 ho.in)
 simp only[Act.put];(apply AU.z rfl;intro V L w1 _ _ _ z hK;(have hPn:=hZc.nx z.s.b;obtain⟨x0,x1,x2,x3,x4,x5,x6,x7,x8,x9,x10,x11,x12⟩:=hPn.c13);go_simp;exact hK (z.s.keep rfl rfl);intros;rfl);refine AU.val (cE cC) (λ_=>rfl) (λV L w1 K' Q' hS hi hR hd hK=>?_) ?_
 ·obtain⟨fr,h',gl,tr,mk,hV,hT⟩:=hS.v11 (hd.out 11 (by kernel_rfl));simp only[hV];go_simp;go_wp2_with(refine(hSC.out _ _ _ _ _ _ hS.b hT).mono ?_;rintro e w3 ⟨rfl,hb⟩)
  exact hK.out _ _ (by simp only[hV];rfl) ((hS.kp hb).keep rfl rfl)
 simp only[Act.put];iterate 2((apply AU.z rfl;intro V L w1 _ _ _ z hK;go_simp;exact hK (z.s.keep rfl rfl);intros;rfl))
 iterate 2((refine AU.skip (λ_=>rfl) (λV L w1 hS hi=>(hS.keep rfl rfl)) ?_;(try simp only[pE])))
 iterate 2((apply AU.z rfl;intro V L w1 _ _ _ z hK;go_simp;exact hK (z.s.keep rfl rfl);intros;rfl))
 refine AU.nil λV w8 hS=>?_;have hbz:=AB hb6 hS.b;go_wp2;go_ret;exact⟨rfl,hbz⟩
end
section
open Go.ChangeShapes Go.WideShapes Go.ChangeAt Go.Deep
def SB:∀(l:List (DataW Unit)),Rows.laid_lateen_lateenref05_words=.agg l->∀(r:Nat) (s:List UInt8),l[r]? =cP (.lit (.string s))->s.length<=10:=by
 intro l h r s hs;unfold Rows.laid_lateen_lateenref05_words at h;injection h with h
 have hc:(l.all λd:DataW Unit=>match d with
  |.lit (.string s)=>decide (s.length<=10)
  |_=>cC)=cC:=by rw[<-h];decide
 have:=List.all_eq_true.1 hc _ (List.mem_of_getElem? hs);simpa using this
theorem jc{W:World}(h:laidMetH prog Rows.machineGuardsRow.laid W):Words W:=by
 rw[MakeChecks.laidMetH_plain _ _ _ (by kernel_rfl)]at h;obtain⟨ps,⟨_,_,_,_,_,_,_,_,_,_,⟨g,t,cs,fuel,p,q,hg,ht,hv,hd,_,_⟩,_⟩,_,_⟩:=h;obtain rfl:=Option.some.inj ((show prog.globalNamed "lateen/lateenref05.words" =cP 2 by kernel_rfl).symm.trans hg);obtain rfl:=Option.some.inj ((show(prog.globals[2]?).map (·.type)=cP 298 by kernel_rfl).symm.trans ht);obtain⟨xs,m,_,ex,_,hl,hel⟩:=DataW.trod_array underlying298 hd;have c5:prog.cellsOf 9=1:=by kernel_rfl
 intro r hr;have hE:=hel r hr;rw[c5,Nat.mul_one,List.getElem?_eq_getElem (by omega)]at hE;obtain⟨z,e1,e2,_⟩:=DataW.trod_string underlying9 hE;have hz:=SB _ (congrArg Prod.fst ex) r z.data.toList (by rw[List.getElem?_map,List.getElem?_eq_getElem (by omega),Option.map_some,e2]);refine⟨z,?_,by simpa using hz⟩;rw[World.var?_cell hg hv r];have h0:((cs.toList.drop r).take 1)[0]? =cP (cS z):=by rw[e1];rfl
 simpa using h0
variable (H : Type) (enc : TypeId × Value -> H) (W : World) (base : Nat) (args : Array Value) (ds gs : List (DataW H)) (before : List MemPlace)
theorem ADI(hval:∀(j:Nat) t v,f7.params[j]? =cP t->args[j]? =cP v->Value.okWide prog W .any base t v)(hW:DataW.Whole enc prog f7.params.toList Rows.machineGuardsSpec.vars cA W args.toList ds gs before)(hk:(DataW.weightsEach prog (f7.params.toList++Rows.machineGuardsSpec.plain.varTypes prog) (ds++gs)).all (· <=reachBytes)=cC) (hx:laidMetH prog Rows.machineGuardsRow.laid W)(m:Int) (hm:W.cell? ⟨1,0,cX⟩=cP (cI cJ m)):Calls prog 7 args W λe W'=>e=.returned (cE cC)/\AA6 W W':=by
 have hwd:=jc hx;obtain⟨p,q,hA0,hV,rfl,_,_⟩:=hW;have hA:DataW.TrodAll enc prog W 0 (λ_=>cC) cC f7.params.toList args.toList ds p:=hA0;rw[params7]at hA hval hk;obtain⟨v0,vs0,d0,ds0,p0,q0,hargs,rfl,rfl,h0,r0⟩:=trodAll_cons hA;obtain⟨v1,vs1,d1,ds1,p1,q1,rfl,rfl,rfl,h1,r1⟩:=trodAll_cons r0;obtain⟨v2,vs2,d2,ds2,p2,q2,rfl,rfl,rfl,h2,r2⟩:=trodAll_cons r1;obtain⟨rfl,rfl,rfl⟩:=trodAll_nil r2;obtain rfl:args=#[v0,v1,v2]:=by cases args;simp_all
 obtain⟨c0,rfl,k0⟩:=oC underlying27 (hval 0 _ v0 rfl rfl) h0 (nX hk (j:=0) rfl rfl);obtain⟨c1,rfl,k1⟩:=oC underlying30 (hval 1 _ v1 rfl rfl) h1 (nX hk (j:=1) rfl rfl);obtain⟨at0,rfl⟩:=okWide_int underlying2 (hval 2 _ v2 rfl rfl);obtain⟨p,u1,u2,u3,u4,hp,hr⟩:=AAX k0;obtain⟨qf,l1,fuel,l2,l3,g1,g2,g3,hq⟩:=ADX k1;have e1:=hp.e;have e2:=hq.e;rw[e1]at hp;rw[e2]at hq;rw[e1,e2];exact ACr ⟨hwd,⟨m,hm⟩,hp,hr,hq⟩ at0
end
section
namespace lawMachineGuards
open Go.ChangeShapes Go.WideShapes Go.ChangeAt
open Go.ChangeMaps (open_string shut_string)
theorem contract(H:Type)(enc:TypeId×Value->H)(W:World)(base:Nat)(args:Array Value)(ds gs:List (DataW H))(before:List MemPlace)(hval:∀(j:Nat) t v,f7.params[j]? =cP t->args[j]? =cP v->Value.okWide prog W .any base t v)(hW:DataW.Whole enc prog f7.params.toList Rows.machineGuardsSpec.vars cA W args.toList ds gs before) (hk:(DataW.weightsEach prog (f7.params.toList++Rows.machineGuardsSpec.plain.varTypes prog) (ds++gs)).all (· <=reachBytes)=cC) (hx:laidMetH prog Rows.machineGuardsRow.laid W) (m:Int) (hm:W.cell? ⟨1,0,cX⟩=cP (cI cJ m)):Calls prog 7 args W λe W'=>∃v,e=.returned v/\Rows.machineGuardsSpec.post enc prog f7 cA cC cA cA W args v W':=by
 have hWk:=hW;obtain⟨p,q,hA0,hV,rfl,_,_⟩:=hW;have hA:DataW.TrodAll enc prog W 0 (λ_=>cC) cC f7.params.toList args.toList ds p:=hA0;rw[params7]at hA;obtain⟨v0,vs0,d0,ds0,p0,q0,hargs,rfl,rfl,h0,r0⟩:=trodAll_cons hA;obtain⟨v1,vs1,d1,ds1,p1,q1,rfl,rfl,rfl,h1,r1⟩:=trodAll_cons r0;obtain⟨v2,vs2,d2,ds2,p2,q2,rfl,rfl,rfl,h2,r2⟩:=trodAll_cons r1;obtain⟨rfl,rfl,rfl⟩:=trodAll_nil r2;obtain rfl:args=#[v0,v1,v2]:=by cases args;simp_all
 have hgs:gs=[]:=(trodVars_none hV).1;refine law_calls (T:=4) Tryz.laidOut (by rw[params7];intro t ht;simp only[List.mem_cons,List.not_mem_nil,or_false]at ht;rcases ht with rfl|rfl|rfl<;>kernel_rfl) (by rw[params7];intro t ht;simp only[List.mem_cons,List.not_mem_nil,or_false]at ht;rcases ht with rfl|rfl|rfl<;>exact BK (by kernel_rfl)) rfl (by kernel_rfl) underlying4 hWk (by rw[hgs];rfl) ?_;exact ADI H enc W base _ _ gs _ hval hWk hk hx m hm
theorem lifted(os:Os)(started:os.Started)(H:Type)(enc:TypeId×Value->H):ReturnsInHanded {} checked os 7 .any (λw args=>(Rows.machineGuardsSpec.pre enc prog f7 [] cA w args/\laidMetH prog Rows.machineGuardsRow.laid w)/\sizedMet enc prog f7 (OpenSpec.ofChange Rows.machineGuardsSpec) cA w args) (Rows.machineGuardsSpec.post enc prog f7 cA cC cA cA):=by
 refine J5 (C:=checked) (X:=λw _=>laidMetH prog Rows.machineGuardsRow.laid w) (λ_ _ _ hh h=>h.of_heap hh) Tryz.ownKnob started (by kernel_rfl) func7
  (ChangeSpec.witness_shaped (enc:=enc) (C:=checked) (os:=os) (X:=λw _=>laidMetH prog Rows.machineGuardsRow.laid w) cA (World.laidAll prog os Rows.machineGuardsRow.laid) #[.agg #[cE cA,cY cX 0 0,cY cX 0 0,cY cX 0 0,cY cX 0 0],.agg #[cI .u8 0,cY cX 0 0,cI cJ 0,cY cX 0 0,cY cX 0 0],cI cJ 0] 8 (World.laidAll_os _ _ _)
   (World.shaped_of_ZipB (by kernel_rfl) (by kernel_rfl)) (by kernel_rfl) (by kernel_rfl) (by kernel_rfl)
   (by rw[MakeChecks.laidMetH_plain _ _ _ (by kernel_rfl)];exact laidMet_laidAll _ (by kernel_rfl) (by kernel_rfl))) ?_
 intro W base args ds gs before hval hW hx hz hsh;obtain⟨m,hm⟩:=sV hsh;exact contract H enc W base args ds gs before hval hW hz hx m hm
theorem j0:(Rows.machineGuardsRow.inPlace==prog.inPlace 7)=cC:=by kernel_rfl
theorem j1:(Rows.machineGuardsRow.unfollowed==prog.unfollowed 7)=cC:=by kernel_rfl
theorem j2:(Rows.machineGuardsRow.recurses==prog.recurses 7)=cC:=by kernel_rfl
theorem j3:(Rows.machineGuardsRow.named==prog.varsNamed 7)=cC:=by kernel_rfl
theorem j4:(laidOutB prog)=cC:=by kernel_rfl
theorem j5:(mapsRowed prog)=cC:=by kernel_rfl
theorem j6:(prog.stops==[])=cC:=by kernel_rfl
theorem j7:(prog.stopKnobs==[])=cC:=by kernel_rfl
theorem j8:(prog.stopsHeard)=cC:=by kernel_rfl
theorem j9:(prog.mayEnter)=cC:=by kernel_rfl
theorem j10:(Rows.machineGuardsRow.plainKeys==prog.plainKeys)=cC:=by kernel_rfl
theorem j11:(Rows.machineGuardsRow.lifted==prog.liftsFinal)=cC:=by kernel_rfl
theorem facts:joinedFacts prog 7 f7 Rows.machineGuardsSpec Rows.machineGuardsRow=cC:=by
 unfold joinedFacts;rw[j0,j1,j2,j3,j4,j5,j6,j7,j8,j9,j10,j11];kernel_rfl
theorem holds:Rows.MachineGuardsSaid:=
 OpenClaim.holds_of_wide 7 f7 rfl rfl rfl rfl rfl rfl rfl ⟨rfl,rfl,rfl,rfl,rfl⟩ rfl rfl rfl rfl rfl (by kernel_rfl) func7 facts
  (BK (by kernel_rfl)) (by unfold Func.isWrapper;first|(rw[if_pos (by decide+kernel)];kernel_rfl)|(rw[if_neg (by decide+kernel)];exact⟨rfl,rfl⟩))
  (λos started H enc _=>lifted os started H enc)
theorem proved:Rows.MachineGuardsCardSaid:=
 Claim7.holds_tied_plain_at .later [] [.data,.data,.pinned] cC (cC, "c8b6cc4407bc1138b60c66af1eda1fd11cf706ba74662aa1eea4fca4a879b2a8") cC holds (λ_ h=>by cases h) (by kernel_rfl) (λ_ h=>by cases h) machineGuards_row_tie rfl ⟨rfl,rfl⟩ (by kernel_rfl) rfl
  (λf fn hf hfn=>by
   obtain rfl:f=7:=Option.some.inj ((show prog.funcNamed "lateen/lateenlaw16.MachineGuards" =cP 7 by kernel_rfl).symm.trans hf)|>.symm;obtain rfl:fn=f7:=(Option.some.inj (func7.symm.trans hfn)).symm
   exact⟨by kernel_rfl,λj t ht=>by
    rw[params7]at ht;have hm:t∈ [27,30,2]:=(by simpa using Array.mem_of_getElem? ht);have hall:([27,30,2].all λu=> !prog.wantsStandIn u)=cC:=by kernel_rfl
    exact(show prog.wantsStandIn t=cA by simpa using List.all_eq_true.1 hall t hm)⟩)
  (by kernel_rfl)
#print axioms proved
end lawMachineGuards
end
end Go.Proofs.YtlffomedflegdaaGreatDoor
#print axioms Go.Proofs.YtlffomedflegdaaGreatDoor.lawMachineGuards.proved
