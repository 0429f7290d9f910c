/- Part 14 of 49 of the proof: Mh, Mi, Mj, Mk, Ml. -/
import Derived.Test.YtlffomedflegdaaGreatDoorPz00
import Derived.Test.YtlffomedflegdaaGreatDoorPz13
set_option linter.all false
set_option maxHeartbeats 16000000
set_option maxRecDepth 100000
namespace Go.Proofs.YtlffomedflegdaaGreatDoor
open Go.Proofs.Tryz
open Go.RowKit
variable {B HB M N VB ch cv l n q:Nat}{c x:ByteArray}{j:Int}{k:Hd}{p:Pg}{r:List Vr}{s:St}{w w0:World}{y:Vr}
def EJ(q:Nat)(r:Option Nat):Int:=match r with
 |some k=>((q+k:Nat):Int)
 |none=> -1
theorem lG(hy:y.n≠x):FK x (y::r)=(FK x r).map (· +1):=by simp_all[FK]
theorem O5(hy:y.n≠x):EJ q (FK x (y::r))=EJ (q+1) (FK x r):=by
 rw[lG hy]
 cases FK x r with
 |none=>rfl
 |some k=>
  show((q+(k+1):Nat):Int)=((q+1+k:Nat):Int);rw[show q+(k+1)=q+1+k by omega]
theorem O6(hy:y.n=x):EJ q (FK x (y::r))=(q:Int):=by simp_all[EJ,FK]
theorem nZ(s x:ByteArray):(s.toList==x.toList)=decide (s=x):=by grind [EZ,Ea]
theorem U6{pb o:Nat}(hc:w.cell? ⟨pb,o,none⟩=some (.string x))(s t:ByteArray):Calls prog 193 #[.agg #[.string s,.string t],.pointer (some ⟨pb,o,none⟩)] w fun e w'=>e=.returned (.bool (decide (s=x)))/\AA6 w w':=by
 have hb:=AJ w (.cells #[.string s,.string t] 71);have hc2:=AA hb hc;have he:=nZ s x;go_enter func193,ntmps193;go_wp2;go_ret;exact⟨by first|rw[he]|(go_simp;rw[he])|simp[he],hb⟩
theorem LC{pb:Nat}(hc:w.cell? ⟨pb,2,none⟩=some (.string x))(s t:ByteArray):Calls prog 139 #[.agg #[.string s,.string t],.pointer (some ⟨pb,0,none⟩)] w fun e w'=>e=.returned (.bool (decide (s=x)))/\AA6 w w':=by
 have hb:=AJ w (.cells #[.string s,.string t] 71);have hc2:=AA hb hc;have he:=nZ s x;clear hc;go_enter func139,ntmps139;go_wp2;go_ret;exact⟨by first|rw[he]|(go_simp;rw[he])|simp[he],hb⟩
theorem U1(h0:AA6 w0 w){l:List Vr}{v:Value}(hl:Row IU 2 w0 v l)(x:ByteArray){cp:Value}(hg:∀w' (y:Vr),AA6 w w'->Calls prog 193 #[.agg #[.string y.n,.string y.t],cp] w' fun e w2=>e=.returned (.bool (decide (y.n=x)))/\AA6 w' w2):Calls prog 138 #[v,.func (Fn.func 193) #[] #[cp]] w fun e w'=>e=.returned (.int .i64 (EJ 0 (FK x l)))/\AA6 w w':=by
 obtain⟨pl,cl,rfl,-,hn,hl⟩:=hl;generalize hr:EJ 0 (FK x l)=r;go_enter func138,ntmps138;go_wp2;go_loopw[8] (fun i wr=>∃q:Nat,q<=l.length/\i=.int .i64 (q:Int)/\AA6 w wr/\EJ q (FK x (l.drop q))=r) (fun i _=>l.length-(intOf i).toNat);exact⟨0,AY,rfl,AL,hr⟩;obtain⟨q,hq,rfl,hb,hr⟩:=hrel;by_cases hend:q=l.length
 ·subst hend;rw[List.drop_length]at hr;replace hr: -1=r:=hr;subst hr;clear hl hg;go_wp2;go_ret;exact⟨rfl,hb⟩
 ·have hlt:q<l.length:=by omega
  have A8:(q:Int)<(l.length:Int):=by omega
  rw[List.drop_eq_getElem_cons hlt]at hr;obtain⟨a,rfl,⟨c0,-⟩,c1,-⟩:=hl q l[q] (by simp[hlt]);have hb0:=AB h0 hb;replace c0:=AA hb0 c0;replace c1:=AA hb0 c1;have Nk:=hg wr l[q] hb;clear hl hg;by_cases hy:l[q].n=x
  ·rw[O6 hy]at hr;subst hr;rw[decide_eq_true hy]at Nk;replace Nk:=hidden Nk;clear hy;generalize l[q]=y at*;go_wp2_with fail;refine Nk.out.mono ?_;rintro e w2 ⟨rfl,hb2⟩;have hb3:=hb.trans (hb2.mono hb.size);clear Nk hb hb2 c0 c1;go_wp2;go_ret;exact⟨rfl,hb3⟩
  ·rw[O5 hy]at hr;rw[decide_eq_false hy]at Nk;replace Nk:=hidden Nk;clear hy;generalize l[q]=y at*;go_wp2_with fail;refine Nk.out.mono ?_;rintro e w2 ⟨rfl,hb2⟩;have hb3:=hb.trans (hb2.mono hb.size);clear Nk hb hb2 c0 c1;go_wp2;go_roundw;exact⟨q+1,by omega,by go_num,hb3,hr⟩;simp[intOf];omega
theorem NK(h0:AA6 w0 w){l:List Vr}{v:Value}(hl:Row IU 2 w0 v l)(x:ByteArray){cp:Value}(hg:∀w' (y:Vr),AA6 w w'->Calls prog 139 #[.agg #[.string y.n,.string y.t],cp] w' fun e w2=>e=.returned (.bool (decide (y.n=x)))/\AA6 w' w2):Calls prog 138 #[v,.func (Fn.func 139) #[] #[cp]] w fun e w'=>e=.returned (.int .i64 (EJ 0 (FK x l)))/\AA6 w w':=by
 obtain⟨pl,cl,rfl,-,hn,hl⟩:=hl;generalize hr:EJ 0 (FK x l)=r;go_enter func138,ntmps138;go_wp2;go_loopw[8] (fun i wr=>∃q:Nat,q<=l.length/\i=.int .i64 (q:Int)/\AA6 w wr/\EJ q (FK x (l.drop q))=r) (fun i _=>l.length-(intOf i).toNat);exact⟨0,AY,rfl,AL,hr⟩;obtain⟨q,hq,rfl,hb,hr⟩:=hrel;by_cases hend:q=l.length
 ·subst hend;rw[List.drop_length]at hr;replace hr: -1=r:=hr;subst hr;clear hl hg;go_wp2;go_ret;exact⟨rfl,hb⟩
 ·have hlt:q<l.length:=by omega
  have A8:(q:Int)<(l.length:Int):=by omega
  rw[List.drop_eq_getElem_cons hlt]at hr;obtain⟨a,rfl,⟨c0,-⟩,c1,-⟩:=hl q l[q] (by simp[hlt]);have hb0:=AB h0 hb;replace c0:=AA hb0 c0;replace c1:=AA hb0 c1;have Nk:=hg wr l[q] hb;clear hl hg;by_cases hy:l[q].n=x
  ·rw[O6 hy]at hr;subst hr;rw[decide_eq_true hy]at Nk;replace Nk:=hidden Nk;clear hy;generalize l[q]=y at*;go_wp2_with fail;refine Nk.out.mono ?_;rintro e w2 ⟨rfl,hb2⟩;have hb3:=hb.trans (hb2.mono hb.size);clear Nk hb hb2 c0 c1;go_wp2;go_ret;exact⟨rfl,hb3⟩
  ·rw[O5 hy]at hr;rw[decide_eq_false hy]at Nk;replace Nk:=hidden Nk;clear hy;generalize l[q]=y at*;go_wp2_with fail;refine Nk.out.mono ?_;rintro e w2 ⟨rfl,hb2⟩;have hb3:=hb.trans (hb2.mono hb.size);clear Nk hb hb2 c0 c1;go_wp2;go_roundw;exact⟨q+1,by omega,by go_num,hb3,hr⟩;simp[intOf];omega
structure MJ(w:World)(M HB n ch q VB l cv:Nat)(c:ByteArray):Prop where
 sl:w.cell? ⟨M,10,none⟩=some (.slice (some ⟨HB,0,none⟩) n ch)
 c:w.cell? ⟨HB,q*2,none⟩=some (.string c)
 v:w.cell? ⟨HB,q*2+1,none⟩=some (.slice (some ⟨VB,0,none⟩) l cv)
 lt:q<n
 n:n<=140737488351232
 l:l<=140737488351232
theorem MJ.kp{w1:World}(h:MJ w M HB n ch q VB l cv c)(hb:AA6 w w1):MJ w1 M HB n ch q VB l cv c:=
 ⟨AA hb h.sl,AA hb h.c,AA hb h.v,h.lt,h.n,h.l⟩
theorem Jp{a b:Addr}{u:Value}{p:Option Addr}{c:Nat}(ha:w.cell? a=some u)(h:(w.setCell a (.string x)).cell? b=some (.slice p l c)):w.cell? b=some (.slice p l c):=by
 by_cases e:a=b
 ·subst e;rw[World.cell?_setCell_same _ _ _ ha]at h;cases h
 ·rwa[World.cell?_setCell_other _ _ _ _ (fun h=>e h)]at h
theorem Am.obj(h:Am w B N M k s j){l1 l2:List Ob}{o:Ob}(hh:s.heap=l1++o::l2){v1 v2:List Vu}{u:Vu}(hv:o.vs=v1++u::v2)(hn:s.heap.length<=140737488351232)(hl:o.vs.length<=140737488351232):∃HB ch VB cv,MJ w M HB s.heap.length ch l1.length VB o.vs.length cv o.c/\w.cell? ⟨VB,v1.length*2,none⟩=some (.string u.1)/\w.cell? ⟨VB,v1.length*2+1,none⟩=some (.int .i64 u.2)/\B<=VB/\VB<N/\(∀i,w.frozen? ⟨VB,i,none⟩=false)/\(∀x:Vu,Am ((w.setCell ⟨VB,v1.length*2,none⟩ (.string x.1)).setCell ⟨VB,v1.length*2+1,none⟩ (.int .i64 x.2)) B N M k {s with heap:=l1++⟨o.c,v1++x::v2⟩::l2} j):=by
 have key:∀(w:World) (s:St) (o:Ob) (u:Vu),Am w B N M k s j->s.heap=l1++o::l2->o.vs=v1++u::v2->∃HB ch VB cv,w.cell? ⟨M,10,none⟩=some (.slice (some ⟨HB,0,none⟩) (l1.length+1+l2.length) ch)/\w.cell? ⟨HB,l1.length*2,none⟩=some (.string o.c)/\
   w.cell? ⟨HB,l1.length*2+1,none⟩=some (.slice (some ⟨VB,0,none⟩) (v1.length+1+v2.length) cv)/\w.cell? ⟨VB,v1.length*2,none⟩=some (.string u.1)/\w.cell? ⟨VB,v1.length*2+1,none⟩=some (.int .i64 u.2)/\B<=VB/\VB<N/\(∀i,w.frozen? ⟨VB,i,none⟩=false)/\
   (∀x:ByteArray,Am (w.setCell ⟨VB,v1.length*2,none⟩ (.string x)) B N M k {s with heap:=l1++⟨o.c,v1++(x,u.2)::v2⟩::l2} j)/\
   (∀x:Int,Am (w.setCell ⟨VB,v1.length*2+1,none⟩ (.int .i64 x)) B N M k {s with heap:=l1++⟨o.c,v1++(u.1,x)::v2⟩::l2} j):=by
  intro w s o u h hh hv
  have hSt:Eh s=.agg ([dN s.status,C9 s.result,dN s.code,.row 84 4 (s.frames.map Kw)]++ .row 119 2 (l1.map Ld++Ld o::l2.map Ld)::[.row 34 2 (s.globals.map C9),
    .row 59 4 (s.trace.map Qc),.row 2 1 (s.marks.map dN),dN s.allocs,dN s.steps,dN s.guards,dN s.asked]):=by
   unfold Eh;rw[hh];simp
  have hOb:Ld o=.agg [dS o.c,.row 34 2 (v1.map C9++C9 u::v2.map C9)]:=by
   unfold Ld;rw[hv];simp
  have s0:=h.st;rw[hSt]at s0;have s1:=s0.agg;obtain⟨HB,ch,c9,fz,_,s2⟩:=s1.row;rw[List.length_map,List.length_map]at c9;rw[List.length_map]at s2;rw[hOb]at s2;have a0:=Aq.cell (v:=.string o.c) (Aq.nth (l:=[dS o.c,.row 34 2 (v1.map C9++C9 u::v2.map C9)]) s2 0 rfl rfl);have a1:=Aq.nth (l:=[dS o.c,.row 34 2 (v1.map C9++C9 u::v2.map C9)]) s2 1 rfl rfl;obtain⟨VB,cv,c10,fz2,_,s3⟩:=a1.row;rw[List.length_map,List.length_map]at c10;rw[List.length_map]at s3;have b0:=Aq.nth (l:=[dS u.1,dN u.2]) s3 0 rfl rfl;have b1:=Aq.nth (l:=[dS u.1,dN u.2]) s3 1 rfl rfl;have hat:=s3.at;refine⟨HB,ch,VB,cv,?_,a0,c10,Aq.cell b0,Aq.cell b1,hat.1,hat.2.1,fz2,fun x=>?_,fun x=>?_⟩
  ·simpa[Dt.DF,Dt.wd,dN,C9,dS]using c9
  ·refine h.of (Aq.set1 (v1:=.string x) b0 rfl) ?_;unfold dM Eh;simp[Ld,C9,dS,dN]
  ·refine h.of (Aq.set1 (v1:=.int .i64 x) b1 rfl) ?_;unfold dM Eh;simp[Ld,C9,dS,dN]
 obtain⟨HB,ch,VB,cv,k1,k2,k3,k4,k5,k6,k7,k8,k9,k10⟩:=key w s o u h hh hv;have e1:s.heap.length=l1.length+1+l2.length:=by rw[hh];simp;omega
 have e2:o.vs.length=v1.length+1+v2.length:=by rw[hv];simp;omega
 refine⟨HB,ch,VB,cv,⟨by rw[e1];exact k1,k2,by rw[e2];exact k3,by omega,hn,hl⟩,k4,k5,k6,k7,k8,fun x=>?_⟩;have h1:=k9 x.1;obtain⟨HB',ch',VB',cv',m1,m2,m3,m4,m5,m6,m7,m8,m9,m10⟩:=key _ _ ⟨o.c,v1++(x.1,u.2)::v2⟩ (x.1,u.2) h1 rfl rfl;have q1:=(Jp k4 m1).symm.trans k1;obtain⟨rfl,rfl⟩:HB'=HB/\ch'=ch:=by simpa using q1
 have q3:=(Jp k4 m3).symm.trans k3;grind
theorem Gj{α:Type}{l:List α}{k:Nat}{x:α}(h:l[k]? =some x):∃l1 l2,l=l1++x::l2/\l1.length=k:=by
 obtain⟨hk,e⟩:=List.getElem?_eq_some_iff.1 h;refine⟨l.take k,l.drop (k+1),?_,by simp;omega⟩;rw[<-e,<-List.drop_eq_getElem_cons hk,List.take_append_drop]
theorem KV{α:Type}{l1 l2:List α}{x y:α}:(l1++x::l2).set l1.length y=l1++y::l2:=by simp
theorem X8(h:MJ w M HB n ch q VB l cv c):Calls prog 194 #[.slice (some ⟨HB,0,none⟩) n ch,.agg #[.string E9,.int .i64 ((q:Int)+1)]] w fun e w'=>e=.returned (.tuple #[.agg #[.string c,.slice (some ⟨VB,0,none⟩) l cv],.bool true])/\AA6 w w':=by
 obtain⟨-,c0,c1,hq,hn,hl⟩:=h;have hB:HB<w.heap.size:=World.block_lt_of_cell? w ⟨HB,q*2,none⟩ c0;have hB1:HB<w.heap.size+1:=by omega
 have hB2:HB<w.heap.size+1+1:=by omega
 have ee:E9.toList=[114,101,102]:=by rw[Li]
 have e3:IntKind.i64.wrap ((q:Int)+1-1)=(q:Int):=by
  have:(q:Int)+1-1=q:=by omega
  rw[this];exact IntWalk.i64_in _ (by omega)
 generalize E9=rs at*;go_enter func194,ntmps194;go_wp2;(refine rB rfl (by go_simp;try rfl) rfl ⟨rfl,?_⟩);(repeat(first|with_reducible assumption|exact AJ _ _|exact AL|refine Below.drew ?_|refine Below.setCell ?_ (by first|exact AQ|(dsimp only;omega)) _|refine Below.alloc ?_ (by first|exact AQ|(simp;omega)|simp) _))
theorem Vy(h:MJ w M HB n ch q VB l cv c){i:Nat}{u:Vu}(hi:i<l)(c0:w.cell? ⟨VB,i*2,none⟩=some (.string u.1))(c1:w.cell? ⟨VB,i*2+1,none⟩=some (.int .i64 u.2)):Calls prog 137 #[.slice (some ⟨HB,0,none⟩) n ch,.agg #[.string E9,.int .i64 ((q:Int)+1)],.int .i64 (i:Int)] w fun e w'=>e=.returned (.tuple #[Kn u,.bool true])/\AA6 w w':=by
 have hb0:=(Ch (w:=w) (c1:=[.string E9,.int .i64 ((q:Int)+1)]) (c2:=[.string {data:=#[]},.int .i64 0]) (t1:=34) (t2:=34) (AL)).2.2;have HO:=X8 (h.kp hb0);have hiI:(i:Int)<l:=by omega
 have hlm:=h.l;generalize E9=rs at*;go_enter func137,ntmps137;go_wp2_with fail;refine HO.mono ?_;rintro e w1 ⟨rfl,hb⟩;obtain⟨-,hR,hBw⟩:=Ch hb;have hb4:=hBw.alloc hBw.size (Obj.cells #[.string c,.slice (some ⟨VB,0,none⟩) l cv] 119);replace c0:=AA hb4 c0;replace c1:=AA hb4 c1;have r0':=fun o=>(hR.al o).c 0 _ rfl;have r1':=fun o=>(hR.al o).c 1 _ rfl;have f0':=fun o=>(hR.al o).f 0 (by simp);have f1':=fun o=>(hR.al o).f 1 (by simp);go_wp2;(refine rB rfl (by go_simp;try rfl) rfl ⟨rfl,?_⟩);((repeat(refine Below.setCell ?_ (by dsimp only;omega) _));exact(hBw).alloc (hBw).size _)
theorem kU(ph:Option Addr)(n ch:Nat)(hn:n<=140737488351232)(s:ByteArray)(at':Int)(w:World):Calls prog 137 #[.slice ph n ch,.agg #[.string s,.int .i64 0],.int .i64 at'] w fun e w'=>e=.returned (.tuple #[.agg #[.string .empty,.int .i64 0],.bool false])/\AA6 w w':=by
 have HO:=fun w=>X7 ph n ch (by omega) s 0 (by unfold UA;simp) w;go_enter func137,ntmps137;go_wp2_with fail;refine(HO _).mono ?_;rintro e w1 ⟨rfl,hb⟩;obtain⟨-,hR,hB⟩:=Ch hb;obtain⟨r0,r1⟩:=hR.c2;obtain⟨f0,f1⟩:=hR.f2;have r0':=fun o=>(hR.al o).c 0 _ rfl;have r1':=fun o=>(hR.al o).c 1 _ rfl;have f0':=fun o=>(hR.al o).f 0 (by simp);have f1':=fun o=>(hR.al o).f 1 (by simp);go_wp2;(refine rB rfl (by go_simp;try rfl) rfl ⟨rfl,?_⟩);((repeat(refine Below.setCell ?_ (by dsimp only;omega) _));exact(hB).alloc (hB).size _)
theorem fE(M:Nat)(t x:ByteArray)(o:Int)(ho:o<1):Calls prog 136 #[.pointer (some ⟨M,0,none⟩),.agg #[.string t,.int .i64 o],.string x] w fun e w'=>e=.returned (.int .i64 (-1))/\AA6 w w':=by
 obtain⟨-,-,hb⟩:=Ch (w:=w) (c1:=[.string t,.int .i64 o]) (c2:=[.string x]) (t1:=34) (t2:=9) (AL);have hd:decide (o<1)=true:=decide_eq_true ho;go_enter func136,ntmps136;go_wp2;go_quiet (fail);go_wp2;go_ret;exact⟨rfl,below_drewN hb _⟩
theorem R5(h0:AA6 w0 w)(h:Am w B N M k s j)(hp:Cj w0 (.agg #[k.u0,k.u1,k.u2,k.u3,k.u4]) p k.u1 k.u2 k.u3 k.u4)  (hO:MJ w M HB n ch q VB l cv c) {cl:Cl} (hc:Ai Cl.n c p.cs=some cl):Calls prog 136 #[.pointer (some ⟨M,0,none⟩),.agg #[.string E9,.int .i64 ((q:Int)+1)],.string x] w fun e w'=>e=.returned (.int .i64 (EJ 0 (FK x cl.fs)))/\AA6 w w':=by
 obtain⟨uu,hsel,hval⟩:=Vf hp.c hc;have hL:=fun v (hv:AA6 w0 v)=>Ot hv hp c hsel hval;obtain⟨g0,g1,g2,g3,g4,-⟩:=h.hd;obtain⟨hV,hX,hb2⟩:=Ch (w:=w) (c1:=[.string E9,.int .i64 ((q:Int)+1)]) (c2:=[.string x]) (t1:=34) (t2:=9) (AL);have WK:=hO.lt;have hnn:=hO.n;have hd1:decide ((q:Int)+1<1)=false:=decide_eq_false (by omega);have hd2:decide ((n:Int)<(q:Int)+1)=false:=decide_eq_false (by omega);have e3:IntKind.i64.wrap (q:Int)=q:=IntWalk.i64_in _ (by omega);have nA:(q:Int)<n:=by omega
 have hfs:=hval.f;obtain⟨pu,ku,rfl⟩:=hfs.slice;have hI:=fun v (hv:AA6 w0 v) (hcx:v.cell? ⟨w.heap.size+1,0,none⟩=some (.string x))=>U1 (x:=x) (cp:=.pointer (some ⟨w.heap.size+1,0,none⟩)) hv hfs (fun w' y hb=>U6 (AA hb hcx) y.n y.t);generalize EJ 0 (FK x cl.fs)=r at*;generalize E9=rs at*;generalize cl.fs.length=nf at*;generalize cl.n=cn at*;go_enter func136,ntmps136;generalize Cr:World.alloc _ _=W at*;have nO:=AB h0 hb2;have hOW:=hO.kp hb2;replace g0:=AA hb2 g0;replace g1:=AA hb2 g1;replace g2:=AA hb2 g2;replace g3:=AA hb2 g3;replace g4:=AA hb2 g4;obtain⟨v0,v1⟩:=hV.c2;have x0:=hX.c 0 _ rfl;have o0:=hOW.sl;have o1:=hOW.c;go_wp2;go_quiet (fail);go_wp2;generalize hW2:W.drewN _=W2;have hq2:AA6 W W2:=hW2▸Al _;have h02:=AB nO hq2;replace hb2:=hb2.trans (hq2.mono hb2.size);replace g0:=AA hq2 g0;replace g1:=AA hq2 g1;replace g2:=AA hq2 g2;replace g3:=AA hq2 g3;replace g4:=AA hq2 g4;replace v1:=AA hq2 v1;replace x0:=AA hq2 x0;replace o0:=AA hq2 o0;replace o1:=AA hq2 o1;have hdr:=(Below.refl W2.heap.size W2).drew;refine AV (S:=Ck W2 19 20 [.string ⟨#[]⟩,.slice none 0 0] [.string cn,.slice pu nf ku]) rfl (by kernel_rfl) (Ck.start hdr) ?_;iterate 15((apply AU.z rfl;intro V L w1 _ _ _ z hK;((replace g0:=AA z.s.1 g0;replace g1:=AA z.s.1 g1;replace g2:=AA z.s.1 g2;replace g3:=AA z.s.1 g3;replace g4:=AA z.s.1 g4;replace o0:=AA z.s.1 o0;replace v1:=AA z.s.1 v1;replace o1:=AA z.s.1 o1));go_simp;exact hK (z.s.keep rfl rfl);intros;rfl))
 (apply AU.y rfl;intro V L w1 _ _ z hK;go_simp;go_wp2_with(((refine(hL _ (AB h02 z.s.1)).mono ?_;rintro e w2 ⟨hb,rfl⟩)));(try simp only[pE]);exact hK.out _ (z.s.call hb rfl rfl);intros;rfl);iterate 3((apply AU.z rfl;intro V L w1 _ _ _ z hK;go_simp;exact hK (z.s.keep rfl rfl);intros;rfl))
 (apply AU.w rfl;intro V L w1 _ _ _ z hK;go_simp;exact hK rfl (z.s.made rfl z.i _);(try simp only[pE]));(apply AU.val undef (fun _=>rfl);intro V L w1 _ _ hS hi hR' hd hK;have hl:=hd.out (19) (by kernel_rfl);obtain⟨pb,hp,hp0,hp1,hx⟩:=hS.at hl hi;have k0:=hx.c 0 _ rfl;have k1:=hx.c 1 _ rfl;have f0:=hx.f 0 (by decide);have f1:=hx.f 1 (by decide);go_simp;refine hK.out _ _ (by simp only[hp];rfl) (hS.fill hl hp hp0 (by simpa using hp1) ((hS.1.setCell hp0 _).setCell hp0 _) ((hx.set (i:=0) (by simp) _).set (i:=1) (by simp) _) rfl);simp only[Act.put]);(apply AU.z rfl;intro V L w1 _ _ _ z hK;go_simp;exact hK (z.s.keep rfl rfl);intros;rfl);refine AU.nil fun V w5 hS=>?_;obtain⟨pb,hpb,hp0,hp1,hxb⟩:=hS.done rfl rfl;have hb5:=hS.1;simp only[hpb];have Ku:=AB h02 hb5;have hx5:=AA hb5 x0;have TA:=hI _ Ku hx5;have b1:=hxb.c 1 _ rfl;have hbw:=hb2.trans (hb5.mono hb2.size);go_wp2_with fail;refine TA.mono ?_;rintro e w6 ⟨rfl,hb6⟩;go_wp2;go_ret;exact⟨rfl,hbw.trans (hb6.mono hbw.size)⟩
theorem Am.heapC(h:Am w B N M k s j):∃ph ch,w.cell? ⟨M,10,none⟩=some (.slice ph s.heap.length ch):=by
 have s0:=h.st;unfold Eh at s0;have s1:=s0.nth 4 rfl (n:=5) (by simp[Dt.DF,Dt.wd,C9,dN,dS]);obtain⟨vt,xs,ct,hx,pt,kt,rfl⟩:=s1.owns;grind
theorem LK{rest:List Lv}{x:Lv}{i:Is}{p1 p2 p3:Option Addr}{c1 l2 c2 l3 c3:Nat}(h:Qd w0 w B N M k s j rest x i p1 c1){a:Ag}{r:List Ag}(has:i.as=a::r)(hz:(Ar x.vars a).2=0)(hn:s.heap.length<=1000000):Calls prog 79 #[.pointer (some ⟨M,0,none⟩),.agg #[.int .i64 i.op,.string i.d,.string i.n,.slice p1 i.as.length c1,.slice p2 l2 c2,.slice p3 l3 c3]] w (BI B M k (Gd s 1) j w):=by
 obtain⟨h0,hA,hM,hfr,hl,hx,hin,hk⟩:=h;obtain⟨pa,ca,hpa,-,-,hA⟩:=hA;have hka:NZ a:=hk a (by rw[has];simp);obtain⟨aa,e1,d0,⟨d1,-⟩,d2⟩:=hA 0 a (by rw[has];rfl);obtain⟨nl,hnl⟩:∃nl,i.as.length=nl+1:=⟨r.length,by rw[has];rfl⟩;rw[hnl]at hpa hin⊢;obtain⟨rfl,rfl⟩:p1=pa/\c1=ca:=by simpa using hpa
 subst e1;replace d0:w0.cell? aa=some (.int .i64 a.k):=d0;replace d1:w0.cell? ⟨aa.block,aa.off+1,none⟩=some (.string a.s):=d1;replace d2:w0.cell? ⟨aa.block,aa.off+2,none⟩=some (.int .i64 a.n):=d2;generalize i.d=dst at*;generalize i.n=nm at*;generalize i.op=op at*;obtain⟨hI,hb1⟩:=BR (w:=w) (c1:=[.int .i64 op,.string dst,.string nm,.slice (some aa) (nl+1) c1,.slice p2 l2 c2,.slice p3 l3 c3]) (t1:=133) (AL);have Df:N<=w.heap.size:=hM.own.sz;have hBN:B<=N:=by have:=hM.own.ge;have:=hM.own.lt;omega
 go_enter func79,ntmps79;generalize Cr:w.alloc (.cells #[.int .i64 op,.string dst,.string nm,.slice (some aa) (nl+1) c1,.slice p2 l2 c2,.slice p3 l3 c3] 133)=W at*;replace hM:=hM.kp (hb1.mono Df);obtain⟨FB,cap,bm,hT,-⟩:=hM.top hfr hl;have hw0:=AB h0 hb1;replace d0:=AA hw0 d0;replace d1:=AA hw0 d1;replace d2:=AA hw0 d2;have iI:=hI.lt;have hva:=Cm hT a hka;obtain⟨-,-,i2,i3⟩:=hI.c4;generalize Yt:Ar x.vars a=ua at*;replace hz:=hidden hz;go_wp2_with fail;refine hva.mono ?_;rintro e w2 ⟨rfl,hb2⟩;replace i2:=AA hb2 i2;obtain⟨hU,hb4⟩:=BR (w:=w2) (c1:=[.string ua.1,.int .i64 ua.2]) (t1:=34) (AL);replace i2:=AA hb4 i2;obtain⟨u0,u1⟩:=hU.c2;go_wp2_with fail;generalize hW3:w2.alloc (.cells #[.string ua.1,.int .i64 ua.2] 34)=W3 at*;have hb5:=AB hb2 hb4;obtain⟨ph,ch,IX⟩:=hM.heapC;replace IX:=AA hb5 IX;replace hM:=hM.kp (hb5.mono hM.own.sz);have hbW:Below B w W3:=(hb1.mono (by omega)).trans (hb5.mono (AX hBN (AX Df hb1.size)));refine(fE M ua.1 nm ua.2 (by rw[hz.out];decide)).mono ?_;rintro e w4 ⟨rfl,hb6⟩;replace IX:=AA hb6 IX;replace u0:=AA hb6 u0;replace u1:=AA hb6 u1;rw[hz.out]at u1;replace hM:=hM.kp (hb6.mono hM.own.sz);replace hbW:Below B w w4:=hbW.trans (hb6.mono (AX hBN (AX Df hbW.size)));go_wp2_with fail;refine AV (S:=Ck w4 11 12 [.string ⟨#[]⟩,.int .i64 0] [.string .empty,.int .i64 0]) rfl (by kernel_rfl) (Ck.start Ac) ?_;iterate 7((apply AU.z rfl;intro V L w1 _ _ _ z hK;((replace IX:=AA z.s.1 IX;replace u0:=AA z.s.1 u0;replace u1:=AA z.s.1 u1));go_simp;exact hK (z.s.keep rfl rfl);intros;rfl))
 (apply AU.y rfl;intro V L w1 _ _ z hK;go_simp;go_wp2_with(((refine(kU ph s.heap.length ch (by omega) ua.1 (-1) _).mono ?_;rintro e w2 ⟨rfl,hb⟩)));(try simp only[pE]);exact hK.out _ (z.s.call hb rfl rfl);intros;rfl);iterate 3((apply AU.z rfl;intro V L w1 _ _ _ z hK;go_simp;exact hK (z.s.keep rfl rfl);intros;rfl))
 (apply AU.w rfl;intro V L w1 _ _ _ z hK;go_simp;exact hK rfl (z.s.made rfl z.i _);(try simp only[pE]));(apply AU.val undef (fun _=>rfl);intro V L w1 _ _ hS hi hR' hd hK;have hl:=hd.out (11) (by kernel_rfl);obtain⟨pb,hp,hp0,hp1,hx⟩:=hS.at hl hi;have k0:=hx.c 0 _ rfl;have k1:=hx.c 1 _ rfl;have f0:=hx.f 0 (by decide);have f1:=hx.f 1 (by decide);go_simp;refine hK.out _ _ (by simp only[hp];rfl) (hS.fill hl hp hp0 (by simpa using hp1) ((hS.1.setCell hp0 _).setCell hp0 _) ((hx.set (i:=0) (by simp) _).set (i:=1) (by simp) _) rfl);simp only[Act.put]);(apply AU.z rfl;intro V L w1 _ _ _ z hK;go_simp;exact hK (z.s.keep rfl rfl);intros;rfl);refine AU.nil fun V w5 hS=>?_;obtain⟨pb,hpb,hp0,hp1,hxb⟩:=hS.done rfl rfl;have hb5:=hS.1;simp only[hpb];replace hM:=hM.kp (hb5.mono hM.own.sz);replace hbW:Below B w w5:=hbW.trans (hb5.mono (AX hBN (AX Df hbW.size)));have htr:=Mg hM 1;go_wp2_with fail;refine htr.mono ?_;rintro e w2 ⟨rfl,hm,hb⟩;go_wp2;go_end0;exact⟨rfl,⟨_,hm⟩,hbW.trans hb⟩
theorem GR{o:Vu}{r:Nat×ByteArray×List Vu×Nat×Vu}(h:fieldAt p s o x=some r):∃ob cl,o.1=E9/\o.2=(r.1:Int)+1/\s.heap[r.1]? =some ob/\ob.c=r.2.1/\ob.vs=r.2.2.1/\Ai Cl.n ob.c p.cs=some cl/\FK x cl.fs=some r.2.2.2.1/\ob.vs[r.2.2.2.1]? =some r.2.2.2.2:=by
 unfold fieldAt at h;split at h
 ·rename_i h1
  split at h
  ·cases h
  ·rename_i ob h2
   split at h
   ·cases h
   ·rename_i c h3
    split at h
    ·cases h
    ·rename_i k h4
     split at h
     ·cases h
     ·rename_i v h5
      injection h with h;subst h;exact⟨ob,c,h1.1,by dsimp only;omega,h2,rfl,rfl,h3,h4,h5⟩
 ·cases h
theorem Sv{rest:List Lv}{x:Lv}{i:Is}{p1 p2 p3:Option Addr}{c1 l2 c2 l3 c3:Nat}(h:Qd w0 w B N M k s j rest x i p1 c1){a:Ag}{r:List Ag}(has:i.as=a::r)(hop:i.op≠27)(hp:Cj w0 (.agg #[k.u0,k.u1,k.u2,k.u3,k.u4]) p k.u1 k.u2 k.u3 k.u4){fr:Nat×ByteArray×List Vu×Nat×Vu}(hf:fieldAt p s (Ar x.vars a) i.n=some fr)(hn:s.heap.length<=1000000)(hvl:fr.2.2.1.length<=1000000):Calls prog 79 #[.pointer (some ⟨M,0,none⟩),.agg #[.int .i64 i.op,.string i.d,.string i.n,.slice p1 i.as.length c1,.slice p2 l2 c2,.slice p3 l3 c3]] w (BI B M k (BP s rest x i.d fr.2.2.2.2) j w):=by
 obtain⟨h0,hA,hM,hfr,hl,hx,hin,hk⟩:=h;obtain⟨pa,ca,hpa,-,-,hA⟩:=hA;have hka:NZ a:=hk a (by rw[has];simp);obtain⟨aa,e1,d0,⟨d1,-⟩,d2⟩:=hA 0 a (by rw[has];rfl);obtain⟨nl,hnl⟩:∃nl,i.as.length=nl+1:=⟨r.length,by rw[has];rfl⟩;rw[hnl]at hpa hin⊢;obtain⟨rfl,rfl⟩:p1=pa/\c1=ca:=by simpa using hpa
 subst e1;replace d0:w0.cell? aa=some (.int .i64 a.k):=d0;replace d1:w0.cell? ⟨aa.block,aa.off+1,none⟩=some (.string a.s):=d1;replace d2:w0.cell? ⟨aa.block,aa.off+2,none⟩=some (.int .i64 a.n):=d2;generalize i.d=dst at*;generalize i.n=nm at*;generalize i.op=op at*;obtain⟨hI,hb1⟩:=BR (w:=w) (c1:=[.int .i64 op,.string dst,.string nm,.slice (some aa) (nl+1) c1,.slice p2 l2 c2,.slice p3 l3 c3]) (t1:=133) (AL);have Df:N<=w.heap.size:=hM.own.sz;have hBN:B<=N:=by have:=hM.own.ge;have:=hM.own.lt;omega
 go_enter func79,ntmps79;generalize Cr:w.alloc (.cells #[.int .i64 op,.string dst,.string nm,.slice (some aa) (nl+1) c1,.slice p2 l2 c2,.slice p3 l3 c3] 133)=W at*;replace hM:=hM.kp (hb1.mono Df);obtain⟨FB,cap,bm,hT,-⟩:=hM.top hfr hl;have hw0:=AB h0 hb1;replace d0:=AA hw0 d0;replace d1:=AA hw0 d1;replace d2:=AA hw0 d2;have hva:=Cm hT a hka;obtain⟨i0,i1,i2,i3,i4,i5⟩:=hI.c6;generalize Yt:Ar x.vars a=ua at*;obtain⟨ob,cl,ho1,ho2,Nc,hoc,hov,hcl,hix,hu⟩:=GR hf;obtain⟨q,c,vs,ix,u⟩:=fr;dsimp only at ho2 Nc hoc hov hix hu hvl;obtain⟨h1,h2,hh,rfl⟩:=Gj Nc;obtain⟨v1,v2,hvv,rfl⟩:=Gj hu;have ADd:ob.vs.length<=1000000:=by rw[hov];exact hvl
 have qd:v1.length<ob.vs.length:=by rw[hvv];simp
 obtain⟨ut,un⟩:=ua;dsimp only at ho1 ho2;subst ho1 ho2;go_wp2_with fail;refine hva.mono ?_;rintro e w2 ⟨rfl,hb2⟩;replace i0:=AA hb2 i0;replace i1:=AA hb2 i1;replace i2:=AA hb2 i2;replace i3:=AA hb2 i3;replace i4:=AA hb2 i4;replace i5:=AA hb2 i5;obtain⟨hU,hb4⟩:=BR (w:=w2) (c1:=[.string E9,.int .i64 ((h1.length:Int)+1)]) (t1:=34) (AL);replace i0:=AA hb4 i0;replace i1:=AA hb4 i1;replace i2:=AA hb4 i2;replace i3:=AA hb4 i3;replace i4:=AA hb4 i4;replace i5:=AA hb4 i5;obtain⟨u0,u1⟩:=hU.c2;go_wp2_with fail;generalize hW3:w2.alloc (.cells #[.string E9,.int .i64 ((h1.length:Int)+1)] 34)=W3 at*;have hb5:=AB hb2 hb4;replace hM:=hM.kp (hb5.mono hM.own.sz);obtain⟨HB,ch,VB,cv,hO,e0,e1,-⟩:=hM.obj hh hvv (by omega) (by omega);clear hh hvv;have nO:=AB hw0 hb5;have hbW:Below B w W3:=(hb1.mono (by omega)).trans (hb5.mono (AX hBN (AX Df hb1.size)));clear hb4 hb2 hb5 hT hI hb1 Cr hW3 d0 d1 d2 hw0;have hfa:=R5 (x:=nm) nO hM hp hO hcl;rw[hix]at hfa;have hidx:EJ 0 (some v1.length)=(v1.length:Int):=by unfold EJ;simp
 rw[hidx]at hfa;refine hfa.mono ?_;rintro e w4 ⟨rfl,hb6⟩;replace hO:=hO.kp hb6;replace e0:=AA hb6 e0;replace e1:=AA hb6 e1;have IX:=hO.sl;replace i0:=AA hb6 i0;replace i1:=AA hb6 i1;replace i2:=AA hb6 i2;replace i3:=AA hb6 i3;replace i4:=AA hb6 i4;replace i5:=AA hb6 i5;replace u0:=AA hb6 u0;replace u1:=AA hb6 u1;replace hM:=hM.kp (hb6.mono hM.own.sz);replace hbW:Below B w w4:=hbW.trans (hb6.mono (AX hBN (AX Df hbW.size)));go_wp2_with fail;refine AV (S:=Ck w4 11 12 [.string ⟨#[]⟩,.int .i64 0] [.string u.1,.int .i64 u.2]) rfl (by kernel_rfl) (Ck.start Ac) ?_;iterate 7((apply AU.z rfl;intro V L w1 _ _ _ z hK;((replace IX:=AA z.s.1 IX;replace u0:=AA z.s.1 u0;replace u1:=AA z.s.1 u1));go_simp;exact hK (z.s.keep rfl rfl);intros;rfl))
 (apply AU.y rfl;intro V L w1 _ _ z hK;go_simp;go_wp2_with(((refine(Vy (hO.kp z.s.1) qd (AA z.s.1 e0) (AA z.s.1 e1)).mono ?_;rintro e w2 ⟨rfl,hb⟩)));(try simp only[pE]);exact hK.out _ (z.s.call hb rfl rfl);intros;rfl);iterate 3((apply AU.z rfl;intro V L w1 _ _ _ z hK;go_simp;exact hK (z.s.keep rfl rfl);intros;rfl))
 (apply AU.w rfl;intro V L w1 _ _ _ z hK;go_simp;exact hK rfl (z.s.made rfl z.i _);(try simp only[pE]));(apply AU.val undef (fun _=>rfl);intro V L w1 _ _ hS hi hR' hd hK;have hl:=hd.out (11) (by kernel_rfl);obtain⟨pb,hp,hp0,hp1,hx⟩:=hS.at hl hi;have k0:=hx.c 0 _ rfl;have k1:=hx.c 1 _ rfl;have f0:=hx.f 0 (by decide);have f1:=hx.f 1 (by decide);go_simp;refine hK.out _ _ (by simp only[hp];rfl) (hS.fill hl hp hp0 (by simpa using hp1) ((hS.1.setCell hp0 _).setCell hp0 _) ((hx.set (i:=0) (by simp) _).set (i:=1) (by simp) _) rfl);simp only[Act.put]);(apply AU.z rfl;intro V L w1 _ _ _ z hK;go_simp;exact hK (z.s.keep rfl rfl);intros;rfl);refine AU.nil fun V w5 hS=>?_;obtain⟨pb,hpb,hp0,hp1,hxb⟩:=hS.done rfl rfl;have hb5:=hS.1;simp only[hpb];replace hM:=hM.kp (hb5.mono hM.own.sz);replace hbW:Below B w w5:=hbW.trans (hb5.mono (AX hBN (AX Df hbW.size)));replace i0:=AA hb5 i0;replace i1:=AA hb5 i1;replace i2:=AA hb5 i2;replace i3:=AA hb5 i3;replace i4:=AA hb5 i4;replace i5:=AA hb5 i5;obtain⟨y0,y1⟩:=hxb.c2;have hop':decide (op=27)=false:=decide_eq_false hop;have hset:=Co hM hfr hl hx op dst nm (some aa) p2 p3 (nl+1) l2 l3 c1 c2 c3 u;go_wp2_with fail;refine hset.mono ?_;rintro e w2 ⟨rfl,hm,hb⟩;go_wp2;go_end0;exact⟨rfl,⟨_,hm⟩,hbW.trans hb⟩
end Go.Proofs.YtlffomedflegdaaGreatDoor
