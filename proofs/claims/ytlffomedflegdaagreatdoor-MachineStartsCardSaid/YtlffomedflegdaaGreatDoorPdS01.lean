/- Part S01 of the proof: Ud, Ue, Uf. -/
import Derived.Maps.Range
import Derived.Test.YtlffomedflegdaaGreatDoorPd22
import Derived.Test.YtlffomedflegdaaGreatDoorPd23
set_option linter.all false
set_option maxHeartbeats 16000000
set_option maxRecDepth 100000
namespace Go.Proofs.YtlffomedflegdaaGreatDoor
open Go.Proofs.Tryz
open Go.RowKit
open Go.Value renaming int→cI,string→cS,slice→cY,bool→cE
open Go.IntKind renaming i64→cJ
open Option renaming some→cP,none→cX
open Bool renaming false→cA,true→cC
variable {B g:Nat}{F:List Nat}{s:St}{w:World}
section
open Go.MapKept Go.ChangeMaps
def ItS(w:World)(b r:Nat)(m:Vm)(k:Nat):Prop:=
 ∃es clock seen,w.heap[b]? =cP (.map es clock)/\Stamped es clock/\es.toList.map (λe=>(e.key,e.val))=m.map Eu/\w.heap[r]? =cP (.mapIter (cP b) clock seen clock)/\(leftOf es seen).size=k
section
variable {w w' : World} {b r k : Nat} {m : Vm}
theorem ItS.left(h:ItS w b r m k):w.rangeLeft b r=k:=by
 obtain⟨es,clock,seen,hb,-,-,hr,hc⟩:=h;simp only[World.rangeLeft,hb,hr];exact hc
def ItS.kp(h:ItS w b r m k)(hb:AA6 w w'):ItS w' b r m k:=by
 obtain⟨es,clock,seen,h1,h2,h3,h4,h5⟩:=h;exact⟨es,clock,seen,(hb.block b (Array.getElem?_eq_some_iff.1 h1).1).trans h1,h2,h3,(hb.block r (Array.getElem?_eq_some_iff.1 h4).1).trans h4,h5⟩
theorem ABU{o o':Obj}(hr:w.heap[r]? =cP o):Below r w (setBlock w r o'):=by
 have hlt:r<w.heap.size:=(Array.getElem?_eq_some_iff.1 hr).1;refine⟨rfl,rfl,rfl,by simp[setBlock],λi hi=>?_⟩;simp only[setBlock];rw[Array.getElem?_setIfInBounds];simp[Nat.ne_of_gt hi]
end
section
variable {P : Program} {w : World} {ops : Array Oper} {rest : List Oper} {o : Oper} {a : Act} {Q : Exit -> Act -> World -> Prop} {b r k : Nat} {m : Vm}
def ABV(hg:o.guard=cX)(x:Operand)(t kt et:TypeId)(hop:o.op=Op.range t x)(ht:P.underlying t=cP (.map kt et))(hm:a.eval x=.map (cP b))(hown:CQ w b m)(hK:∀w',ItS w' b w.heap.size m m.length->AA6 w w'->wpList P ops Q rest (a.put o.dst (.pointer (cP ⟨w.heap.size,0,cX⟩))) w'):wpList P ops Q (o::rest) a w:=by
 refine wpList_plain hg λK' hK'=>?_;obtain⟨es,clock,hb,hs,he⟩:=hown;have hrun:=run_range_map (P:=P) w t kt et b es clock ht hb;unfold Oper.wp;simp[execOp,hop,hm,hrun,Result.andThen];refine hK' _ _ (hK _ ⟨es,clock,#[],?_,hs,he,heap_alloc_new _ _,?_⟩ (AJ _ _))
 ·exact((AJ w _).block b (Array.getElem?_eq_some_iff.1 hb).1).trans hb
 ·have h1:(leftOf es #[]).size=es.toList.length:=by simp[leftOf]
  have h2:=congrArg List.length he;rw[List.length_map,List.length_map]at h2;rw[h1,h2]
def ABW(hg:o.guard=cX)(it:Operand)(hop:o.op=Op.next it cA)(hit:a.eval it=.pointer (cP ⟨r,0,cX⟩))(h:ItS w b r m k)(hne:b<r)(hDone:k=0->wpList P ops Q rest (a.put o.dst (.tuple #[cE cA])) w)(hMore:∀(x:ByteArray) (v:Vu) (w':World) (k':Nat),(x,v)∈m->ItS w' b r m k'->k'<k->Below r w w'->(Instr.entry (.pointer (cP ⟨r,0,cX⟩))).run P w'=.ok (.tuple #[cS x,Kn v]) w'->wpList P ops Q rest (a.put o.dst (.tuple #[cE cC,cS x,Kn v])) w'):wpList P ops Q (o::rest) a w:=by
 refine wpList_plain hg λK' hK'=>?_;obtain⟨es,clock,seen,hb,hs,he,hr,hc⟩:=h;obtain⟨s1,s2,-⟩:=(stamped_iff es clock).1 hs;unfold Oper.wp;rcases run_next_at (P:=P) w o.type r b clock clock seen es clock hr hb s1 (AQ)with⟨h0,hrun⟩|⟨e,hem,w1,hw1,hrun⟩
 ·simp[execOp,hop,hit,hrun,Result.andThen];exact hK' _ _ (hDone (by omega))
 ·have hel:e∈es.toList:=(mem_left hem).1;obtain⟨⟨x,v⟩,hxm,hxv⟩:∃y∈m,Eu y=(e.key,e.val):=by
   have:(e.key,e.val)∈m.map Eu:=(by rw[<-he];exact List.mem_map.2 ⟨e,hel,rfl⟩);exact List.mem_map.1 this
  obtain⟨ek,ev⟩:=Prod.mk.inj hxv;have hr1:w1.heap[r]? =cP (.mapIter (cP b) clock seen clock):=by rcases hw1 with rfl|rfl<;>exact hr
  have hb1:w1.heap[b]? =cP (.map es clock):=by rcases hw1 with rfl|rfl<;>exact hb
  have hB:Below r w w1:=by
   rcases hw1 with rfl|rfl
   ·exact AL
   ·exact Ac
  have hlt:r<w1.heap.size:=(Array.getElem?_eq_some_iff.1 hr1).1;have hr2:(setBlock w1 r (.mapIter (cP b) clock (seen.push e.born) clock)).heap[r]? =cP (.mapIter (cP b) clock (seen.push e.born) clock):=by
   simp[setBlock,hlt]
  have hb2:(setBlock w1 r (.mapIter (cP b) clock (seen.push e.born) clock)).heap[b]? =cP (.map es clock):=by
   rw[(ABU hr1).block b hne];exact hb1
  have hen:=run_entry_at (P:=P) (setBlock w1 r (.mapIter (cP b) clock (seen.push e.born) clock)) r b clock seen es clock e hr2 hb2 hel s2;simp[execOp,hop,hit,hrun,Result.andThen];rw[<-ek,<-ev]at hen⊢;exact hK' _ _ (hMore x v _ _ hxm ⟨es,clock,seen.push e.born,hb2,hs,he,hr2,rfl⟩ (by rw[<-hc];exact left_shrinks es seen e hem) (hB.trans (ABU hr1)) hen)
end
end
section
open Go.MapKept Word Num Dp
def ACF(w:World)(a:Addr)(x:Lv):Prop:=w.cell? a=cP (cS x.f)/\At w a 1 (cS x.b)/\At w a 2 (cI cJ (x.i:Int))/\∃b,At w a 3 (.map (cP b))/\CQ w b x.vars
def CQ.len{b:Nat}{m:Vm}(h:CQ w b m):∃es clock,w.heap[b]? =cP (.map es clock)/\es.size=m.length:=by
 obtain⟨es,clock,h1,-,h3⟩:=h;refine⟨es,clock,h1,?_⟩;have:=congrArg List.length h3;simpa using this
theorem CQ.at{b:Nat}{m:Vm}(h:CQ w b m){x:ByteArray}{v:Vu}(hx:(x,v)∈m):getM m x=v/\Wu m x=cC:=by
 obtain⟨es,clock,-,h2,h3⟩:=h;obtain⟨j,hj,ej⟩:=List.mem_iff_getElem.1 hx;refine V6 (j:=j) ?_ (by rw[List.getElem?_eq_getElem hj,ej]);have hn:=((stamped_iff es clock).1 h2).2.2;have h4:(es.toList.map (·.key))=m.map (λy=> cS y.1):=by
  have:=congrArg (List.map Prod.fst) h3;simpa[List.map_map,Function.comp_def,Eu]using this
 have h5:(es.toList.map (·.key)).Nodup:=by rw[List.Nodup,List.pairwise_map];exact hn
 rw[h4]at h5;rw[List.Nodup,List.pairwise_map]at h5⊢;exact h5.imp λh e=>h (by rw[e])
theorem ACS{w0:World}(h0:AA6 w0 w){t:St}{fr hp gl tr mk fr' hp' TV TI mk':Value}(hs:ABu w0 s hp gl tr mk)(hf:Row ACF 4 w0 fr s.frames)(ht:ABu w0 t hp' TV TI mk')(hf':Row ACF 4 w0 fr' t.frames):Calls prog 17 #[Ko s fr hp gl tr mk,Ko t fr' hp' TV TI mk'] w λe w'=>ABa (s=t) e/\AA6 w w':=by
 have hS:=λ(W:World) (hb:AA6 w W)=>ACH (AB h0 hb) hs ht;obtain⟨p0,c0,rfl,-,hn,hl⟩:=hf;obtain⟨q0,d0,rfl,-,hn',hl'⟩:=hf';obtain⟨p1,c1,rfl⟩:=hs.hp.slice;obtain⟨p2,c2,rfl⟩:=hs.gl.slice;obtain⟨p3,c3,rfl⟩:=hs.tr.slice;obtain⟨p4,c4,rfl⟩:=hs.mk'.slice;obtain⟨q1,d1,rfl⟩:=ht.hp.slice;obtain⟨q2,d2,rfl⟩:=ht.gl.slice;obtain⟨q3,d3,rfl⟩:=ht.tr.slice;obtain⟨q4,d4,rfl⟩:=ht.mk'.slice;clear hs ht;have hT1:=underlying69;have vM:=underlying9;go_enter func17,ntmps17;go_upto_region 1 with fail;generalize Cr:World.alloc (World.alloc _ _) _=W at*;obtain⟨hP,hA,hb1⟩:=ABY Cr;clear Cr;obtain⟨x0,x1,x2,x3,x4,x5,x6,x7,x8,x9,x10,x11,x12⟩:=hP.c13;obtain⟨y0,y1,y2,y3,y4,y5,y6,y7,y8,y9,y10,y11,y12⟩:=hA.c13;cases hlen:((s.frames.length:Int) !=(t.frames.length:Int));rotate_left
 ·have hne:s≠t:=λe=>by rw[e]at hlen;simp at hlen
  replace hne:=Wx hne;go_wp2;go_ret;exact⟨vZ hne.out,hb1⟩
 have hle:s.frames.length=t.frames.length:=by
  have:(s.frames.length:Int)=t.frames.length:=by simpa using hlen
  omega
 replace hle:=Wx hle;go_upto_region 4 with fail;generalize Cr:World.alloc W _=W2 at*;obtain⟨J8,hC⟩:=ng Cr;have hb2:=AB hb1 J8;have hP2:=hP.nx J8;have hA2:=hA.nx J8;have hcl:=hb1.size;have hpl:=hP.lt;have hal:=hA.lt;obtain⟨cb,hcb⟩:∃cb,W.heap.size=cb:=⟨_,rfl⟩;rw[hcb]at hC hcl hpl hal;simp only[hcb];clear Cr J8 hcb hP hA hb1 x0 x1 x2 x3 x4 x5 x6 x7 x8 x9 x10 x11 x12 y0 y1 y2 y3 y4 y5 y6 y7 y8 y9 y10 y11 y12;have f4:=hC.f 4 (by simp);have e4:=hC.c 4 _ rfl;go_upto_region 5 with fail;replace hb2:=hb2.setCell (p:=⟨cb,4,cX⟩) hcl (cY cX 0 0);replace hC:=hC.set (i:=4) (by simp) (cY cX 0 0);simp only[List.set_cons_succ,List.set_cons_zero]at hC;replace hP2:=hP2.far (q:=⟨cb,4,cX⟩) (Nat.ne_of_gt hpl) (cY cX 0 0);replace hA2:=hA2.far (q:=⟨cb,4,cX⟩) (Nat.ne_of_gt hal) (cY cX 0 0);generalize Cr:World.setCell W2 _ _=W3 at*;clear Cr f4 e4;obtain⟨x0,x1,x2,x3,x4,x5,x6,x7,x8,x9,x10,x11,x12⟩:=hP2.c13;go_upto_region 6 with fail;generalize Cr:World.alloc W3 _=W4 at*;obtain⟨J8,hD⟩:=ng Cr;have hb3:=AB hb2 J8;have hP3:=hP2.nx J8;have hA3:=hA2.nx J8;have hC3:=hC.nx J8;have hdl:=hb2.size;have hcd:=hC.lt;obtain⟨db,hdb⟩:∃db,W3.heap.size=db:=⟨_,rfl⟩;rw[hdb]at hD hdl hcd;simp only[hdb];clear Cr J8 hdb hP2 hA2 hC hb2 x0 x1 x2 x3 x4 x5 x6 x7 x8 x9 x10 x11 x12;have f4:=hD.f 4 (by simp);have e4:=hD.c 4 _ rfl;go_upto_region 7 with fail;replace hb3:=hb3.setCell (p:=⟨db,4,cX⟩) hdl (cY cX 0 0);replace hD:=hD.set (i:=4) (by simp) (cY cX 0 0);simp only[List.set_cons_succ,List.set_cons_zero]at hD;replace hC3:=hC3.far (q:=⟨db,4,cX⟩) (Nat.ne_of_gt hcd) (cY cX 0 0);replace hP3:=hP3.far (q:=⟨db,4,cX⟩) (by dsimp only;omega) (cY cX 0 0);replace hA3:=hA3.far (q:=⟨db,4,cX⟩) (by dsimp only;omega) (cY cX 0 0);generalize Cr:World.setCell W4 _ _=W5 at*;clear Cr f4 e4;obtain⟨x0,x1,x2,x3,x4,x5,x6,x7,x8,x9,x10,x11,x12⟩:=hD.c13;obtain⟨y0,y1,y2,y3,y4,y5,y6,y7,y8,y9,y10,y11,y12⟩:=hC3.c13;go_wp2_with fail;refine(hS _ hb3).mono ?_;rintro e w6 ⟨⟨R,rfl,hR⟩,hb6⟩;clear x0 x1 x2 x3 x4 x5 x6 x7 x8 x9 x10 x11 x12 y0 y1 y2 y3 y4 y5 y6 y7 y8 y9 y10 y11 y12 hD hC3 hS;replace hP3:=hP3.nx hb6;replace hA3:=hA3.nx hb6;replace hb3:=AB hb3 hb6;clear hb6;cases R
 ·have hne:s≠t:=λe=>absurd (hR (by subst e;rfl)) (by decide);replace hne:=Wx hne;clear hR;go_wp2;go_ret;exact⟨vZ hne.out,hb3⟩
 clear hR;have x4:=hP3.c 4 _ rfl;have y4:=hA3.c 4 _ rfl;go_wp2;go_loopw[7] (λi wr=>∃q:Nat,q<=s.frames.length/\i=cI cJ (q:Int)/\AA6 w6 wr) (λi _=>s.frames.length-(intOf i).toNat);exact⟨0,AY,rfl,AL⟩;obtain⟨q,hq,rfl,hb⟩:=hrel;have x4:=AA hb x4;have y4:=AA hb y4;have hbb:=AB hb3 hb;by_cases hend:q=s.frames.length
 ·subst hend;go_wp2;go_ret;exact⟨ABi,hbb⟩
 ·have hlt:q<s.frames.length:=by omega
  have A8:(q:Int)<s.frames.length:=by omega
  have hlu:q<t.frames.length:=by have:=hle.out;omega
  have ALy:(q:Int)<t.frames.length:=by omega
  obtain⟨a,rfl,k0,k1,k2,bx,k3,hmx⟩:=hl q s.frames[q] (by simp[hlt]);obtain⟨a',rfl,g0,g1,g2,bY,g3,hmy⟩:=hl' q t.frames[q] (by simp[hlu]);have h1:=AB h0 hbb;replace k0:=AA h1 k0;replace k1:=AA h1 k1;replace k2:=AA h1 k2;replace k3:=AA h1 k3;replace g0:=AA h1 g0;replace g1:=AA h1 g1;replace g2:=AA h1 g2;replace g3:=AA h1 g3;replace hmx:=hmx.other (h1.block bx hmx.lt);replace hmy:=hmy.other (h1.block bY hmy.lt);have hxy:s=t->s.frames[q]=t.frames[q]:=λe=>by subst e;rfl
  replace hxy:=Wx hxy;generalize s.frames[q]=x at*;generalize t.frames[q]=y at*;obtain⟨wo,rfl⟩:=again wr;have J8:=AJ wo (.cells #[cS x.f,cS x.b,cI cJ x.i,.map (cP bx)] 84);replace y4:=AA J8 y4;replace g0:=AA J8 g0;replace g1:=AA J8 g1;replace g2:=AA J8 g2;replace g3:=AA J8 g3;clear J8;go_upto_region 14 with fail;clear x4 y4 k0 k1 k2 k3 g0 g1 g2 g3;generalize Cr:World.alloc (World.alloc wo _) _=W7 at*;obtain⟨hX,hY,hb4⟩:=ABY Cr;clear Cr;obtain⟨x0,x1,x2,x3⟩:=hX.c4;obtain⟨y0,y1,y2,y3⟩:=hY.c4;have Qg:=AB hbb hb4;replace hmx:=hmx.other (hb4.block bx hmx.lt);replace hmy:=hmy.other (hb4.block bY hmy.lt);cases e1:(x.f.toList==y.f.toList)
  ·have hne:s≠t:=λe=>(by rw[hxy.out e]at e1;simp at e1);replace hne:=Wx hne;go_wp2;go_ret;exact⟨vZ hne.out,Qg⟩
  cases e2:(x.b.toList==y.b.toList)
  ·have hne:s≠t:=λe=>(by rw[hxy.out e]at e2;simp at e2);replace hne:=Wx hne;go_wp2;go_ret;exact⟨vZ hne.out,Qg⟩
  cases e3:((x.i:Int) !=(y.i:Int));rotate_left
  ·have hne:s≠t:=λe=>(by rw[hxy.out e]at e3;simp at e3);replace hne:=Wx hne;go_wp2;go_ret;exact⟨vZ hne.out,Qg⟩
  obtain⟨es,ck,pO,hz1⟩:=hmx.len;obtain⟨es',ck',ACj,hz2⟩:=hmy.len;have hL1:∀ty,(Builtin.len_ #[69] ty #[.map (cP bx)]).run prog W7=.ok (goInt es.size) W7:=λty=>Go.run_len_map _ _ ty bx es ck (by kernel_rfl) pO;have hL2:∀ty,(Builtin.len_ #[69] ty #[.map (cP bY)]).run prog W7=.ok (goInt es'.size) W7:=λty=>Go.run_len_map _ _ ty bY es' ck' (by kernel_rfl) ACj;cases e4:((es.size:Int) !=(es'.size:Int));rotate_left
  ·have hne:s≠t:=λe=>(by rw[hz1,hz2,hxy.out e]at e4;simp at e4);replace hne:=Wx hne;clear hz1 hz2;go_wp2;go_ret;exact⟨vZ hne.out,Qg⟩
  clear hz1 hz2;have hbx:=hmx.lt;go_wp2_with(at_range;refine ABV rfl _ 69 9 34 rfl hT1 rfl hmx ?_;intro w8 hI8 Bp)
  (try simp only[pE]);clear e1 e2 e3 e4 hL1 hL2 pO ACj x0 x1 x2 x3 y0 y1 y2 y3;go_loopw[10] (λ_ wr=>∃k,ItS wr bx W7.heap.size x.vars k/\AA6 W7 wr) (λ_ wr=>wr.rangeLeft bx W7.heap.size);exact⟨_,hI8,Bp⟩;obtain⟨k,hI,J9⟩:=hrel;go_wp2_with(at_next;refine ABW rfl _ rfl rfl hI hbx ?_ ?_)
  ·intro _;have hbz:=AB hb (AB hb4 J9);go_wp2;go_roundw;exact⟨q+1,hlt,by go_num,hbz⟩;simp[intOf];omega
  ·intro z va vb w9 k9 hzv hI9 hk9 Wt hen;have AEO:=J9.trans Wt;replace hmy:=hmy.other (AEO.block bY hmy.lt);have hY9:=hY.nx AEO;have y3:=hY9.c 3 _ rfl;have hEq:s=t->(va,vb)=getM y.vars z/\Wu y.vars z=cC:=λe=>by
    have:=hmy.at (by rw[<-hxy.out e];exact hzv);exact⟨this.1.symm,this.2⟩
   replace hEq:=Wx hEq;have hE:∀w,(Op.equalIn 10000 34 (.agg #[cS va,cI cJ vb]) (.agg #[cS (getM y.vars z).1,cI cJ (getM y.vars z).2])).run prog w=.ok (decide ((va,vb)=getM y.vars z)) w:=λw=>ABv (va,vb) _ w;have J8:=AJ w9 (.cells #[cS va,cI cJ vb] 34);have hV:=Ae.alloc w9 [cS va,cI cJ vb] 34;have hL:(Instr.lookup 69 (.map (cP bY)) (cS z) cC).run prog (w9.alloc (.cells #[cS va,cI cJ vb] 34))=.ok (.tuple #[Kn (getM y.vars z),cE (Wu y.vars z)]) (w9.alloc (.cells #[cS va,cI cJ vb] 34)):=ABl hT1 vM rU (hmy.other (J8.block bY hmy.lt)) z;replace y3:=AA J8 y3;generalize Wu y.vars z=ok at*;obtain⟨⟨ga,gb⟩,hgv⟩:∃g,g=getM y.vars z:=⟨_,rfl⟩;rw[<-hgv]at hEq hE hL;clear hgv;obtain⟨bE,hbE⟩:∃bE,bE=decide ((va,vb)=(ga,gb)):=⟨_,rfl⟩;rw[<-hbE]at hE;replace hbE:=Wx hbE;have yM:=AEO.trans ((J8.trans ((AJ _ (.cells #[cS ga,cI cJ gb] 34)).mono (by simp))).mono AEO.size);have ACl:=(hI9.kp J8).kp (AJ _ (.cells #[cS ga,cI cJ gb] 34));have hV2:=hV.al (.cells #[cS ga,cI cJ gb] 34);have hW2:=Ae.alloc (w9.alloc (.cells #[cS va,cI cJ vb] 34)) [cS ga,cI cJ gb] 34;obtain⟨n0,n1⟩:=hV2.c2;obtain⟨m0,m1⟩:=hW2.c2;have hbz:=AB Qg yM;clear hV hV2 hW2 J8;cases ok
   ·have hne:s≠t:=λe=>absurd (hEq.out e).2 (by decide);replace hne:=Wx hne;go_wp2;go_ret;exact⟨vZ hne.out,hbz⟩
   cases bE
   ·have hne:s≠t:=λe=>absurd (hEq.out e).1 (CJ hbE.out.symm);replace hne:=Wx hne;go_wp2;go_ret;exact⟨vZ hne.out,hbz⟩
   ·go_wp2;go_roundw;exact⟨k9,ACl,yM⟩;rw[ACl.left,hI.left];omega
end
def vNm{o:Nat}{x:Int}(h:Af w B (dN x) g o F):Nj w ⟨g,o,cX⟩ x:=by
 unfold dN Af at h;exact h.1
def vOb{o:Nat}{x:Ob}(hx:x.vs.length<=1000000)(h:Af w B (Ld x) g o F):ACE w ⟨g,o,cX⟩ x:=by
 obtain⟨_,_,h1,h2⟩:=h.l.hd;obtain⟨_,_,h3,_⟩:=h2.hd;obtain⟨u,hc,hr⟩:=h3.row;exact⟨h1.c,u,hc,hr.vus (by omega)⟩
def vEv{o:Nat}{x:Ev}(hx:x.ar.length<=1000000)(h:Af w B (Qc x) g o F):ACG w ⟨g,o,cX⟩ x:=by
 obtain⟨_,_,h1,h2⟩:=h.l.hd;obtain⟨_,_,h3,h4⟩:=h2.hd;obtain⟨_,_,h5,h6⟩:=h4.hd;obtain⟨_,_,h7,_⟩:=h6.hd;obtain⟨u,hc,hr⟩:=h3.row;exact⟨h1.c,h5.c,h7.c,u,hc,hr.view (ok:=λ_=>True) (λ_=>rfl) (λ_ _ _ _ _ h=>vNm h) (by unfold Ln;omega) (λ_ _=>trivial)⟩
theorem vLv{o:Nat}{x:Lv}(h:Af w B (Kw x) g o F):ACF w ⟨g,o,cX⟩ x:=by
 obtain⟨_,_,h1,h2⟩:=h.l.hd;obtain⟨_,_,h3,h4⟩:=h2.hd;obtain⟨_,_,h5,h6⟩:=h4.hd;obtain⟨_,_,h7,_⟩:=h6.hd;unfold Af at h7;obtain⟨b,hc,-,hm,-⟩:=h7;exact⟨h1.c,h3.c,h5.c,b,hc,hm⟩
def Qx.see{fr hp gl tr mk:Value}(h:Qx w s fr hp gl tr mk)(hz:jW s):ABu w s hp gl tr mk/\Row ACF 4 w fr s.frames:=by
 obtain⟨⟨_,y1⟩,⟨_,y2⟩,⟨_,y3⟩,⟨_,y4⟩,⟨_,y5⟩⟩:=h;have a1:=hz.fr;have a2:=hz.hp;have a3:=hz.gl;have a4:=hz.tr;have a5:=hz.Lc;exact⟨⟨y2.view (ok:=λx=>x.vs.length<=1000000) UF (λ_ _ _ _ h1 h2=>vOb h1 h2) (by unfold Ln;omega) hz.vs,y3.vus (by omega),y4.view (ok:=λx=>x.ar.length<=1000000) UH (λ_ _ _ _ h1 h2=>vEv h1 h2) (by unfold Ln;omega) hz.ar,y5.view (ok:=λ_=>True) (λ_=>rfl) (λ_ _ _ _ _ h=>vNm h) (by unfold Ln;omega) (λ_ _=>trivial)⟩,y1.view (ok:=λ_=>True) UG (λ_ _ _ _ _ h=>vLv h) (by unfold Ln;omega) (λ_ _=>trivial)⟩
def Way.fine{p:Pg}{fuel:Int}(h:Way p s fuel)(hcl:∀c∈p.cs,c.fs.length<=4000):jW s where
 toSmall:=h.small
 vs:=λob Nc=>by
  obtain⟨c,hc,hl,-⟩:=h.wt.heap ob Nc;have:=hcl c (Ak hc).1;omega
 ar:=λev hev=>AX (h.ct.ar ev hev) (by decide)
def Way.wake{p:Pg}{fuel f2:Int}(h:Way p s fuel)(hf:f2<=100000):Way p (Jg s) f2:=by
 unfold Jg;split
 ·rename_i h3
  exact⟨⟨h.wt.heap,h.wt.glob,h.wt.frames,λ_ e=>by have:=h.ct.en.2 e;omega⟩,⟨h.ct.st,h.ct.al,h.ct.gu,h.ct.asks,h.ct.tr,h.ct.o8,h.ct.ms,h.ct.up,h.ct.ar,h.ct.fr,⟨λe=>by simp at e,λe=>by have:=h.ct.en.2 e;omega⟩⟩,⟨h.rg.fr,h.rg.hp,h.rg.gl⟩,h.st,hf,h.gl⟩
 ·exact⟨h.wt,h.ct,h.rg,h.st,hf,h.gl⟩
end Go.Proofs.YtlffomedflegdaaGreatDoor
