/- Part A02 of the proof: Va. -/
import Derived.Test.YtlffomedflegdaaGreatDoorPdA01
set_option linter.all false
set_option maxHeartbeats 16000000
set_option maxRecDepth 100000
namespace Go.Proofs.YtlffomedflegdaaGreatDoor
open Go.Proofs.Tryz
open Go.RowKit
open Go.Value renaming int→cI,string→cS,slice→cY,bool→cE
open Go.IntKind renaming i64→cJ
open Option renaming some→cP,none→cX
open Bool renaming false→cA,true→cC
def ACN(l:Vm):List Value:=l.flatMap λx=> [cS x.1,cS x.2.1,cI cJ x.2.2]
theorem AFf(l:Vm):(ACN l).length=l.length*3:=by
 induction l with
 |nil=>rfl
 |cons x r ih=>simp[ACN]at ih⊢;omega
def ACx:∀{l:Vm} {i:Nat} {x:ByteArray×Vu},l[i]? =cP x->(ACN l)[i*3]? =cP (cS x.1)/\(ACN l)[i*3+1]? =cP (cS x.2.1)/\(ACN l)[i*3+2]? =cP (cI cJ x.2.2)
 | [],i,x,h=>by simp at h
 |y::r,0,x,h=>by
  obtain rfl:y=x:=by simpa using h
  simp[ACN]
 |y::r,i+1,x,h=>by
  have ih:=ACx (l:=r) (i:=i) (by simpa using h);have e:ACN (y::r)=cS y.1::cS y.2.1::cI cJ y.2.2::ACN r:=by simp[ACN]
  rw[e,show(i+1)*3=i*3+1+1+1 by omega];simpa using ih
def ACu(l:Vm):∀u∈ACN l,u.oneCell'=cC:=by
 intro u hu;obtain⟨v,_,hv⟩:=List.mem_flatMap.1 hu;simp only[List.mem_cons,List.not_mem_nil,or_false]at hv;rcases hv with rfl|rfl|rfl<;>rfl
theorem ACt:∀{l:Vm} {i:Nat} {x:ByteArray} {u v:Vu},l[i]? =cP (x,u)->((ACN l).set (i*3+1) (cS v.1)).set (i*3+2) (cI cJ v.2)=ACN (l.set i (x,v))
 | [],i,x,u,v,h=>by simp at h
 |y::r,0,x,u,v,h=>by
  obtain rfl:y=(x,u):=by simpa using h
  simp[ACN]
 |y::r,i+1,x,u,v,h=>by
  have ih:=ACt (l:=r) (i:=i) (v:=v) (by simpa using h);have e:∀(y:ByteArray×Vu) r,ACN (y::r)=cS y.1::cS y.2.1::cI cJ y.2.2::ACN r:=λy r=>by simp[ACN]
  rw[List.set_cons_succ,e,e,show(i+1)*3+1=i*3+1+1+1+1 by omega,show(i+1)*3+2=i*3+2+1+1+1 by omega];simp only[List.set_cons_succ];rw[ih]
theorem ACs:∀{m:Vm} {q:Nat} {x:ByteArray} {u v:Vu},(∀j y,j<q->m[j]? =cP y->y.1≠x)->m[q]? =cP (x,u)->Ei m x v=m.set q (x,v)
 | [],q,x,u,v,_,h=>by simp at h
 |y::r,0,x,u,v,_,h=>by
  obtain rfl:y=(x,u):=by simpa using h
  simp[Ei]
 |y::r,q+1,x,u,v,hn,h=>by
  unfold Ei;rw[if_neg (hn 0 y (Nat.succ_pos _) rfl),ACs (λj z hj hz=>hn (j+1) z (Nat.succ_lt_succ hj) (by simpa using hz)) (by simpa using h)];rfl
def ACf:∀(m:Vm) (x:ByteArray) (v:Vu),(Ei m x v).length<=m.length+1
 | [],x,v=>by simp[Ei]
 |y::r,x,v=>by
  have:=ACf r x v;unfold Ei;split<;>simp<;>omega
def ACV(w:World)(B:Nat)(v:Value)(l:Vm):Prop:=w.ownsRow B 139 3 v l.length (ACN l)
theorem ACV.at{w:World}{B q:Nat}{v:Value}{l:Vm}(h:ACV w B v l){x:ByteArray×Vu}(hx:l[q]? =cP x):∃g c,v=cY (cP ⟨g,0,cX⟩) l.length c/\B<=g/\g<w.heap.size/\(∀o,w.frozen? ⟨g,o,cX⟩=cA)/\w.cell? ⟨g,q*3,cX⟩=cP (cS x.1)/\w.cell? ⟨g,q*3+1,cX⟩=cP (cS x.2.1)/\w.cell? ⟨g,q*3+2,cX⟩=cP (cI cJ x.2.2):=by
 have hq:=(List.getElem?_eq_some_iff.1 hx).1;rcases id h.2 with⟨-,h0⟩|⟨g,cap,cur,rfl,hb,hg,-⟩
 ·omega
 ·obtain⟨c0,c1,c2⟩:=ACx hx;exact⟨g,cap,rfl,hb,(h.lt g rfl).2,λo=>h.frozenAt o,(h.cellAt _ (by omega)).trans c0,(h.cellAt _ (by omega)).trans c1,(h.cellAt _ (by omega)).trans c2⟩
def ACg{w:World}{B:Nat}{v:Value}{l:Vm}(h:ACV w B v l)(hl:l.length<=1000000)(x:ByteArray)(u:Vu):Calls prog 35 #[v,cS x,Kn u] w λe w'=>∃v',e=.returned v'/\ACV w' w.heap.size v' (Ei l x u)/\AA6 w w':=by
 obtain⟨i0,hi,hz0,hz1,hz2⟩:=Cq (P:=prog) (t:=139) (z:=.agg #[cS .empty,cS .empty,cI cJ 0]) (s:=3) (b:=40) (by kernel_rfl);obtain⟨ua,ub⟩:=u;obtain⟨pv,cv,rfl⟩:=Bf h;go_enter func35,ntmps35;go_upto_region 1 with fail;generalize Cr:World.alloc w _=W at*;obtain⟨J8,hX⟩:=ng Cr;have h1:=Dh h J8 (AQ);clear Cr h;go_wp2_with(at_builtin;refine CP rfl _ _ 93 rfl w.heap.size 139 i0 _ 3 40 underlying93 hi hz0 hz1 hz2 rfl (by decide) _ _ _ rfl (World.ownsRow_nil _ _ _ _) B _ l.length (ACN l) rfl h1 (ACu l) ?c4 ?c5 ?c6 ?_)
 case c4=>unfold maxLen;omega
 case c5=>omega
 case c6=>exact J8.size
 intro v' w2 hown hg;have hb2:AA6 W w2:=(AL).grown hg (AQ) (λk e=>by simp[Value.ownBlock]at e);replace hown:ACV w2 w.heap.size v' l:=by
  unfold ACV;simpa using hown
 obtain⟨pu,cu,rfl⟩:=Bf hown;replace hX:=hX.nx hb2;have hbw:=AB J8 hb2;clear hg hb2 h1 J8;go_wp2;go_loopw[8] (λi wr=>∃q:Nat,q<=l.length/\i=cI cJ (q:Int)/\Hid (∀j y,j<q->l[j]? =cP y->y.1≠x)/\AA6 w2 wr) (λi _=>l.length-(intOf i).toNat);exact⟨0,AY,rfl,Wx (λj y h=>absurd h (Nat.not_lt_zero _)),AL⟩;obtain⟨q,hq,rfl,hno,hb⟩:=hrel;have hX2:=hX.nx hb;have ho:=Dh hown hb (AQ);have hbb:=AB hbw hb;obtain⟨x0,x1⟩:=hX2.c2;by_cases hend:q=l.length
 ·have hp:Ei l x (ua,ub)=l++[(x,(ua,ub))]:=Vn λy hy=>by
   obtain⟨j,hj,e⟩:=List.mem_iff_getElem.1 hy;exact hno.out j y (by omega) (by rw[List.getElem?_eq_getElem hj,e])
  replace hp:=Wx hp;subst hend;have hnews:∀(j:Nat) (u:Value),[cS x,cS ua,cI cJ ub][j]? =cP u->(wr.alloc (Obj.cells #[cS x,cS ua,cI cJ ub] 139)).cell? ((⟨wr.heap.size,0,cX⟩:Addr).add j)=cP u:=λj u hu=>by
   rw[Dk,Nat.zero_add];exact(Ae.alloc wr [cS x,cS ua,cI cJ ub] 139).c j u hu
  have hbz:=hbb.size;go_wp2_with(at_builtin;refine wpList_append_own _ rfl _ _ 93 rfl w.heap.size 139 i0 _ 3 40 underlying93 hi hz0 hz1 hz2 rfl (by decide) _ _ _ rfl (World.ownsRow.alloc ho _) ⟨wr.heap.size,0,cX⟩ 1 1 [cS x,cS ua,cI cJ ub] rfl rfl hnews (ACu [(x,(ua,ub))]) ?d1 ?d2 ?d3 ?_)
  case d1=>unfold maxLen;omega
  case d2=>omega
  case d3=>simp;omega
  intro v2 w3 ho3 hg3 _;have hb3:AA6 w w3:=(hbb.alloc hbz _).grown hg3 (by simp;omega) (λk e=>(ho.lt k e).1);replace ho3:ACV w3 w.heap.size v2 (Ei l x (ua,ub)):=by
   rw[hp.out];unfold ACV;rw[List.length_append];have e:ACN (l++[(x,(ua,ub))])=ACN l++[cS x,cS ua,cI cJ ub]:=(by simp[ACN]);rw[e];exact ho3
  obtain⟨p3,c3,rfl⟩:=Bf ho3;go_wp2;go_ret;exact⟨_,rfl,ho3,hb3⟩
 ·have hlt:q<l.length:=by omega
  have A8:(q:Int)<l.length:=by omega
  have hx:l[q]? =cP l[q]:=by simp[hlt]
  obtain⟨g,c,hv,hg1,hg2,hfz,k0,k1,k2⟩:=ACV.at ho hx;obtain⟨rfl,rfl⟩:pu=cP ⟨g,0,cX⟩/\cu=c:=by simpa using hv
  generalize l[q]=y at*;have f1:=hfz (q*3+1);have f2:=hfz (q*3+2);by_cases hne:y.1=x;rotate_left
  ·have hxy:=Ea hne;have AI0:Hid (∀j z,j<q+1->l[j]? =cP z->z.1≠x):=Wx λj z hj hz=>by
    rcases Nat.lt_succ_iff_lt_or_eq.1 hj with h|rfl
    ·exact hno.out j z h hz
    ·rw[hx]at hz;obtain rfl:=Option.some.inj hz;exact hne
   go_wp2;go_roundw;exact⟨q+1,hlt,by go_num,AI0,hb⟩;simp[intOf];omega
  ·obtain⟨ya,yv⟩:=y;obtain rfl:ya=x:=hne;have hxy:=EZ (rfl:ya=ya);have h3:ACV ((wr.setCell ⟨g,q*3+1,cX⟩ (cS ua)).setCell ⟨g,q*3+2,cX⟩ (cI cJ ub)) w.heap.size (cY (cP ⟨g,0,cX⟩) l.length cu) (Ei l ya (ua,ub)):=by
    rw[ACs hno.out hx,<-show(l.set q (ya,(ua,ub))).length=l.length by simp];unfold ACV;rw[<-ACt hx,show(l.set q (ya,(ua,ub))).length=l.length by simp];exact(World.ownsRow.stored (World.ownsRow.stored ho _ _).1 _ _).1
   have hb3:AA6 w ((wr.setCell ⟨g,q*3+1,cX⟩ (cS ua)).setCell ⟨g,q*3+2,cX⟩ (cI cJ ub)):=(hbb.setCell (p:=⟨g,q*3+1,cX⟩) hg1 _).setCell (p:=⟨g,q*3+2,cX⟩) hg1 _;replace hno:=Wx hno.out;clear hx;go_wp2;go_ret;exact⟨_,rfl,h3,hb3⟩
end Go.Proofs.YtlffomedflegdaaGreatDoor
