/- Part 23 of the proof: Ua, Ub. -/
import Derived.Test.YtlffomedflegdaaGreatDoorPd10
import Derived.Test.YtlffomedflegdaaGreatDoorPd16
set_option linter.all false
set_option maxHeartbeats 16000000
set_option maxRecDepth 100000
namespace Go.Proofs.YtlffomedflegdaaGreatDoor
open Go.Proofs.Tryz
open Go.RowKit
open Go.Value renaming int→cI,string→cS,slice→cY,bool→cE
open Go.IntKind renaming i64→cJ
open Option renaming some→cP,none→cX
open Bool renaming false→cA,true→cC
variable {P:Prop}{v v':Value}{w w0:World}
section
open Word Num Dp
def ACE(w:World)(a:Addr)(x:Ob):Prop:=w.cell? a=cP (cS x.c)/\∃u,At w a 1 u/\Row AtU 2 w u x.vs
def ACG(w:World)(a:Addr)(x:Ev):Prop:=w.cell? a=cP (cS x.n)/\At w a 2 (cI cJ x.r)/\At w a 3 (cE x.fl)/\∃u,At w a 1 u/\Row Nj 1 w u x.ar
theorem IC.at[Decidable P]{e:Ending}(h:IC P e):e=.returned (cE (decide P)):=by
 by_cases p:P
 ·rw[decide_eq_true p];exact h.yes p
 ·rw[decide_eq_false p];exact h.no p
def ABR{α:Type}{l l':List α}{q:Nat}(h:q<l.length)(h':q<l'.length)(ht:l.take q=l'.take q)(e:l[q]=l'[q]):l.take (q+1)=l'.take (q+1):=by
 rw[List.take_succ_eq_append_getElem h,List.take_succ_eq_append_getElem h',ht,e]
def ABx(h0:AA6 w0 w){l l':List Int}(hl:Row Nj 1 w0 v l)(hl':Row Nj 1 w0 v' l'):Calls prog 30 #[v,v'] w λe w'=>IC (l=l') e/\AA6 w w':=by
 obtain⟨p,cu,rfl,-,hn,hl⟩:=hl;obtain⟨p',Nh,rfl,-,-,hl'⟩:=hl'
 cases hlen:((l.length:Int) !=(l'.length:Int))with
 |true=>
  go_enter func30,ntmps30;go_wp2;go_ret
  exact⟨Bj λe=>by rw[e]at hlen;simp at hlen,AL⟩
 |false=>
 have hle:l.length=l'.length:=by
  have:(l.length:Int)=l'.length:=by simpa using hlen
  omega
 rw[<-hle];replace hle:=Wx hle;go_enter func30,ntmps30;go_wp2;go_loopw[5] (λi wr=>∃q:Nat,q<=l.length/\i=cI cJ (q:Int)/\Hid (l.take q=l'.take q)/\AA6 w wr) (λi _=>l.length-(intOf i).toNat);exact⟨0,AY,rfl,Wx (by simp),AL⟩;obtain⟨q,hq,rfl,hT,hb⟩:=hrel;by_cases hend:q=l.length
 ·subst hend;have hT:=hT.out;rw[List.take_length,hle.out,List.take_length]at hT;replace hT:=Wx hT;go_wp2;go_ret;exact⟨Ir hT.out,hb⟩
 ·have hlt:q<l.length:=by omega
  have hlt':q<l'.length:=by have:=hle.out;omega
  have A8:(q:Int)<l.length:=by omega
  obtain⟨a,rfl,c0⟩:=hl q l[q] (by simp[hlt]);obtain⟨a',rfl,d0⟩:=hl' q l'[q] (by simp[hlt']);unfold Nj at c0 d0;rw[Nat.mul_one]at c0 d0;have c0:=AA (AB h0 hb) c0;have d0:=AA (AB h0 hb) d0;have hN:=λe=>ABR hlt hlt' hT.out e;have hM:l[q]≠l'[q]->l≠l':=λh e=>by
   subst e;exact h rfl
  generalize l[q]=x at*;generalize l'[q]=y at*;replace hN:=Wx hN;replace hM:=Wx hM;cases hxy:(x !=y);all_goals
   go_wp2;refine ALQ (S:=λ_ v=>v=wr.drew) rfl ?_;(iterate 9((apply Ab.z rfl;intro L w1 _ _ _ z hK;have hS:=z.s;(subst hS);go_simp;exact hK (rfl);rfl)));refine Ab.nil λw4 Bb=>?_;subst Bb
  ·have e:=(by simpa using hxy);go_wp2;go_roundw;exact⟨q+1,by omega,by go_num,Wx (hN.out e),hb.drew⟩;simp[intOf];omega
  ·have e:=(by simpa using hxy);go_wp2;go_ret;exact⟨Bj (hM.out e),hb.drew⟩
def ABv(x y:Vu)(w:World):(Op.equalIn 10000 34 (.agg #[cS x.1,cI cJ x.2]) (.agg #[cS y.1,cI cJ y.2])).run prog w=.ok (decide (x=y)) w:=by
 have u9:=underlying9;have a9:=Tryz.isAgg9;have z9:=Tryz.sizeOf9;have u2:=underlying2;have a2:=Tryz.isAgg2;have z2:=Tryz.sizeOf2;have hS:prog.underlying 34=cP (.struct (prog.fieldsOf 34)):=by kernel_rfl
 have hp:prog.stoodInHeld 34=cA:=by kernel_rfl
 have hd:decide (x=y)=(x.1.toList==y.1.toList&&x.2==y.2):=by
  by_cases h:x=y
  ·subst h;simp
  ·rw[decide_eq_false h];symm;rw[Bool.and_eq_false_iff];by_cases h1:x.1=y.1
   ·exact .inr (by simpa using λe=>h (Prod.ext h1 e))
   ·exact .inl (Ea h1)
 rw[hd,show(10000:Nat)=9999+1 from rfl,run_equalIn_agg w 9999 34 _ _ hS hp];simp only[Program.fieldsOf,underlying34];cases h1:(x.1.toList==y.1.toList)<;>cases h2:(x.2==y.2)<;>go_simp
def ABy(h0:AA6 w0 w){l l':List Vu}(hl:Row AtU 2 w0 v l)(hl':Row AtU 2 w0 v' l'):Calls prog 29 #[v,v'] w λe w'=>IC (l=l') e/\AA6 w w':=by
 obtain⟨p,cu,rfl,-,hn,hl⟩:=hl;obtain⟨p',Nh,rfl,-,-,hl'⟩:=hl'
 cases hlen:((l.length:Int) !=(l'.length:Int))with
 |true=>
  go_enter func29,ntmps29;go_wp2;go_ret
  exact⟨Bj λe=>by rw[e]at hlen;simp at hlen,AL⟩
 |false=>
 have hle:l.length=l'.length:=by
  have:(l.length:Int)=l'.length:=by simpa using hlen
  omega
 rw[<-hle];replace hle:=Wx hle;go_enter func29,ntmps29;go_wp2;go_loopw[5] (λi wr=>∃q:Nat,q<=l.length/\i=cI cJ (q:Int)/\Hid (l.take q=l'.take q)/\AA6 w wr) (λi _=>l.length-(intOf i).toNat);exact⟨0,AY,rfl,Wx (by simp),AL⟩;obtain⟨q,hq,rfl,hT,hb⟩:=hrel;by_cases hend:q=l.length
 ·subst hend;have hT:=hT.out;rw[List.take_length,hle.out,List.take_length]at hT;replace hT:=Wx hT;go_wp2;go_ret;exact⟨Ir hT.out,hb⟩
 ·have hlt:q<l.length:=by omega
  have hlt':q<l'.length:=by have:=hle.out;omega
  have A8:(q:Int)<l.length:=by omega
  obtain⟨a,rfl,c0,c1⟩:=hl q l[q] (by simp[hlt]);obtain⟨a',rfl,d0,d1⟩:=hl' q l'[q] (by simp[hlt']);have c0:=AA (AB h0 hb) c0;have c1:=AA (AB h0 hb) c1;have d0:=AA (AB h0 hb) d0;have d1:=AA (AB h0 hb) d1;have hN:=λe=>ABR hlt hlt' hT.out e;have hM:l[q]≠l'[q]->l≠l':=λh e=>by
   subst e;exact h rfl
  have hE:∀w,(Op.equalIn 10000 34 (.agg #[cS l[q].1,cI cJ l[q].2]) (.agg #[cS l'[q].1,cI cJ l'[q].2])).run prog w=.ok (decide (l[q]=l'[q])) w:=λw=>ABv _ _ w;generalize hd:decide (l[q]=l'[q])=b at*;replace hN:Hid (b=cC->l.take (q+1)=l'.take (q+1)):=Wx λe=>hN (BK (hd.trans e));replace hM:Hid (b=cA->l≠l'):=Wx λe=>hM (CJ (hd.trans e));clear hd;generalize l[q].1=s at*;generalize l[q].2=t at*;generalize l'[q].1=s' at*;generalize l'[q].2=t' at*;go_wp2;refine ALQ (S:=λ_ v=>v=wr.drew) rfl ?_;iterate 9((apply Ab.z rfl;intro L w1 _ _ _ z hK;have hS:=z.s;(subst hS);go_simp;exact hK (rfl);rfl))
  refine Ab.nil λw4 Bb=>?_;subst Bb;cases b
  ·go_wp2;go_ret;exact⟨Bj (hM.out (by trivial)),hb.drew⟩
  ·go_wp2;go_roundw;exact⟨q+1,by omega,by go_num,Wx (hN.out (by trivial)),hb.drew⟩;simp[intOf];omega
def ACT(h0:AA6 w0 w){l l':List Ob}(hl:Row ACE 2 w0 v l)(hl':Row ACE 2 w0 v' l'):Calls prog 28 #[v,v'] w λe w'=>IC (l=l') e/\AA6 w w':=by
 obtain⟨p,cu,rfl,-,hn,hl⟩:=hl;obtain⟨p',Nh,rfl,-,-,hl'⟩:=hl'
 cases hlen:((l.length:Int) !=(l'.length:Int))with
 |true=>
  go_enter func28,ntmps28;go_wp2;go_ret
  exact⟨Bj λe=>by rw[e]at hlen;simp at hlen,AL⟩
 |false=>
 have hle:l.length=l'.length:=by
  have:(l.length:Int)=l'.length:=by simpa using hlen
  omega
 rw[<-hle];replace hle:=Wx hle;go_enter func28,ntmps28;go_wp2;go_loopw[5] (λi wr=>∃q:Nat,q<=l.length/\i=cI cJ (q:Int)/\Hid (l.take q=l'.take q)/\AA6 w wr) (λi _=>l.length-(intOf i).toNat);exact⟨0,AY,rfl,Wx (by simp),AL⟩;obtain⟨q,hq,rfl,hT,hb⟩:=hrel;by_cases hend:q=l.length
 ·subst hend;have hT:=hT.out;rw[List.take_length,hle.out,List.take_length]at hT;replace hT:=Wx hT;go_wp2;go_ret;exact⟨Ir hT.out,hb⟩
 ·have hlt:q<l.length:=by omega
  have hlt':q<l'.length:=by have:=hle.out;omega
  have A8:(q:Int)<l.length:=by omega
  have hN:=λe=>ABR hlt hlt' hT.out e;have hM:l[q]≠l'[q]->l≠l':=λh e=>by
   subst e;exact h rfl
  have h1:=AB h0 hb;obtain⟨a,rfl,c0,u,c1,cr⟩:=hl q l[q] (by simp[hlt]);obtain⟨a',rfl,d0,u',d1,dr⟩:=hl' q l'[q] (by simp[hlt']);have hV:∀w1,AA6 wr w1->Calls prog 29 #[u,u'] w1 λe w'=>e=.returned (cE (decide (l[q].vs=l'[q].vs)))/\AA6 w1 w':=λw1 hb1=>(ABy (AB h1 hb1) cr dr).mono λe w' h=>⟨h.1.at,h.2⟩;obtain⟨pu,cu2,rfl⟩:=cr.slice;obtain⟨pv,cv2,rfl⟩:=dr.slice;have c0:=AA h1 c0;have c1:=AA h1 c1;have d0:=AA h1 d0;have d1:=AA h1 d1;clear cr dr;generalize hx:l[q]=x at*;generalize hy:l'[q]=y at*;generalize hB:decide (x.vs=y.vs)=b at*
  have hE:(x.c.toList==y.c.toList)=cC->b=cC->l.take (q+1)=l'.take (q+1):=λe1 e2=>hN (by
   obtain⟨xc,xv⟩:=x;obtain⟨yc,yv⟩:=y;have e3:=Ic e1;have e4:=BK (hB.trans e2);dsimp only at e3 e4;subst e3 e4
   rfl)
  have hF:(x.c.toList==y.c.toList)=cA\/b=cA->l≠l':=λe=>hM λk=>by
   subst k;simp at e hB;rw[e]at hB;cases hB
  replace hE:=Wx hE;replace hF:=Wx hF;clear hx hy hB hN hM;generalize x.c=s at*;generalize y.c=s' at*;generalize x.vs.length=n1 at*;generalize y.vs.length=n2 at*;cases hc:(s.toList==s'.toList);all_goals
   go_wp2;refine ALQ (S:=λ_ v=>AA6 wr v) Ac ?_;(iterate 25(first|(refine Ab.f (λz=>z.s) (λz=>ALS (AA z.s c0) (ALS (AA z.s c1) (ALS (AA z.s d0) (AA z.s d1)))) ?_)|(refine Ab.c (λz=>hV _ z.s) (λz hb=>AB z.s hb) ?_)|(refine Ab.skip rfl (λL w1 hS hi=>(hS)) ?_;(try simp only[pE]))));refine Ab.nil λw4 Bb=>?_;have hb4:=AB hb Bb
  ·have:=hF.out (.inl hc);replace this:=Wx this;go_wp2;go_ret;exact⟨Bj this.out,hb4⟩
  ·cases b
   ·have:=hF.out (.inr rfl);replace this:=Wx this;go_wp2;go_ret;exact⟨Bj this.out,hb4⟩
   ·have:=hE.out hc rfl;replace this:=Wx this;go_wp2;go_roundw;exact⟨q+1,by omega,by go_num,this,hb4⟩;simp[intOf];omega
def ABf(h0:AA6 w0 w){l l':List Ev}(hl:Row ACG 4 w0 v l)(hl':Row ACG 4 w0 v' l'):Calls prog 16 #[v,v'] w λe w'=>IC (l=l') e/\AA6 w w':=by
 obtain⟨p,cu,rfl,-,hn,hl⟩:=hl;obtain⟨p',Nh,rfl,-,-,hl'⟩:=hl'
 cases hlen:((l.length:Int) !=(l'.length:Int))with
 |true=>
  go_enter func16,ntmps16;go_wp2;go_ret
  exact⟨Bj λe=>by rw[e]at hlen;simp at hlen,AL⟩
 |false=>
 have hle:l.length=l'.length:=by
  have:(l.length:Int)=l'.length:=by simpa using hlen
  omega
 rw[<-hle];replace hle:=Wx hle;go_enter func16,ntmps16;go_wp2;go_loopw[5] (λi wr=>∃q:Nat,q<=l.length/\i=cI cJ (q:Int)/\Hid (l.take q=l'.take q)/\AA6 w wr) (λi _=>l.length-(intOf i).toNat);exact⟨0,AY,rfl,Wx (by simp),AL⟩;obtain⟨q,hq,rfl,hT,hb⟩:=hrel;by_cases hend:q=l.length
 ·subst hend;have hT:=hT.out;rw[List.take_length,hle.out,List.take_length]at hT;replace hT:=Wx hT;go_wp2;go_ret;exact⟨Ir hT.out,hb⟩
 ·have hlt:q<l.length:=by omega
  have hlt':q<l'.length:=by have:=hle.out;omega
  have A8:(q:Int)<l.length:=by omega
  have hN:=λe=>ABR hlt hlt' hT.out e;have hM:l[q]≠l'[q]->l≠l':=λh e=>by
   subst e;exact h rfl
  have h1:=AB h0 hb;obtain⟨a,rfl,c0,c2,c3,u,c1,cr⟩:=hl q l[q] (by simp[hlt]);obtain⟨a',rfl,d0,d2,d3,u',d1,dr⟩:=hl' q l'[q] (by simp[hlt']);have hV:∀w1,AA6 wr w1->Calls prog 30 #[u,u'] w1 λe w'=>e=.returned (cE (decide (l[q].ar=l'[q].ar)))/\AA6 w1 w':=λw1 hb1=>(ABx (AB h1 hb1) cr dr).mono λe w' h=>⟨h.1.at,h.2⟩;obtain⟨pu,cu2,rfl⟩:=cr.slice;obtain⟨pv,cv2,rfl⟩:=dr.slice;have c0:=AA h1 c0;have c1:=AA h1 c1;have c2:=AA h1 c2;have c3:=AA h1 c3;have d0:=AA h1 d0;have d1:=AA h1 d1;have d2:=AA h1 d2;have d3:=AA h1 d3;clear cr dr;generalize hx:l[q]=x at*;generalize hy:l'[q]=y at*;generalize hB:decide (x.ar=y.ar)=b at*
  have hE:(x.n.toList==y.n.toList)=cC->(x.r !=y.r)=cA->(x.fl !=y.fl)=cA->b=cC->l.take (q+1)=l'.take (q+1):=λe1 e2 e3 e4=>hN (by
   obtain⟨xn,xa,xr,xf⟩:=x;obtain⟨yn,ya,yr,yf⟩:=y;have e5:=Ic e1;have e6:=BK (hB.trans e4);simp at e2 e3;dsimp only at e5 e6;subst e5 e6 e2 e3
   rfl)
  have hF:(x.n.toList==y.n.toList)=cA\/(x.r !=y.r)=cC\/(x.fl !=y.fl)=cC\/b=cA->l≠l':=λe=>hM λk=>by
   subst k;simp at e hB;rw[e]at hB;cases hB
  have hc:(x.n.toList==y.n.toList)=cA\/((x.n.toList==y.n.toList)=cC/\(x.r !=y.r)=cC)\/(x.n.toList==y.n.toList)=cC/\(x.r !=y.r)=cA:=by
   cases(x.n.toList==y.n.toList)<;>cases(x.r !=y.r)<;>simp
  replace hE:=Wx hE;replace hF:=Wx hF;clear hx hy hB hN hM;generalize x.n=s at*;generalize y.n=s' at*;generalize x.r=r1 at*;generalize y.r=r2 at*;generalize x.fl=f1 at*;generalize y.fl=f2 at*;generalize x.ar.length=n1 at*;generalize y.ar.length=n2 at*;rcases hc with e1|⟨e1,e2⟩|⟨e1,e2⟩
  rotate_right
  cases f1<;>cases f2;all_goals
   go_wp2;refine ALQ (S:=λ_ v=>AA6 wr v) Ac ?_;(iterate 51(first|(refine Ab.f (λz=>z.s) (λz=>ALS (AA z.s c0) (ALS (AA z.s c1) (ALS (AA z.s d0) (ALS (AA z.s d1) (ALS (AA z.s c2) (ALS (AA z.s c3) (ALS (AA z.s d2) (AA z.s d3)))))))) ?_)|(refine Ab.c (λz=>hV _ z.s) (λz hb=>AB z.s hb) ?_)|(refine Ab.skip rfl (λL w1 hS hi=>(hS)) ?_;(try simp only[pE]))));refine Ab.nil λw4 Bb=>?_;have hb4:=AB hb Bb
  all_goals
   first
   |(
    have hno:l≠l':=hF.out (by first|exact .inl e1|exact .inr (.inl e2)|exact .inr (.inr (.inl rfl)));replace hno:=Wx hno;go_wp2;go_ret
    exact⟨Bj hno.out,hb4⟩)
   |(
    have hye:=hE.out e1 e2 rfl;replace hye:=Wx hye;have hno:b=cA->l≠l':=λe=>hF.out (.inr (.inr (.inr e)));replace hno:=Wx hno;cases b
    ·go_wp2;go_ret;exact⟨Bj (hno.out (by trivial)),hb4⟩
    ·have:=Wx (hye.out (by trivial));go_wp2;go_roundw;exact⟨q+1,by omega,by go_num,this,hb4⟩
     simp[intOf];omega)
def ABa(P:Prop)(e:Ending):Prop:=∃b:Bool,e=.returned (cE b)/\(P->b=cC)
def ABi:ABa P (.returned (cE cC)):=⟨_,rfl,λ_=>rfl⟩
def vZ(h:¬P):ABa P (.returned (cE cA)):=⟨_,rfl,λp=>absurd p h⟩
end
section
open Word Num Dp
structure ABu(w:World)(s:St)(hp gl tr mk:Value):Prop where
 hp:Row ACE 2 w hp s.heap
 gl:Row AtU 2 w gl s.globals
 tr:Row ACG 4 w tr s.trace
 mk':Row Nj 1 w mk s.marks
def ACH(h0:AA6 w0 w){s t:St}{hp gl tr mk hp' TV TI mk':Value}(hs:ABu w0 s hp gl tr mk)(ht:ABu w0 t hp' TV TI mk'):Calls prog 14 #[Ko s (cY cX 0 0) hp gl tr mk,.agg #[cI cJ t.status,cS t.result.1,cI cJ t.result.2,cI cJ t.code,cY cX 0 0,hp',TV,TI,mk',cI cJ t.allocs,cI cJ t.steps,cI cJ t.guards,cI cJ t.asked,cY cX 0 0,cI cJ 0]] w λe w'=>ABa (s={t with frames:=s.frames}) e/\AA6 w w':=by
 have hH:=λ(W:World) (hb:AA6 w W)=>ACT (AB h0 hb) hs.hp ht.hp;have hG:=λ(W:World) (hb:AA6 w W)=>ABy (AB h0 hb) hs.gl ht.gl;have hT:=λ(W:World) (hb:AA6 w W)=>ABf (AB h0 hb) hs.tr ht.tr;have hK:=λ(W:World) (hb:AA6 w W)=>ABx (AB h0 hb) hs.mk' ht.mk';obtain⟨p1,c1,rfl⟩:=hs.hp.slice;obtain⟨p2,c2,rfl⟩:=hs.gl.slice;obtain⟨p3,c3,rfl⟩:=hs.tr.slice;obtain⟨p4,c4,rfl⟩:=hs.mk'.slice;obtain⟨q1,d1,rfl⟩:=ht.hp.slice;obtain⟨q2,d2,rfl⟩:=ht.gl.slice;obtain⟨q3,d3,rfl⟩:=ht.tr.slice;obtain⟨q4,d4,rfl⟩:=ht.mk'.slice;clear hs ht;have hE:∀w,(Op.equalIn 10000 34 (.agg #[cS s.result.1,cI cJ s.result.2]) (.agg #[cS t.result.1,cI cJ t.result.2])).run prog w=.ok (decide (s.result=t.result)) w:=λw=>ABv _ _ w;obtain⟨bR,hbR⟩:∃bR,bR=decide (s.result=t.result):=⟨_,rfl⟩;rw[<-hbR]at hE;replace hbR:=Wx hbR;unfold Ko;generalize s.result.1=r1 at*;generalize s.result.2=r2 at*;generalize t.result.1=r3 at*;generalize t.result.2=r4 at*;go_enter func14,ntmps14;go_upto_region 1 with fail;generalize Cr:World.alloc (World.alloc _ _) _=W at*;obtain⟨hP,hA,hb1⟩:=ABY Cr;clear Cr;obtain⟨x0,x1,x2,x3,x4,x5,x6,x7,x8,x9,x10,x11,x12⟩:=hP.c13;obtain⟨y0,y1,y2,y3,y4,y5,y6,y7,y8,y9,y10,y11,y12⟩:=hA.c13;have y13:=hA.c 13 _ rfl;cases e1:(s.status !=t.status);rotate_left
 ·go_wp2;go_ret;exact⟨vZ λe=>by rw[e]at e1;simp at e1,hb1⟩
 cases bR
 ·go_wp2;go_ret;exact⟨vZ λe=>CJ hbR.out.symm (by rw[e]),hb1⟩
 cases e2:(s.code !=t.code);rotate_left
 ·go_wp2;go_ret;exact⟨vZ λe=>by rw[e]at e2;simp at e2,hb1⟩
 cases e3:(s.allocs !=t.allocs);rotate_left
 ·go_wp2;go_ret;exact⟨vZ λe=>by rw[e]at e3;simp at e3,hb1⟩
 cases e4:(s.steps !=t.steps);rotate_left
 ·go_wp2;go_ret;exact⟨vZ λe=>by rw[e]at e4;simp at e4,hb1⟩
 cases e5:(s.guards !=t.guards);rotate_left
 ·go_wp2;go_ret;exact⟨vZ λe=>by rw[e]at e5;simp at e5,hb1⟩
 cases e6:(s.asked !=t.asked);rotate_left
 ·go_wp2;go_ret;exact⟨vZ λe=>by rw[e]at e6;simp at e6,hb1⟩
 go_wp2_with fail;refine(hH _ hb1).mono ?_;rintro e w1 ⟨⟨bH,rfl,-,hn⟩,hb2⟩;replace hn:=Wx hn;replace hP:=hP.nx hb2;replace hA:=hA.nx hb2;replace hb1:=AB hb1 hb2;cases bH
 ·go_wp2;go_ret;exact⟨vZ λe=>hn.out (by trivial) (by rw[e]),hb1⟩
 clear hn;obtain⟨x0,x1,x2,x3,x4,x5,x6,x7,x8,x9,x10,x11,x12⟩:=hP.c13;obtain⟨y0,y1,y2,y3,y4,y5,y6,y7,y8,y9,y10,y11,y12⟩:=hA.c13;go_wp2_with fail;refine(hG _ hb1).mono ?_;rintro e w1 ⟨⟨bG,rfl,-,hn⟩,hb2⟩;replace hn:=Wx hn;replace hP:=hP.nx hb2;replace hA:=hA.nx hb2;replace hb1:=AB hb1 hb2;cases bG
 ·go_wp2;go_ret;exact⟨vZ λe=>hn.out (by trivial) (by rw[e]),hb1⟩
 clear hn;obtain⟨x0,x1,x2,x3,x4,x5,x6,x7,x8,x9,x10,x11,x12⟩:=hP.c13;obtain⟨y0,y1,y2,y3,y4,y5,y6,y7,y8,y9,y10,y11,y12⟩:=hA.c13;go_wp2_with fail;refine(hT _ hb1).mono ?_;rintro e w1 ⟨⟨bT,rfl,-,hn⟩,hb2⟩;replace hn:=Wx hn;replace hP:=hP.nx hb2;replace hA:=hA.nx hb2;replace hb1:=AB hb1 hb2;cases bT
 ·go_wp2;go_ret;exact⟨vZ λe=>hn.out (by trivial) (by rw[e]),hb1⟩
 clear hn;obtain⟨x0,x1,x2,x3,x4,x5,x6,x7,x8,x9,x10,x11,x12⟩:=hP.c13;obtain⟨y0,y1,y2,y3,y4,y5,y6,y7,y8,y9,y10,y11,y12⟩:=hA.c13;go_wp2_with fail;refine(hK _ hb1).mono ?_;rintro e w1 ⟨⟨bK,rfl,-,hn⟩,hb2⟩;replace hn:=Wx hn;replace hP:=hP.nx hb2;replace hb1:=AB hb1 hb2;cases bK
 ·go_wp2;go_ret;exact⟨vZ λe=>hn.out (by trivial) (by rw[e]),hb1⟩
 clear hn;have x4:=hP.c 4 _ rfl;go_wp2;go_loopw[5] (λi wr=>i=cI cJ 0/\wr=w1) (λ_ _=>0);exact⟨rfl,rfl⟩;obtain⟨rfl,rfl⟩:=hrel;go_wp2;go_ret;exact⟨ABi,hb1⟩
end
end Go.Proofs.YtlffomedflegdaaGreatDoor
