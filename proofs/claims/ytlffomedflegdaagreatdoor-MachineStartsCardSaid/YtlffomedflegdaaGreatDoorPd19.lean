/- Part 19 of the proof: Rjd, Sj, Sk, Sl, Ta, Tb, Tc, Td. -/
import Derived.Test.YtlffomedflegdaaGreatDoorPd18
set_option linter.all false
set_option maxHeartbeats 16000000
set_option maxRecDepth 100000
namespace Go.Proofs.YtlffomedflegdaaGreatDoor
open Go.Proofs.Tryz
open Go.RowKit
open Go.Value renaming int→cI,string→cS,slice→cY,bool→cE
open Go.IntKind renaming i64→cJ
open Option renaming some→cP,none→cX
open Bool renaming false→cA,true→cC
variable {a:Act}{o:Oper}{ops:Array Oper}{p:Pg}{rest:List Oper}{u1 u2 u3 u4 vp:Value}{w w0:World}
def GI{P:Program}{Q:Exit->Act->World->Prop}(hgd:o.guard=cX)(s x:Operand)(t:TypeId)(ho:o.op=.call {callee:=.builtin .append,args:=#[s,x],argTypes:=#[t,t]})(base:Nat) (e:TypeId) (i:TypeInfo) (z:Value) (size bytes:Nat) (ht:P.underlying t=cP (.slice e)) (hi:P.info? e=cP i) (hz:i.zero=cP z)(hsize:i.size=size) (hby:i.bytes=bytes) (hzs:z.cells.size=size) (hsz:0<size)(v:Value) (n:Nat) (xs:List Value) (hs:a.eval s=v) (hown:w.ownsRow base e size v n xs)(pa:Option Addr) (m c:Nat) (news:List Value) (hx:a.eval x=cY pa m c) (hnone:pa=cX->m=0/\c=0) (hl:news.length=m*size)(hnews:∀ad,pa=cP ad->∀j u,news[j]? =cP u->w.cell? (ad.add j)=cP u) (h1:∀u∈news,u.oneCell'=cC)(h63:n+m<=maxLen) (hbytes:(n+m)*bytes<=140737488355328) (hbase:base<=w.heap.size)(h:∀v' w',w'.ownsRow base e size v' (n+m) (xs++news)->w.grownBy w' v.ownBlock->wpList P ops Q rest (a.put o.dst v') w'):wpList P ops Q (o::rest) a w:=by
 cases pa with
 |none=>
  obtain⟨rfl,rfl⟩:=hnone rfl;have hn:news=[]:=List.length_eq_zero_iff.1 (by rw[hl];simp);subst hn
  refine wpList_append_own_none hgd s x t ho base e i size ht hi v n xs hs hown hx (h v w (by simpa using hown) (NM _ _))
 |some ad=>exact wpList_append_own _ hgd s x t ho base e i z size bytes ht hi hz hsize hby hzs hsz v n xs hs hown ad m c news hx hl (hnews ad rfl) h1 h63 hbytes hbase λv' w' h2 h3 _=>h v' w' h2 h3
theorem YP(p:Pg):G9 p=cC↔(p.cs.map Cl.n).Nodup/\(p.xs.map Ex.n).Nodup/\(p.fs.map Fn.n).Nodup/\Dv p p.gs=cC/\(∀c∈p.cs,Dv p c.fs=cC)/\∀f∈p.fs,Cg p f.r=cC/\Dv p (f.ps++f.vs)=cC:=by
 unfold G9;simp only[Bool.and_eq_true,List.all_eq_true];iterate 3 rw[Ip]
 simp
theorem Uk(h0:AA6 w0 w){v:Value}(hp:Cj w0 v p u1 u2 u3 u4)(Fu:rG p):Calls prog 70 #[v] w λe w'=>e=.returned (cE (G9 p))/\AA6 w w':=by
 have hpv:=hp;obtain⟨iv,hjV,hy0,hy1,hy2⟩:=info_parts sw;obtain⟨rfl,hc,hg,hx,hf⟩:=hp;have hg':=hg;have hC:=λW (hW:AA6 w W) x=>Hq (AB h0 hW) hpv x;have hT:=λW (hW:AA6 w W) (l:List Vr) (u:Value) w9 h9 hl=>Ub (w:=W) (AB h0 hW) hpv (l:=l) (u:=u) (w9:=w9) h9 hl;obtain⟨p1,k1,rfl,-,hn1,hc⟩:=hc;obtain⟨p2,k2,rfl⟩:=hg.slice;obtain⟨p3,k3,rfl,-,QY,hx⟩:=hx;obtain⟨p4,k4,rfl,-,iH,hf⟩:=hf;have hb1:=AJ w (.cells #[cE p.ssa,cY p1 p.cs.length k1,cY p2 p.gs.length k2,cY p3 p.xs.length k3,cY p4 p.fs.length k4] 27);have hP:=Ae.alloc w [cE p.ssa,cY p1 p.cs.length k1,cY p2 p.gs.length k2,cY p3 p.xs.length k3,cY p4 p.fs.length k4] 27;obtain⟨R,hR⟩:∃R,R=G9 p:=⟨_,rfl⟩;rw[<-hR];have hF:R=cC↔G9 p=cC:=by rw[hR]
 rw[YP]at hF;replace hF:=Wx hF;have hG:=hT _ hb1 p.gs _ _ (AB h0 hb1) hg';generalize Dv p p.gs=dg at*;go_enter func70,ntmps70;go_wp2_with fail;refine hG.mono ?_;rintro e w1 ⟨rfl,hb⟩;replace hb1:=AB hb1 hb;replace hP:=hP.nx hb;cases dg
 ·have hR:R=cA:=by
   rw[Bool.eq_false_iff];intro h;have:=(hF.out.1 h).2.2.2.1;cases this
  replace hR:=Wx hR;go_wp2;go_ret;exact⟨by rw[hR.out];rfl,hb1⟩
 obtain⟨q0,q1,q2,q3,q4⟩:=hP.c5;go_wp2;obtain⟨wc,rfl⟩:=again w1;go_loopw[3] (λi wr=>∃q:Nat,q<=p.cs.length/\i=cI cJ (q:Int)/\AA6 w wr/\Ae wr w.heap.size [cE p.ssa,cY p1 p.cs.length k1,cY p2 p.gs.length k2,cY p3 p.xs.length k3,cY p4 p.fs.length k4]/\((p.cs.take q).map Cl.n).Nodup/\(∀k,(h:k<p.cs.length)->k<q->Dv p p.cs[k].fs=cC)) (λi _=>p.cs.length-(intOf i).toNat);exact⟨0,AY,rfl,hb1,hP,by simp,λk _ h=>by omega⟩;obtain⟨q,hq,rfl,hb1,hP,hN,hI⟩:=hrel;have qf:=hP.c 1 _ rfl;by_cases hend:q=p.cs.length
 ·subst hend;rw[List.take_length]at hN;replace hN:=Wx hN;replace hI:=Wx hI;have hNc:=hN;have hIc:=hI;go_wp2;obtain⟨we,rfl⟩:=again wr;go_loopw[5] (λi wr=>∃q:Nat,q<=p.xs.length/\i=cI cJ (q:Int)/\AA6 w wr/\Ae wr w.heap.size [cE p.ssa,cY p1 p.cs.length k1,cY p2 p.gs.length k2,cY p3 p.xs.length k3,cY p4 p.fs.length k4]/\((p.xs.take q).map Ex.n).Nodup/\True) (λi _=>p.xs.length-(intOf i).toNat);exact⟨0,AY,rfl,hb1,hP,by simp,trivial⟩;obtain⟨q,hq,rfl,hb1,hP,hN,hI⟩:=hrel;have qf:=hP.c 3 _ rfl;by_cases hend:q=p.xs.length
  ·subst hend;rw[List.take_length]at hN;replace hN:=Wx hN;replace hI:=Wx hI;have nJ:=hN;go_wp2;obtain⟨wf,rfl⟩:=again wr;go_loopw[7] (λi wr=>∃q:Nat,q<=p.fs.length/\i=cI cJ (q:Int)/\AA6 w wr/\Ae wr w.heap.size [cE p.ssa,cY p1 p.cs.length k1,cY p2 p.gs.length k2,cY p3 p.xs.length k3,cY p4 p.fs.length k4]/\((p.fs.take q).map Fn.n).Nodup/\(∀k,(h:k<p.fs.length)->k<q->Cg p p.fs[k].r=cC/\Dv p (p.fs[k].ps++p.fs[k].vs)=cC)) (λi _=>p.fs.length-(intOf i).toNat);exact⟨0,AY,rfl,hb1,hP,by simp,λk _ h=>by omega⟩;obtain⟨q,hq,rfl,hb1,hP,hN,hI⟩:=hrel;have qf:=hP.c 4 _ rfl;by_cases hend:q=p.fs.length
   ·subst hend;rw[List.take_length]at hN;replace hN:=Wx hN;replace hI:=Wx hI;have hR2:R=cC:=by
     rw[hF.out];refine⟨hNc.out,nJ.out,hN.out,by simp,λc hc=>?_,λf hf=>?_⟩
     ·obtain⟨k,hk,rfl⟩:=List.getElem_of_mem hc;exact hIc.out k hk hk
     ·obtain⟨k,hk,rfl⟩:=List.getElem_of_mem hf;exact hI.out k hk hk
    replace hR2:=Wx hR2;go_wp2;go_ret;exact⟨by rw[hR2.out];rfl,hb1⟩
   ·have hlt:q<p.fs.length:=(by omega);have A8:(q:Int)<p.fs.length:=(by omega);go_wp2;obtain⟨wo,rfl⟩:=again wr;go_loopw[8] (λi wr=>∃j:Nat,j<=q/\i=cI cJ (j:Int)/\AA6 wo wr/\∀k,(h:k<j)->(h2:k<p.fs.length)->Fn.n p.fs[k]≠Fn.n p.fs[q]) (λi _=>q-(intOf i).toNat);exact⟨0,AY,rfl,AL,λk h=>by omega⟩;obtain⟨j,hj,rfl,hb3,hne⟩:=hrel;have hb4:=AB hb1 hb3;replace hP:=hP.nx hb3;have qf:=hP.c 4 _ rfl;by_cases IZ:j=q
    ·subst IZ;have Qh:=Hr (f:=Fn.n) hlt hN λk h=>hne k h (by omega);replace Qh:=Wx Qh;replace hI:=Wx hI;obtain⟨a,rfl,⟨c0,z0⟩,⟨c1,z1⟩,⟨v2,c2,r2⟩,⟨v3,c3,r3⟩,v4,c4,r4⟩:=hf j p.fs[j] (by simp);have hw:=AB h0 hb4;replace c0:=AA hw c0;replace c1:=AA hw c1;replace c2:=AA hw c2;replace c3:=AA hw c3;have hvf:=Fu p.fs[j] (by simp);have s2:=r2.sz;have s3:=r3.sz;obtain⟨q1,j1,rfl,m1,n1,r2⟩:=r2;obtain⟨q2,j2,rfl,m2,n2,r3⟩:=r3;have hs1:=LJ λi x hx=>(r2 i x hx).imp λa h=>⟨h.1,h.2.kp hw⟩;have hs2:=LJ λi x hx=>(r3 i x hx).imp λa h=>⟨h.1,h.2.kp hw⟩;have OJ:Cg p p.fs[j].r=cA->R=cA:=λh=>by
      rw[Bool.eq_false_iff];intro h3;have h5:=((hF.out.1 h3).2.2.2.2.2 p.fs[j] (by simp)).1;rw[h]at h5;cases h5
     have K3:Dv p (p.fs[j].ps++p.fs[j].vs)=cA->R=cA:=λh=>by
      rw[Bool.eq_false_iff];intro h3;have h5:=((hF.out.1 h3).2.2.2.2.2 p.fs[j] (by simp)).2;rw[h]at h5;cases h5
     have hnx:Cg p p.fs[j].r=cC->Dv p (p.fs[j].ps++p.fs[j].vs)=cC->∀k,(h:k<p.fs.length)->k<j+1->Cg p p.fs[k].r=cC/\Dv p (p.fs[k].ps++p.fs[k].vs)=cC:=λh1 h1' k h h2=>by
      rcases Nat.lt_or_ge k j with h3|h3
      ·exact hI.out k h h3
      ·obtain rfl:k=j:=(by omega);exact⟨h1,h1'⟩
     have hkn:=Ox p p.fs[j].r;have hCx:=λW (hW:AA6 wr W)=>hC W (AB hb4 hW) p.fs[j].r;have wT:=λW=>Ii p.fs[j].r W;replace OJ:=Wx OJ;replace K3:=Wx K3;replace hnx:=Wx hnx;replace hkn:=Wx hkn;generalize Ai Cl.n p.fs[j].r p.cs=r at*;generalize Dq p.fs[j].r=rf at*;generalize hyy:p.fs[j]=y at*;go_upto_region 30 with fail;obtain⟨n0,oW,z1',hn0⟩:∃(n0:Option Addr) (oW z1':Nat),Hid (n0=cX/\oW=0/\z1'=0):=⟨_,_,_,Wx ⟨rfl,rfl,rfl⟩⟩;have hown0:wr.ownsRow wr.heap.size 71 2 (cY n0 oW z1') oW []:=by
      obtain⟨rfl,rfl,rfl⟩:=hn0.out;exact World.ownsRow_nil _ _ _ _
     rw[show(cY cX 0 0)=cY n0 oW z1' by obtain⟨rfl,rfl,rfl⟩:=hn0.out;rfl];have hz0:Hid (oW+y.ps.length=y.ps.length):=Wx (by obtain⟨rfl,rfl,rfl⟩:=hn0.out;simp);go_wp2_with(at_builtin;go_loud (refine GI rfl _ _ 23 rfl wr.heap.size 71 iv _ 2 32 underlying23 hjV hy0 hy1 hy2 rfl (by decide) _ oW [] rfl hown0 q1 y.ps.length j1 (Dz y.ps) rfl m1 (Jb _) hs1 (NS _) ?c3 ?c4 (AQ) ?_))
     case c3=>have:=hvf.1;rw[hz0.out];unfold maxLen;omega
     case c4=>have:=hvf.1;rw[hz0.out];omega
     intro v1 W1 hown1 hg1;rw[hz0.out]at hown1;obtain⟨pu1,ku1,rfl⟩:=Bf hown1;have J8:=(Below.refl wr.heap.size wr).grown hg1 (AQ) (λg e=>by obtain⟨rfl,rfl,rfl⟩:=hn0.out;cases e);have hPA:=hP.nx J8;replace qf:=hPA.c 4 _ rfl;have c3A:=AA J8 c3;go_wp2_with(at_builtin;go_loud (refine GI rfl _ _ 23 rfl wr.heap.size 71 iv _ 2 32 underlying23 hjV hy0 hy1 hy2 rfl (by decide) _ y.ps.length _ rfl hown1 q2 y.vs.length j2 (Dz y.vs) rfl m2 (Jb _) (λad e i u hu=>AA J8 (hs2 ad e i u hu)) (NS _) ?c3 ?c4 J8.size ?_))
     case c3=>have:=hvf.1;have:=hvf.2;unfold maxLen;omega
     case c4=>have:=hvf.1;have:=hvf.2;omega
     intro v2 W2 hown2 hg2;obtain⟨pu2,ku2,rfl⟩:=Bf hown2;have Db:=J8.grown hg2 J8.size λg e=>(hown1.lt g e).1;have hPc:=hP.nx Db;have hrow:=dK (l:=y.ps++y.vs) (by rw[VG,List.length_append];exact hown2) (λx hx=>(List.mem_append.1 hx).elim (s2 x) (s3 x)) (by rw[List.length_append];omega);have hlen:y.ps.length+y.vs.length=(y.ps++y.vs).length:=(by simp);rw[hlen]at hrow;rw[hlen];replace hrow:=Wx hrow;replace qf:=hPc.c 4 _ rfl;replace c1:=AA Db c1;have hCy:=λW (hW:AA6 W2 W)=>hCx W (AB Db hW);have hbW2:=AB hb4 Db;generalize hvl:y.ps++y.vs=vl at*;clear hvl J8 hCx;have hdr:=(Below.refl W2.heap.size W2).drew;go_wp2;refine ALR (S:=Pd W2 7 8 9 11 (cN r) (cL r) r.isSome) (Pd.start hdr) ?_;(iterate 7((refine AU.f (λz=>z.s.keep rfl rfl rfl rfl) (λz=>ALS ((hPc.nx z.s.1).c5) (ALS (AA z.s.1 qf) (AA z.s.1 c1))) ?_)));refine AU.free (λ_=>rfl) (λV L w1 K' Q' hS hi hR' hd hK=>?_) ?_
     ·go_simp;(go_wp2_with(go_at_call 94;refine(hCy _ hS.1).mono ?_;rintro e w2 ⟨hb,ho⟩;obtain⟨q2,c2,rfl⟩:=ho.form));(try simp only[pE]);exact hK.out _ _ rfl ((hS.world hb).put (λ_=>⟨_,_,rfl⟩) (λe=>absurd e (by decide)) (λe=>absurd e (by decide)) (λe=>absurd e (by decide)))
     (try simp only[pE]);refine AU.free (λ_=>rfl) (λV L w1 K' Q' hS hi hR' hd hK=>?_) ?_
     ·obtain⟨q2,c2,hV⟩:=hS.2.1 (hd.out 7 (by kernel_rfl));simp only[hV];go_simp;(try simp only[pE]);exact hK.out _ _ (by simp only[hV];rfl) (hS.put (λe=>absurd e (by decide)) (λ_=>⟨_,_,rfl⟩) (λe=>absurd e (by decide)) (λe=>absurd e (by decide)))
     (try simp only[pE]);refine AU.free (λ_=>rfl) (λV L w1 K' Q' hS hi hR' hd hK=>?_) ?_
     ·obtain⟨q2,c2,hV⟩:=hS.2.2.1 (hd.out 8 (by kernel_rfl));simp only[hV];go_simp;(try simp only[pE]);exact hK.out _ _ (by simp only[hV];rfl) (hS.put (λe=>absurd e (by decide)) (λe=>absurd e (by decide)) (λ_=>⟨_,_,rfl⟩) (λe=>absurd e (by decide)))
     (try simp only[pE]);refine AU.val (cE r.isSome) (λ_=>rfl) (λV L w1 K' Q' hS hi hR' hd hK=>?_) ?_
     ·obtain⟨q2,c2,hV⟩:=hS.2.2.1 (hd.out 8 (by kernel_rfl));simp only[hV];go_simp;(try simp only[pE]);exact hK.out _ _ (by simp only[hV];rfl) (hS.keep rfl rfl rfl rfl)
     (try simp only[pE]);refine AU.free (λ_=>rfl) (λV L w1 K' Q' hS hi hR' hd hK=>?_) ?_
     ·go_simp;(try simp only[pE]);exact hK.out _ _ rfl ((hS.world (AJ _ _)).put (λe=>absurd e (by decide)) (λe=>absurd e (by decide)) (λe=>absurd e (by decide)) (λ_=>⟨_,_,_,rfl,hS.1.size,by simp,Ae.alloc _ _ _⟩))
     (try simp only[pE]);refine AU.val undef (λ_=>rfl) (λV L w1 K' Q' hS hi hR' hd hK=>?_) ?_
     ·have hl:=hd.out 11 (by kernel_rfl);obtain⟨q2,c2,hV⟩:=hS.2.2.2.1 (hd.out 9 (by kernel_rfl));obtain⟨pb,x,y',hp,hp0,hp1,hx⟩:=hS.2.2.2.2 hl;obtain⟨f0,f1⟩:=hx.f2;obtain⟨d0,d1⟩:=hx.c2;simp only[hV,hp];go_simp;refine hK.out _ _ (by simp only[hV,hp];rfl) ((hS.fill hl hp _ _).keep rfl rfl rfl rfl)
     simp only[Act.put];(refine AU.q (λz=>z.s.keep rfl rfl rfl rfl) ?_);refine AU.nil λV w1 hS=>?_;have hbx:=hS.1;obtain⟨q2,c2,hV1⟩:=hS.2.1 rfl;obtain⟨q3,c3,hV2⟩:=hS.2.2.1 rfl;obtain⟨q4,c4,GX⟩:=hS.2.2.2.1 rfl;obtain⟨pb,x,y',hp,hp0,hp1,hx⟩:=hS.2.2.2.2 rfl;simp only[hV1,hV2,GX,hp];clear hS hV1 hV2 GX hp hCy hdr hx hp0 hp1;have hb5:=AB hbW2 hbx;replace c1:=AA hbx c1;have wU:=hPc.nx hbx;obtain⟨g0,g1,g2,g3,g4⟩:=wU.c5;have hTx:=hT w1 hb5 _ _ _ hbx hrow.out;clear hrow hPc hbW2 Db qf;generalize Dv p vl=dd at*;generalize r.isSome=ok at*;go_wp2_with fail;refine hTx.mono ?_;rintro e w5 ⟨rfl,hb6⟩;clear hTx g0 g1 g2 g3 g4;have BJ:=AB hb5 hb6;replace c1:=AA hb6 c1;have hPe:=wU.nx hb6;have g4:=hPe.c 4 _ rfl;cases dd
     ·have hR2:=Wx (K3.out rfl);clear OJ K3 hnx hkn wT hPe wU hF;go_wp2;go_ret;exact⟨by rw[hR2.out];rfl,BJ⟩
     go_wp2_with fail;refine(wT _).mono ?_;rintro e w6 ⟨rfl,rfl⟩;clear wT;cases hrf:(rf&& !ok)
     ·have hky:Cg p y.r=cC:=by
       rw[hkn.out];revert hrf;cases rf<;>cases ok<;>decide
      have gK:=Wx (hnx.out hky (by simp));clear OJ K3 hnx hkn hky wU;cases rf;all_goals
       first|(have h:=hrf;simp only[Bool.true_and,Bool.not_eq_false']at h;subst h)|skip
       clear hrf;go_wp2;go_roundw;exact⟨j+1,by omega,by go_num,BJ,hPe,Qh.out,gK.out⟩;simp[intOf];omega
     ·simp only[Bool.and_eq_true,Bool.not_eq_true']at hrf;obtain⟨e1,e2⟩:=hrf;have hR2:=Wx (OJ.out (by rw[hkn.out,e1,e2];rfl));subst e1;subst e2;clear OJ K3 hnx hkn hPe wU hF;go_wp2;go_ret;exact⟨by rw[hR2.out];rfl,BJ⟩
    ·have hjq:j<q:=(by omega);have qc:(j:Int)<q:=(by omega);have qU:j<p.fs.length:=(by omega);have Zz:(j:Int)<p.fs.length:=(by omega);obtain⟨a,ha,⟨c0,-⟩,-⟩:=hf q p.fs[q] (by simp);obtain⟨a',ha',⟨d0,-⟩,-⟩:=hf j p.fs[j] (by simp);subst ha;obtain rfl:a=a':=(by simpa using ha');replace c0:=AA (AB h0 hb4) c0;replace d0:=AA (AB h0 hb4) d0;have hno:=Jv (f:=Fn.n) hjq hlt;have hnx:Fn.n p.fs[j]≠Fn.n p.fs[q]->∀k,(h:k<j+1)->(h2:k<p.fs.length)->Fn.n p.fs[k]≠Fn.n p.fs[q]:=λh1 k h h2=>by
      rcases Nat.lt_or_ge k j with h3|h3
      ·exact hne k h3 h2
      ·obtain rfl:k=j:=(by omega);exact h1
     have hbad:Fn.n p.fs[j]=Fn.n p.fs[q]->R=cA:=λh=>by
      rw[Bool.eq_false_iff];intro h3;exact hno h (hF.out.1 h3).2.2.1
     replace hnx:=Wx hnx;replace hbad:=Wx hbad;clear hne hno hN hP ha' hI hf;have hb5:=hb3.drew;have hb6:=hb4.drew;by_cases heq:Fn.n p.fs[j]=Fn.n p.fs[q]
     ·have e1:=EZ heq;have hR2:=Wx (hbad.out heq);clear hnx hbad heq hF;generalize Fn.n p.fs[j]=s1 at*;generalize Fn.n p.fs[q]=s2 at*;go_wp2;refine ALQ (S:=λ_ v=>v=wr.drew) rfl ?_;(iterate 13((apply Ab.z rfl;intro L w1 _ _ _ z hK;have hS:=z.s;(subst hS);go_simp;exact hK (rfl);rfl)));refine Ab.nil λw4 Bb=>?_;subst Bb;clear c0 d0 hb5 hb4 hb3 hb1;go_wp2;go_ret;exact⟨by rw[hR2.out];rfl,hb6⟩
     ·have e1:=Ea heq;replace hnx:=Wx (hnx.out heq);generalize hs1:Fn.n p.fs[j]=s1 at*;generalize hs2:Fn.n p.fs[q]=s2 at*;go_wp2;refine ALQ (S:=λ_ v=>v=wr.drew) rfl ?_;(iterate 13((apply Ab.z rfl;intro L w1 _ _ _ z hK;have hS:=z.s;(subst hS);go_simp;exact hK (rfl);rfl)));refine Ab.nil λw4 Bb=>?_;subst Bb;go_wp2;go_roundw;exact⟨j+1,by omega,by go_num,hb5,hnx.out⟩;simp[intOf];omega
  ·have hlt:q<p.xs.length:=(by omega);have A8:(q:Int)<p.xs.length:=(by omega);go_wp2;obtain⟨wo,rfl⟩:=again wr;go_loopw[6] (λi wr=>∃j:Nat,j<=q/\i=cI cJ (j:Int)/\AA6 wo wr/\∀k,(h:k<j)->(h2:k<p.xs.length)->Ex.n p.xs[k]≠Ex.n p.xs[q]) (λi _=>q-(intOf i).toNat);exact⟨0,AY,rfl,AL,λk h=>by omega⟩;obtain⟨j,hj,rfl,hb3,hne⟩:=hrel;have hb4:=AB hb1 hb3;replace hP:=hP.nx hb3;have qf:=hP.c 3 _ rfl;by_cases IZ:j=q
   ·subst IZ;have Qh:=Hr (f:=Ex.n) hlt hN λk h=>hne k h (by omega);replace Qh:=Wx Qh;replace hI:=Wx hI;go_wp2;go_roundw;exact⟨j+1,by omega,by go_num,hb4,hP,Qh.out,hI.out⟩;simp[intOf];omega
   ·have hjq:j<q:=(by omega);have qc:(j:Int)<q:=(by omega);have qU:j<p.xs.length:=(by omega);have Zz:(j:Int)<p.xs.length:=(by omega);obtain⟨a,ha,⟨c0,-⟩,-⟩:=hx q p.xs[q] (by simp);obtain⟨a',ha',⟨d0,-⟩,-⟩:=hx j p.xs[j] (by simp);subst ha;obtain rfl:a=a':=(by simpa using ha');replace c0:=AA (AB h0 hb4) c0;replace d0:=AA (AB h0 hb4) d0;have hno:=Jv (f:=Ex.n) hjq hlt;have hnx:Ex.n p.xs[j]≠Ex.n p.xs[q]->∀k,(h:k<j+1)->(h2:k<p.xs.length)->Ex.n p.xs[k]≠Ex.n p.xs[q]:=λh1 k h h2=>by
     rcases Nat.lt_or_ge k j with h3|h3
     ·exact hne k h3 h2
     ·obtain rfl:k=j:=(by omega);exact h1
    have hbad:Ex.n p.xs[j]=Ex.n p.xs[q]->R=cA:=λh=>by
     rw[Bool.eq_false_iff];intro h3;exact hno h (hF.out.1 h3).2.1
    replace hnx:=Wx hnx;replace hbad:=Wx hbad;have hb5:=hb3.drew;have hb6:=hb4.drew;by_cases heq:Ex.n p.xs[j]=Ex.n p.xs[q]
    ·have e1:=EZ heq;have hR2:=Wx (hbad.out heq);generalize Ex.n p.xs[j]=s1 at*;generalize Ex.n p.xs[q]=s2 at*;go_wp2;refine ALQ (S:=λ_ v=>v=wr.drew) rfl ?_;(iterate 13((apply Ab.z rfl;intro L w1 _ _ _ z hK;have hS:=z.s;(subst hS);go_simp;exact hK (rfl);rfl)));refine Ab.nil λw4 Bb=>?_;subst Bb;go_wp2;go_ret;exact⟨by rw[hR2.out];rfl,hb6⟩
    ·have e1:=Ea heq;replace hnx:=Wx (hnx.out heq);generalize hs1:Ex.n p.xs[j]=s1 at*;generalize hs2:Ex.n p.xs[q]=s2 at*;go_wp2;refine ALQ (S:=λ_ v=>v=wr.drew) rfl ?_;(iterate 13((apply Ab.z rfl;intro L w1 _ _ _ z hK;have hS:=z.s;(subst hS);go_simp;exact hK (rfl);rfl)));refine Ab.nil λw4 Bb=>?_;subst Bb;go_wp2;go_roundw;exact⟨j+1,by omega,by go_num,hb5,hnx.out⟩;simp[intOf];omega
 ·have hlt:q<p.cs.length:=by omega
  have A8:(q:Int)<p.cs.length:=by omega
  go_wp2;obtain⟨wo,rfl⟩:=again wr;go_loopw[4] (λi wr=>∃j:Nat,j<=q/\i=cI cJ (j:Int)/\AA6 wo wr/\∀k,(h:k<j)->(h2:k<p.cs.length)->Cl.n p.cs[k]≠Cl.n p.cs[q]) (λi _=>q-(intOf i).toNat);exact⟨0,AY,rfl,AL,λk h=>by omega⟩;obtain⟨j,hj,rfl,hb3,hne⟩:=hrel;have hb4:=AB hb1 hb3;replace hP:=hP.nx hb3;have qf:=hP.c 1 _ rfl;by_cases IZ:j=q
  ·subst IZ;have Qh:=Hr (f:=Cl.n) hlt hN λk h=>hne k h (by omega);replace Qh:=Wx Qh;replace hI:=Wx hI;clear hN hne hb1 hb3;obtain⟨a,rfl,⟨c0,-⟩,u,c1,hr⟩:=hc j p.cs[j] (by simp);replace c0:=AA (AB h0 hb4) c0;replace c1:=AA (AB h0 hb4) c1;obtain⟨pf,kf,rfl⟩:=hr.slice;have hTx:=λW (hW:AA6 wr W)=>hT W (AB hb4 hW) _ _ _ (AB h0 (AB hb4 hW)) hr;have hbad:Dv p p.cs[j].fs=cA->R=cA:=λh=>by
    rw[Bool.eq_false_iff];intro h3;have h5:=(hF.out.1 h3).2.2.2.2.1 p.cs[j] (by simp);rw[h]at h5;cases h5
   have hnx:Dv p p.cs[j].fs=cC->∀k,(h:k<p.cs.length)->k<j+1->Dv p p.cs[k].fs=cC:=λh1 k h h2=>by
    rcases Nat.lt_or_ge k j with h3|h3
    ·exact hI.out k h h3
    ·obtain rfl:k=j:=(by omega);exact h1
   clear hr hc hx hf hI;replace hbad:=Wx hbad;replace hnx:=Wx hnx;generalize hdd:Dv p p.cs[j].fs=dd at*;generalize hyy:p.cs[j]=y at*;clear hyy hdd;have hdr:=(Below.refl wr.heap.size wr).drew;go_wp2;refine ALQ (S:=λ_ v=>AA6 wr v) hdr ?_;(iterate 9(first|(refine Ab.f (λz=>z.s) (λz=>ALS ((hP.nx z.s).c5) (ALS (AA z.s c0) (AA z.s c1))) ?_)|(refine Ab.c (λz=>hTx _ z.s) (λz hb=>AB z.s hb) ?_)));refine Ab.nil λw4 Bb=>?_;have hb5:=AB hb4 Bb;replace hP:=hP.nx Bb;clear hdr hTx c0 c1 Bb qf;cases dd
   ·have hR2:=Wx (hbad.out rfl);clear hbad hnx hF hP;go_wp2;go_ret;exact⟨by rw[hR2.out];rfl,hb5⟩
   ·have gK:=Wx (hnx.out rfl);clear hbad hnx;go_wp2;go_roundw;exact⟨j+1,by omega,by go_num,hb5,hP,Qh.out,gK.out⟩;simp[intOf];omega
  ·have hjq:j<q:=(by omega);have qc:(j:Int)<q:=(by omega);have qU:j<p.cs.length:=(by omega);have Zz:(j:Int)<p.cs.length:=(by omega);obtain⟨a,ha,⟨c0,-⟩,-⟩:=hc q p.cs[q] (by simp);obtain⟨a',ha',⟨d0,-⟩,-⟩:=hc j p.cs[j] (by simp);subst ha;obtain rfl:a=a':=(by simpa using ha');replace c0:=AA (AB h0 hb4) c0;replace d0:=AA (AB h0 hb4) d0;have hno:=Jv (f:=Cl.n) hjq hlt;have hnx:Cl.n p.cs[j]≠Cl.n p.cs[q]->∀k,(h:k<j+1)->(h2:k<p.cs.length)->Cl.n p.cs[k]≠Cl.n p.cs[q]:=λh1 k h h2=>by
    rcases Nat.lt_or_ge k j with h3|h3
    ·exact hne k h3 h2
    ·obtain rfl:k=j:=(by omega);exact h1
   have hbad:Cl.n p.cs[j]=Cl.n p.cs[q]->R=cA:=λh=>by
    rw[Bool.eq_false_iff];intro h3;exact hno h (hF.out.1 h3).1
   replace hnx:=Wx hnx;replace hbad:=Wx hbad;clear hne hno hN hP ha' hI hc hx hf;have hb5:=hb3.drew;have hb6:=hb4.drew;by_cases heq:Cl.n p.cs[j]=Cl.n p.cs[q]
   ·have e1:=EZ heq;have hR2:=Wx (hbad.out heq);clear hnx hbad heq hF;generalize Cl.n p.cs[j]=s1 at*;generalize Cl.n p.cs[q]=s2 at*;go_wp2;refine ALQ (S:=λ_ v=>v=wr.drew) rfl ?_;(iterate 13((apply Ab.z rfl;intro L w1 _ _ _ z hK;have hS:=z.s;(subst hS);go_simp;exact hK (rfl);rfl)));refine Ab.nil λw4 Bb=>?_;subst Bb;clear c0 d0 hb5 hb4 hb3 hb1;go_wp2;go_ret;exact⟨by rw[hR2.out];rfl,hb6⟩
   ·have e1:=Ea heq;replace hnx:=Wx (hnx.out heq);clear hbad heq hF;generalize hs1:Cl.n p.cs[j]=s1 at*;generalize hs2:Cl.n p.cs[q]=s2 at*;clear hs1 hs2;go_wp2;refine ALQ (S:=λ_ v=>v=wr.drew) rfl ?_;(iterate 13((apply Ab.z rfl;intro L w1 _ _ _ z hK;have hS:=z.s;(subst hS);go_simp;exact hK (rfl);rfl)));refine Ab.nil λw4 Bb=>?_;subst Bb;clear c0 d0 hb4 hb3 hb6;go_wp2;go_roundw;exact⟨j+1,by omega,by go_num,hb5,hnx.out⟩;simp[intOf];omega
theorem Uz{f:Fn}{x:Is}(h:Di p f x=cC):x.as.length<=8:=by
 cases hf:BH x.op with
 |none=>rw[LB hf]at h;cases h
 |some fm=>
  rw[LA hf]at h;have hm:=LD hf;by_cases hc:(x.as.length:Int)<fm.l\/fm.m<x.as.length
  ·rw[if_pos hc]at h;cases h
  ·omega
def XC(p:Pg)(f:Fn)(b:Bk):Prop:=(∀x∈b.cs,Di p f x=cC)/\Pq f b.e.k b.e.a b.e.n=cC
def Tq(p:Pg)(f:Fn):Prop:=rJ f/\∀(j:Nat) b,f.bs[j]? =cP b->XC p f b
def aj(P:Prop)(e:Ending):Prop:=∃why:Int,e=.returned (cI cJ why)/\(why=0->P)
theorem kJ(h0:AA6 w0 w)(hW:Words w0)(hp:Cj w0 vp p u1 u2 u3 u4){f:Fn}{vf g1 g2 g3:Value}(hf:EL w0 vf f g1 g2 g3)(hn:f.bs.length<=10000)(hno:iP f):Calls prog 71 #[vp,vf] w λe w'=>aj (Tq p f) e/\AA6 w w':=by
 have E8:=λW (hb:AA6 w0 W)=>Ui hb hf hn;have ABF:=λW (hb:AA6 w0 W) (hx:NoX f)=>SI hb hf hn hx;have hIn:=λW (hb:AA6 w0 W) (x:Is) vx y1 y2 y3 (hx:Pv w0 vx x y1 y2 y3)=>Ug hb hW hp hf hx;have hEn:=λW (hb:AA6 w0 W) k a p4 l4 k4 n=>cK hb hf k a p4 l4 k4 n;obtain⟨rfl,hpc,hpg,hpx,hpf⟩:=hp;obtain⟨a1,b1,rfl⟩:=hpc.slice;obtain⟨a2,b2,rfl⟩:=hpg.slice;obtain⟨a3,b3,rfl⟩:=hpx.slice;obtain⟨a4,b4,rfl⟩:=hpf.slice;obtain⟨rfl,-,hp,hv,hb⟩:=hf;obtain⟨p1,k1,rfl⟩:=hp.slice;obtain⟨p2,k2,rfl⟩:=hv.slice;obtain⟨p3,k3,rfl,-,-,hl⟩:=hb;clear hp hv hpc hpg hpx hpf;have hb0:=AJ w (.cells #[cE p.ssa,cY a1 p.cs.length b1,cY a2 p.gs.length b2,cY a3 p.xs.length b3,cY a4 p.fs.length b4] 27);have hb1:=hb0.alloc hb0.size (.cells #[cS f.n,cS f.r,cY p1 f.ps.length k1,cY p2 f.vs.length k2,cY p3 f.bs.length k3] 66);have hP:=(Ae.alloc w [cE p.ssa,cY a1 p.cs.length b1,cY a2 p.gs.length b2,cY a3 p.xs.length b3,cY a4 p.fs.length b4] 27).al (.cells #[cS f.n,cS f.r,cY p1 f.ps.length k1,cY p2 f.vs.length k2,cY p3 f.bs.length k3] 66);have hX:=Ae.alloc (w.alloc (.cells #[cE p.ssa,cY a1 p.cs.length b1,cY a2 p.gs.length b2,cY a3 p.xs.length b3,cY a4 p.fs.length b4] 27)) [cS f.n,cS f.r,cY p1 f.ps.length k1,cY p2 f.vs.length k2,cY p3 f.bs.length k3] 66;have z1:(w.alloc (.cells #[cE p.ssa,cY a1 p.cs.length b1,cY a2 p.gs.length b2,cY a3 p.xs.length b3,cY a4 p.fs.length b4] 27)).heap.size=w.heap.size+1:=by simp
 rw[z1]at hX;clear hb0 z1;have AEZ:=E8 _ (AB h0 hb1);clear E8;go_enter func71,ntmps71;go_wp2_with fail;generalize Cr:(w.alloc _).alloc _=W at*;clear Cr;refine AEZ.mono ?_;rintro e w1 ⟨⟨r,rfl,hr⟩,hb2⟩;have hP1:=hP.nx hb2;have hX1:=hX.nx hb2;have hbb:=AB hb1 hb2;cases r
 ·clear ABF hIn hEn hl;go_wp2;go_ret;exact⟨⟨_,rfl,λh=>absurd h (by decide)⟩,hbb⟩
 have hsh:=hr rfl;replace hsh:=Wx hsh;go_wp2;go_loopw[5] (λi wr=>∃q:Nat,q<=f.bs.length/\i=cI cJ (q:Int)/\Hid (∀(j:Nat) b,j<q->f.bs[j]? =cP b->XC p f b)/\AA6 w1 wr) (λi _=>f.bs.length-(intOf i).toNat);exact⟨0,AY,rfl,Wx (λj b h=>absurd h (Nat.not_lt_zero _)),AL⟩;obtain⟨q,hq,rfl,hS,hb⟩:=hrel;have hP2:=hP1.nx hb;have hX2:=hX1.nx hb;have hb3:=AB hbb hb;have x4:=hX2.c 4 _ rfl;by_cases hend:q=f.bs.length
 ·subst hend;have hall:∀(j:Nat) b,f.bs[j]? =cP b->XC p f b:=λj b h=>hS.out j b (List.getElem?_eq_some_iff.1 h).1 h;have hnx:NoX f:=λb hb=>by
   obtain⟨j,hj⟩:=List.getElem?_of_mem hb;exact⟨(hno j b hj).1,λx hx=>⟨((hno j b hj).2 x hx).1,((hno j b hj).2 x hx).2,Uz ((hall j b hj).1 x hx)⟩⟩
  have hR:=ABF _ (AB h0 hb3) hnx;have hO:Tq p f:=⟨hsh.out,hall⟩;replace hO:=Wx hO;obtain⟨x0,x1,x2,x3⟩:=hX2.c4;go_wp2_with fail;refine hR.mono ?_;rintro e w5 ⟨⟨r,rfl⟩,hb5⟩;have hb6:=AB hb3 hb5;cases r
  ·go_wp2;go_ret;exact⟨⟨_,rfl,λh=>absurd h (by decide)⟩,hb6⟩
  ·go_wp2;go_ret;exact⟨⟨_,rfl,λ_=>hO.out⟩,hb6⟩
 ·have hlt:q<f.bs.length:=by omega
  have A8:(q:Int)<f.bs.length:=by omega
  obtain⟨a,rfl,hA⟩:=hl q f.bs[q] (by simp[hlt]);obtain⟨t1,t2,t3,hI,-,-,c2,c3,c4,c5,c6,c7,c8⟩:=hA.val;obtain⟨-,-,-,hic,hit⟩:=hI;obtain⟨p6,k6,rfl,-,⟨hn6,-⟩,hic⟩:=hic;obtain⟨p7,k7,rfl⟩:=hit.slice;have hk:=AB h0 hb3;replace c2:=AA hk c2;replace c3:=AA hk c3;replace c4:=AA hk c4;replace c5:=AA hk c5;replace c6:=AA hk c6;replace c7:=AA hk c7;replace c8:=AA hk c8;have hget:f.bs[q]? =cP f.bs[q]:=by simp[hlt]
  have hN:XC p f f.bs[q]->∀(j:Nat) b,j<q+1->f.bs[j]? =cP b->XC p f b:=λhs j b hj hjb=>by
   by_cases e:j=q
   ·subst e;rw[hget]at hjb;obtain rfl:=Option.some.inj hjb;exact hs
   ·exact hS.out j b (by omega) hjb
  replace hN:=Wx hN;generalize f.bs[q]=b at*;obtain⟨wo,rfl⟩:=again wr;go_wp2;go_loopw[6] (λi wr=>∃k:Nat,k<=b.cs.length/\i=cI cJ (k:Int)/\Hid (∀x∈b.cs.take k,Di p f x=cC)/\AA6 wo wr) (λi _=>b.cs.length-(intOf i).toNat);exact⟨0,AY,rfl,Wx (by simp),AL⟩;obtain⟨k,hkn,rfl,hT,hb4⟩:=hrel;have wV:=hP2.nx hb4;have Qa:=hX2.nx hb4;obtain⟨y0,y1,y2,y3,y4⟩:=Qa.c5;have c2':=AA hb4 c2;have hbn:=AB hb hb4;have hbf:=AB hb3 hb4;have hk4:=AB h0 hbf;have hbd:=(Below.refl wr.heap.size wr).drew;by_cases hend:k=b.cs.length
  ·subst hend;have hTa:∀x∈b.cs,Di p f x=cC:=(by have:=hT.out;rw[List.take_length]at this;exact this);have hE1:∀W,AA6 wr W->Calls prog 129 #[.agg #[cS f.n,cS f.r,cY p1 f.ps.length k1,cY p2 f.vs.length k2,cY (cP a) f.bs.length k3],.agg #[cI cJ b.e.k,cI cJ b.e.a.k,cS b.e.a.s,cI cJ b.e.a.n,cY p7 b.e.to.length k7,cI cJ b.e.n]] W λe w'=>e=.returned (cE (Pq f b.e.k b.e.a b.e.n))/\AA6 W w':=λW hW=>hEn W (AB hk4 hW) b.e.k b.e.a p7 b.e.to.length k7 b.e.n;have hNe:Pq f b.e.k b.e.a b.e.n=cC->∀(j:Nat) b,j<q+1->f.bs[j]? =cP b->XC p f b:=λh=>hN.out ⟨hTa,h⟩;replace hNe:=Wx hNe;generalize Pq f b.e.k b.e.a b.e.n=eb at*;have e3:=AA hb4 c3;have e4:=AA hb4 c4;have e5:=AA hb4 c5;have e6:=AA hb4 c6;have e7:=AA hb4 c7;have e8:=AA hb4 c8;clear hIn hEn hic hN hT hTa hP2 hX2 wV Qa c2 c3 c4 c5 c6 c7 c8 hb hb3 hk hk4 hP1 hX1;generalize b.e.k=ek at*;generalize b.e.a.k=eak at*;generalize b.e.a.s=eas at*;generalize b.e.a.n=ean at*;generalize b.e.n=en at*;go_wp2;refine ALQ (S:=λ_ v=>AA6 wr v) hbd ?_;(iterate 9(first|(refine Ab.f (λz=>z.s) (λz=>ALS (AA z.s y0) (ALS (AA z.s y1) (ALS (AA z.s y2) (ALS (AA z.s y3) (ALS (AA z.s y4) (ALS (AA z.s e3) (ALS (AA z.s e4) (ALS (AA z.s e5) (ALS (AA z.s e6) (ALS (AA z.s e7) (AA z.s e8))))))))))) ?_)|(refine Ab.c (λz=>hE1 _ z.s) (λz hb=>AB z.s hb) ?_)));refine Ab.nil λw7 iK=>?_;have qo:=AB hbn iK;have ZX:=AB hbf iK;clear hE1 y0 y1 y2 y3 y4 e3 e4 e5 e6 e7 e8 hbd hbn hbf hb4 c2';cases eb
   ·go_wp2;go_ret;exact⟨⟨_,rfl,λh=>absurd h (by decide)⟩,ZX⟩
   ·have hS1:=Wx (hNe.out (by trivial));go_wp2;go_roundw;exact⟨q+1,hlt,by go_num,hS1,qo⟩;simp[intOf];omega
  ·have hkl:k<b.cs.length:=(by omega);have jB:(k:Int)<b.cs.length:=(by omega);obtain⟨a6,rfl,hAI⟩:=hic k b.cs[k] (by simp[hkl]);obtain⟨s1,s2,s3,hI,d0,d1,d2,d3,d4,d5⟩:=hAI.val;have AEd:=λW (hW:AA6 wr W)=>hIn W (AB hk4 hW) b.cs[k] _ _ _ _ hI;obtain⟨m1,j1,rfl⟩:=hI.a.slice;obtain⟨m2,j2,rfl⟩:=hI.f.slice;obtain⟨m3,j3,rfl⟩:=hI.o.slice;replace d0:=AA hk4 d0;replace d1:=AA hk4 d1;replace d2:=AA hk4 d2;replace d3:=AA hk4 d3;replace d4:=AA hk4 d4;replace d5:=AA hk4 d5;have VL:Di p f b.cs[k]=cC->∀x∈b.cs.take (k+1),Di p f x=cC:=λh x hx=>by
    rw[List.take_succ_eq_append_getElem hkl]at hx;rcases List.mem_append.1 hx with h1|h1
    ·exact hT.out x h1
    ·rw[List.mem_singleton.1 h1];exact h
   replace VL:=Wx VL;obtain⟨z0,z1,z2,z3,z4⟩:=wV.c5;have hI1:∀W,AA6 wr W->Calls prog 128 #[.agg #[cE p.ssa,cY a1 p.cs.length b1,cY a2 p.gs.length b2,cY a3 p.xs.length b3,cY a4 p.fs.length b4],.agg #[cS f.n,cS f.r,cY p1 f.ps.length k1,cY p2 f.vs.length k2,cY (cP a) f.bs.length k3],.agg #[cI cJ b.cs[k].op,cS b.cs[k].d,cS b.cs[k].n,.slice m1 b.cs[k].as.length j1,.slice m2 b.cs[k].fr.length j2,.slice m3 b.cs[k].ob.length j3]] W λe w'=>e=.returned (cE (Di p f b.cs[k]))/\AA6 W w':=AEd;generalize Di p f b.cs[k]=ib at*;generalize b.cs[k]=x at*;generalize p.ssa=sa at*;go_wp2;refine ALQ (S:=λ_ v=>AA6 wr v) hbd ?_;(iterate 13(first|(refine Ab.f (λz=>z.s) (λz=>ALS (AA z.s z0) (ALS (AA z.s z1) (ALS (AA z.s z2) (ALS (AA z.s z3) (ALS (AA z.s z4) (ALS (AA z.s y0) (ALS (AA z.s y1) (ALS (AA z.s y2) (ALS (AA z.s y3) (ALS (AA z.s y4) (ALS (AA z.s c2') (ALS (AA z.s d0) (ALS (AA z.s d1) (ALS (AA z.s d2) (ALS (AA z.s d3) (ALS (AA z.s d4) (AA z.s d5))))))))))))))))) ?_)|(refine Ab.c (λz=>hI1 _ z.s) (λz hb=>AB z.s hb) ?_)));refine Ab.nil λw7 iK=>?_;have BJ:=AB hb4 iK;have ZX:=AB hbf iK;cases ib
   ·go_wp2;go_ret;exact⟨⟨_,rfl,λh=>absurd h (by decide)⟩,ZX⟩
   ·have hT1:=Wx (VL.out (by trivial));go_wp2;go_roundw;exact⟨k+1,hkl,by go_num,hT1,BJ⟩;simp[intOf];omega
structure Zm(p:Pg):Prop where
 q:WH 5000000 p
 h:G9 p=cC
 o:∀(j:Nat) f,p.fs[j]? =cP f->Tq p f
 n:∀(j:Nat) f,p.fs[j]? =cP f->iP f
 z:∀(j:Nat) f,p.fs[j]? =cP f->f.bs.length<=32/\f.ps.length<=16/\f.vs.length<=16
def KQ{α:Type}{P:α->Prop}{l:List α}{q:Nat}(hq:q<l.length)(h:∀(j:Nat) f,j<q->l[j]? =cP f->P f)(hp:P l[q]):∀(j:Nat) f,j<q+1->l[j]? =cP f->P f:=λj f hj e=>by
 by_cases hjq:j=q
 ·subst hjq;have:l[j]? =cP l[j]:=by simp[hq]
  rw[this]at e;obtain rfl:=Option.some.inj e;exact hp
 ·exact h j f (by omega) e
def Mf{α:Type}{P:α->Prop}{l:List α}(h:∀(j:Nat) f,j<l.length->l[j]? =cP f->P f):∀(j:Nat) f,l[j]? =cP f->P f:=λj f e=>h j f (List.getElem?_eq_some_iff.1 e).1 e
theorem UU(h0:AA6 w0 w)(hW:Words w0)(hp:Cj w0 vp p u1 u2 u3 u4)(hr:Ky p)(hf:Q0 p):Calls prog 41 #[vp] w λe w'=>aj (Zm p) e/\AA6 w w':=by
 have hR:=λW (hb:AA6 w0 W)=>Uj hb hW hp hr hf;have hH:=λW (hb:AA6 w0 W) (hv:rG p)=>Uk hb hp hv;have yT:=λW (hb:AA6 w0 W) (f:Fn) vf g1 g2 g3 (hvf:EL w0 vf f g1 g2 g3) (hn:f.bs.length<=10000) (hno:iP f)=>kJ hb hW hp hvf hn hno;have hOt:=λW (hb:AA6 w0 W) (f:Fn) vf g1 g2 g3 (hvf:EL w0 vf f g1 g2 g3)=>Xz hb hvf;have hSz:=λW (hb:AA6 w0 W) (f:Fn) vf g1 g2 g3 (hvf:EL w0 vf f g1 g2 g3)=>bQ hb hvf;obtain⟨rfl,hpc,hpg,hpx,hpf⟩:=hp;obtain⟨a1,b1,rfl⟩:=hpc.slice;obtain⟨a2,b2,rfl⟩:=hpg.slice;obtain⟨a3,b3,rfl⟩:=hpx.slice;obtain⟨a4,b4,rfl,-,⟨hn,-⟩,hl⟩:=hpf;have hb1:=AJ w (.cells #[cE p.ssa,cY a1 p.cs.length b1,cY a2 p.gs.length b2,cY a3 p.xs.length b3,cY a4 p.fs.length b4] 27);have hP:=Ae.alloc w [cE p.ssa,cY a1 p.cs.length b1,cY a2 p.gs.length b2,cY a3 p.xs.length b3,cY a4 p.fs.length b4] 27;have Jc:=hR _ (AB h0 hb1);obtain⟨sa,hsa⟩:∃sa,sa=p.ssa:=⟨_,rfl⟩;rw[<-hsa]at hb1 hP Jc hH yT⊢;replace hsa:=Wx hsa;go_enter func41,ntmps41;go_wp2_with fail;generalize Cr:w.alloc _=W at*;refine Jc.mono ?_;rintro e w1 ⟨⟨r,rfl,hq⟩,hb2⟩;have hP1:=hP.nx hb2;have hbb:=AB hb1 hb2;cases r
 ·go_wp2;go_ret;exact⟨⟨_,rfl,λh=>absurd h (by decide)⟩,hbb⟩
 replace hq:=Wx (hq rfl);have x0:=hP1.c 0 _ rfl;cases sa;rotate_left
 ·go_wp2;go_ret;exact⟨⟨_,rfl,λh=>absurd h (by decide)⟩,hbb⟩
 go_wp2;go_loopw[3] (λi wr=>∃q:Nat,q<=p.fs.length/\i=cI cJ (q:Int)/\Hid (∀(j:Nat) f,j<q->p.fs[j]? =cP f->iP f)/\AA6 w1 wr) (λi _=>p.fs.length-(intOf i).toNat);exact⟨0,AY,rfl,Wx (λj b h=>absurd h (Nat.not_lt_zero _)),AL⟩;obtain⟨q,WK,rfl,hS,hb⟩:=hrel;have hP2:=hP1.nx hb;have hb3:=AB hbb hb;have x4:=hP2.c 4 _ rfl;by_cases hend:q=p.fs.length
 ·subst hend;have hNo:∀(j:Nat) f,p.fs[j]? =cP f->iP f:=Mf hS.out;replace hNo:=Wx hNo;obtain⟨wo,rfl⟩:=again wr;go_wp2;go_loopw[4] (λi wr=>∃q:Nat,q<=p.fs.length/\i=cI cJ (q:Int)/\Hid (∀(j:Nat) f,j<q->p.fs[j]? =cP f->f.bs.length<=32/\f.ps.length<=16/\f.vs.length<=16)/\AA6 wo wr) (λi _=>p.fs.length-(intOf i).toNat);exact⟨0,AY,rfl,Wx (λj b h=>absurd h (Nat.not_lt_zero _)),AL⟩;obtain⟨q,WK,rfl,hS,hb⟩:=hrel;have hP3:=hP2.nx hb;have hb4:=AB hb3 hb;have x4:=hP3.c 4 _ rfl;by_cases hend:q=p.fs.length
  ·subst hend;have hZ:∀(j:Nat) f,p.fs[j]? =cP f->f.bs.length<=32/\f.ps.length<=16/\f.vs.length<=16:=Mf hS.out;have hvf:rG p:=λf hf=>by
    obtain⟨j,hj⟩:=List.getElem?_of_mem hf;have:=hZ j f hj;omega
   have hH1:=hH _ (AB h0 hb4) hvf;replace hZ:=Wx hZ;obtain⟨x0,x1,x2,x3⟩:=hP3.c4;obtain⟨hb',hhb⟩:∃hb',hb'=G9 p:=⟨_,rfl⟩;rw[<-hhb]at hH1;replace hhb:=Wx hhb;go_wp2_with fail;refine hH1.mono ?_;rintro e w5 ⟨rfl,hb5⟩;have Y8:=hP3.nx hb5;have hb6:=AB hb4 hb5;cases hb'
   ·go_wp2;go_ret;exact⟨⟨_,rfl,λh=>absurd h (by decide)⟩,hb6⟩
   go_wp2_with fail;obtain⟨wp,rfl⟩:=again wr;go_loopw[6] (λi wr=>∃q:Nat,q<=p.fs.length/\i=cI cJ (q:Int)/\Hid (∀(j:Nat) f,j<q->p.fs[j]? =cP f->Tq p f)/\AA6 w5 wr) (λi _=>p.fs.length-(intOf i).toNat);exact⟨0,AY,rfl,Wx (λj b h=>absurd h (Nat.not_lt_zero _)),AL⟩;obtain⟨q,WK,rfl,hS,hb⟩:=hrel;have hP6:=Y8.nx hb;have BJ:=AB hb6 hb;have x4:=hP6.c 4 _ rfl;by_cases hend:q=p.fs.length
   ·subst hend;have hO:Zm p:=⟨hq.out,hhb.out.symm,Mf hS.out,hNo.out,hZ.out⟩;replace hO:=Wx hO;go_wp2;go_ret;exact⟨⟨_,rfl,λ_=>hO.out⟩,BJ⟩
   ·have hlt:q<p.fs.length:=(by omega);have A8:(q:Int)<p.fs.length:=(by omega);obtain⟨a,rfl,wu⟩:=hl q p.fs[q] (by simp[hlt]);obtain⟨t1,t2,t3,hF,c0,c1,c2,c3,c4⟩:=wu.val;have hgf:p.fs[q]? =cP p.fs[q]:=(by simp[hlt]);have hk:=AB h0 BJ;have hC:=λW (hW:AA6 wr W)=>yT W (AB hk hW) p.fs[q] _ _ _ _ hF (by have:=(hZ.out q _ hgf).1;omega) (hNo.out q _ hgf);obtain⟨m1,j1,rfl⟩:=hF.p.slice;obtain⟨m2,j2,rfl⟩:=hF.v.slice;obtain⟨m3,j3,rfl⟩:=hF.b.slice;have hN:Tq p p.fs[q]->∀(j:Nat) f,j<q+1->p.fs[j]? =cP f->Tq p f:=KQ hlt hS.out;replace hN:=Wx hN;replace c0:=AA hk c0;replace c1:=AA hk c1;replace c2:=AA hk c2;replace c3:=AA hk c3;replace c4:=AA hk c4;obtain⟨x0,x1,x2,x3⟩:=hP6.c4;generalize p.fs[q]=f at*;have hbd:=(Below.refl wr.heap.size wr).drew;go_wp2;refine ALR (S:=GC (λv1=>AA6 wr v1) (λ_=>cX) 6 (λv v1=>(∃why:Int,v=cI cJ why/\(why=0->Tq p f))/\AA6 wr v1)) (GC.start hbd) ?_;(iterate 6((refine AU.f (λz=>z.s.keep rfl rfl) (λz=>have hI:=z.s.k (z.f 6);ALS (AA hI x0) (ALS (AA hI x1) (ALS (AA hI x2) (ALS (AA hI x3) (ALS (AA hI x4) (ALS (AA hI c0) (ALS (AA hI c1) (ALS (AA hI c2) (ALS (AA hI c3) (AA hI c4)))))))))) ?_)));refine AU.free (λ_=>rfl) (λV L w1 K' Q' hS hi hR hd hK=>?_) ?_
    ·have hI:=hS.k hi;have iL:=hC _ hI;go_simp;(go_wp2_with(refine iL.mono ?_;rintro e w2 ⟨⟨why,rfl,hy⟩,hb⟩));(try simp only[pE]);exact hK.out _ _ rfl (GC.call ⟨⟨why,rfl,hy⟩,AB hI hb⟩)
    (try simp only[pE]);((refine AU.step (a1:=?_) (λ_=>rfl) (λV L w1 K' Q' hS hi hR hd hK=>?_) ?_ ?_ ?_;rotate_left);(· (go_simp;(try simp only[pE]);exact hK.out _ (hS.keep rfl rfl)));(· (intro V;rfl));(· (exact λL V V' Kt hl hv=>hv (6) (Classical.byContradiction λh=>by have:=Kt (7) (6) (by kernel_rfl) (by simpa using h);rw[hl]at this;cases this))));refine AU.nil λV w8 hS=>?_;obtain⟨⟨why,hV,hy⟩,Bp⟩:=hS.done rfl;simp only[hV];have hbn:=AB hb Bp;have hbf:=AB BJ Bp;replace hy:=Wx hy
    cases VK:(why !=0)with
    |true=>
     have hne:why≠0:=(by simpa using VK);replace hne:=Wx hne;go_wp2;go_ret
     exact⟨⟨_,rfl,λh=>absurd h hne.out⟩,hbf⟩
    |false=>
     have hw0:why=0:=(by simpa using VK);have hN1:=hN.out (hy.out hw0);replace hN1:=Wx hN1;replace hw0:=Wx hw0;go_wp2;go_roundw;exact⟨q+1,hlt,by go_num,hN1,hbn⟩;simp[intOf];omega
  ·have hlt:q<p.fs.length:=(by omega);have A8:(q:Int)<p.fs.length:=(by omega);obtain⟨a,rfl,wu⟩:=hl q p.fs[q] (by simp[hlt]);obtain⟨t1,t2,t3,hF,c0,c1,c2,c3,c4⟩:=wu.val;have hk:=AB h0 hb4;have hC:=λW (hW:AA6 wr W)=>hSz W (AB hk hW) p.fs[q] _ _ _ _ hF;obtain⟨m1,j1,rfl,-,⟨hn1,-⟩,-⟩:=hF.p;obtain⟨m2,j2,rfl,-,⟨hn2,-⟩,-⟩:=hF.v;obtain⟨m3,j3,rfl,-,⟨QY,-⟩,-⟩:=hF.b;have hN:(p.fs[q].bs.length<=32/\p.fs[q].ps.length<=16/\p.fs[q].vs.length<=16)->∀(j:Nat) f,j<q+1->p.fs[j]? =cP f->f.bs.length<=32/\f.ps.length<=16/\f.vs.length<=16:=λh=>KQ (P:=λf:Fn=>f.bs.length<=32/\f.ps.length<=16/\f.vs.length<=16) hlt hS.out h;replace hN:=Wx hN;replace c0:=AA hk c0;replace c1:=AA hk c1;replace c2:=AA hk c2;replace c3:=AA hk c3;replace c4:=AA hk c4;generalize p.fs[q]=f at*;have hwr2:IntKind.i64.wrap ((f.ps.length:Int)+(f.vs.length:Int))=(f.ps.length:Int)+(f.vs.length:Int):=IntWalk.i64_in _ (by omega);go_upto_region 12 with fail;generalize Cr:wr.alloc _=W2 at*;obtain⟨hba,hY⟩:=ng Cr;have iL:=hC _ hba;obtain⟨y0,y1,y2,y3,y4⟩:=hY.c5;have hbW:=AB hb hba;have hbf:=AB hb4 hba;go_cut[58]from 40 to 57 (λv wx=>∃r:Bool,v=cE r/\(r=cA->f.bs.length<=32/\f.ps.length<=16/\f.vs.length<=16)/\AA6 W2 wx)
   ·cases hd1:decide ((32:Int)<(f.bs.length:Int))with
    |true=>
     have pK:=BK hd1;have hdN:32<f.bs.length:=(by omega);go_wp2;go_meet
     exact⟨_,rfl,(λh=>by cases h),AL⟩
    |false=>
     have pK:=CJ hd1;have hdN:¬32<f.bs.length:=(by omega);go_wp2_with fail;refine iL.mono ?_;rintro e w7 ⟨⟨m,rfl⟩,BJ⟩;have hY7:=hY.nx BJ;obtain⟨-,-,z2,z3⟩:=hY7.c4
     cases hd2:decide ((200:Int)<m)with
     |true=>
      have hmI:=BK hd2;go_wp2;go_meet
      exact⟨_,rfl,(λh=>by cases h),BJ⟩
     |false=>
      have hmI:=CJ hd2
      cases hd3:decide ((16:Int)<(f.ps.length:Int)+(f.vs.length:Int))with
      |true=>
       have hsI:=BK hd3;go_wp2;go_meet
       exact⟨_,rfl,(λh=>by cases h),BJ⟩
      |false=>
       have hsI:=CJ hd3;have hok:f.bs.length<=32/\f.ps.length<=16/\f.vs.length<=16:=(by omega);replace hok:=Wx hok;go_wp2;go_meet;exact⟨_,rfl,(λ_=>hok.out),BJ⟩
   obtain⟨r,rfl,hrr,BJ⟩:=hcut;have hbn:=AB hbW BJ;have hbz:=AB hbf BJ;replace hrr:=Wx hrr;cases r
   ·have hN1:=hN.out (hrr.out (by trivial));replace hN1:=Wx hN1;go_wp2;go_roundw;exact⟨q+1,hlt,by go_num,hN1,hbn⟩;simp[intOf];omega
   ·go_wp2;go_ret;exact⟨⟨_,rfl,λh=>absurd h (by decide)⟩,hbz⟩
 ·have hlt:q<p.fs.length:=by omega
  have A8:(q:Int)<p.fs.length:=by omega
  obtain⟨a,rfl,wu⟩:=hl q p.fs[q] (by simp[hlt]);obtain⟨t1,t2,t3,hF,c0,c1,c2,c3,c4⟩:=wu.val;have hk:=AB h0 hb3;have hC:=hOt wr hk p.fs[q] _ _ _ _ hF;obtain⟨m1,j1,rfl⟩:=hF.p.slice;obtain⟨m2,j2,rfl⟩:=hF.v.slice;obtain⟨m3,j3,rfl⟩:=hF.b.slice;have hN:iP p.fs[q]->∀(j:Nat) f,j<q+1->p.fs[j]? =cP f->iP f:=KQ hlt hS.out;replace hN:=Wx hN;replace c0:=AA hk c0;replace c1:=AA hk c1;replace c2:=AA hk c2;replace c3:=AA hk c3;replace c4:=AA hk c4;generalize p.fs[q]=f at*;go_wp2_with fail;refine hC.mono ?_;rintro e w7 ⟨⟨r,rfl,hrr⟩,BJ⟩;have hbn:=AB hb BJ;have hbz:=AB hb3 BJ;replace hrr:=Wx hrr;cases r
  ·have hN1:=hN.out (hrr.out (by trivial));replace hN1:=Wx hN1;go_wp2;go_roundw;exact⟨q+1,hlt,by go_num,hN1,hbn⟩;simp[intOf];omega
  ·go_wp2;go_ret;exact⟨⟨_,rfl,λh=>absurd h (by decide)⟩,hbz⟩
def Ux(h0:AA6 w0 w)(hW:Words w0)(hp:Cj w0 vp p u1 u2 u3 u4)(hr:Ky p):Calls prog 21 #[vp,cI cJ 4000] w λe w'=>Z9 (Q0 p/\Zm p) e/\AA6 w w':=by
 have hS:=λW (hb:AA6 w0 W) hf=>UU hb hW hp hr hf;have hF:=λW (hb:AA6 w0 W)=>fF hb hp;obtain⟨rfl,hpc,hpg,hpx,hpf⟩:=hp;obtain⟨a1,b1,rfl⟩:=hpc.slice;obtain⟨a2,b2,rfl⟩:=hpg.slice;obtain⟨a3,b3,rfl⟩:=hpx.slice;obtain⟨a4,b4,rfl⟩:=hpf.slice;have hb1:=AJ w (.cells #[cE p.ssa,cY a1 p.cs.length b1,cY a2 p.gs.length b2,cY a3 p.xs.length b3,cY a4 p.fs.length b4] 27);have hP:=Ae.alloc w [cE p.ssa,cY a1 p.cs.length b1,cY a2 p.gs.length b2,cY a3 p.xs.length b3,cY a4 p.fs.length b4] 27;have hF1:=hF _ (AB h0 hb1);obtain⟨sa,hsa⟩:∃sa,sa=p.ssa:=⟨_,rfl⟩;rw[<-hsa]at hb1 hP hF1 hS⊢;replace hsa:=Wx hsa;go_enter func21,ntmps21;go_wp2_with fail;generalize Cr:w.alloc _=W at*;refine hF1.mono ?_;rintro e w1 ⟨hb2,r,rfl,Fu⟩;have hP1:=hP.nx hb2;have hbb:=AB hb1 hb2;cases r
 ·go_wp2;go_ret;exact⟨⟨_,rfl,λh=>by cases h⟩,hbb⟩
 have hfw:=Fu rfl;have hS1:=hS _ (AB h0 hbb) hfw;replace hfw:=Wx hfw;obtain⟨x0,x1,x2,x3,x4⟩:=hP1.c5;go_wp2_with fail;refine hS1.mono ?_;rintro e w2 ⟨⟨why,rfl,hy⟩,hb3⟩;have hb4:=AB hbb hb3;replace hy:=Wx hy
 cases VK:(why==0)with
 |false=>
  go_wp2;go_ret
  exact⟨⟨_,rfl,λh=>by cases h⟩,hb4⟩
 |true=>
  have hw0:why=0:=by simpa using VK
  have hO:Q0 p/\Zm p:=⟨hfw.out,hy.out hw0⟩;replace hO:=Wx hO;replace hw0:=Wx hw0;go_wp2;go_ret;exact⟨⟨_,rfl,λ_=>hO.out⟩,hb4⟩
structure Q6 where (f:Int) (n1:Nat) (fuel:Int) (n2 n3:Nat)
structure Qz(p:Pg)(q:Q6):Prop where
 w:Q0 p
 s:Zm p
 p:0<p.fs.length
 a:q.n1<=20
 b:q.n2<=200
 c:q.n3<=50
 d:q.fuel<=3000
def lU(h0:AA6 w0 w)(hW:Words w0)(hp:Cj w0 vp p u1 u2 u3 u4)(hr:Ky p)(q:Q6)(pa pb pc:Option Addr)(ca cb cc:Nat):Calls prog 9 #[vp,.agg #[cI .u8 q.f,cY pa q.n1 ca,cI cJ q.fuel,cY pb q.n2 cb,cY pc q.n3 cc]] w λe w'=>Z9 (Qz p q) e/\AA6 w w':=by
 have hL:=λW (hb:AA6 w0 W)=>Ux hb hW hp hr;obtain⟨rfl,hpc,hpg,hpx,hpf⟩:=hp;obtain⟨a1,b1,rfl⟩:=hpc.slice;obtain⟨a2,b2,rfl⟩:=hpg.slice;obtain⟨a3,b3,rfl⟩:=hpx.slice;obtain⟨a4,b4,rfl⟩:=hpf.slice;obtain⟨qf,n1,fu,n2,n3⟩:=q;have hb0:=AJ w (.cells #[cE p.ssa,cY a1 p.cs.length b1,cY a2 p.gs.length b2,cY a3 p.xs.length b3,cY a4 p.fs.length b4] 27);have hb1:=hb0.alloc hb0.size (.cells #[cI .u8 qf,cY pa n1 ca,cI cJ fu,cY pb n2 cb,cY pc n3 cc] 30);have hP:=(Ae.alloc w [cE p.ssa,cY a1 p.cs.length b1,cY a2 p.gs.length b2,cY a3 p.xs.length b3,cY a4 p.fs.length b4] 27).al (.cells #[cI .u8 qf,cY pa n1 ca,cI cJ fu,cY pb n2 cb,cY pc n3 cc] 30);have hQ:=Ae.alloc (w.alloc (.cells #[cE p.ssa,cY a1 p.cs.length b1,cY a2 p.gs.length b2,cY a3 p.xs.length b3,cY a4 p.fs.length b4] 27)) [cI .u8 qf,cY pa n1 ca,cI cJ fu,cY pb n2 cb,cY pc n3 cc] 30;have z1:(w.alloc (.cells #[cE p.ssa,cY a1 p.cs.length b1,cY a2 p.gs.length b2,cY a3 p.xs.length b3,cY a4 p.fs.length b4] 27)).heap.size=w.heap.size+1:=by simp
 rw[z1]at hQ;have hL1:=hL _ (AB h0 hb1);dsimp only;go_enter func9,ntmps9;go_wp2_with fail;generalize Cr:(w.alloc _).alloc _=W at*;refine hL1.mono ?_;rintro e w1 ⟨⟨r,rfl,hy⟩,hb2⟩;have hP1:=hP.nx hb2;have hQ1:=hQ.nx hb2;have hbb:=AB hb1 hb2;have x4:=hP1.c 4 _ rfl;obtain⟨-,y1,y2,y3,y4⟩:=hQ1.c5;cases r
 ·go_wp2;go_ret;exact⟨⟨_,rfl,λh=>by cases h⟩,hbb⟩
 replace hy:=Wx (hy rfl)
 cases e1:decide ((0:Int)<(p.fs.length:Int))with
 |false=>
  have g1:=CJ e1;have g2:¬0<p.fs.length:=by omega
  go_wp2;go_ret
  exact⟨⟨_,rfl,λh=>by cases h⟩,hbb⟩
 |true=>
 have g1:=BK e1;have g2:0<p.fs.length:=by omega
 cases e2:decide ((n1:Int)<=20)with
 |false=>
  have g3:=CJ e2;have g4:¬n1<=20:=by omega
  go_wp2;go_ret
  exact⟨⟨_,rfl,λh=>by cases h⟩,hbb⟩
 |true=>
 have g3:=BK e2;have g4:n1<=20:=by omega
 cases e3:decide ((n2:Int)<=200)with
 |false=>
  have g5:=CJ e3;have g6:¬n2<=200:=by omega
  go_wp2;go_ret
  exact⟨⟨_,rfl,λh=>by cases h⟩,hbb⟩
 |true=>
 have g5:=BK e3;have g6:n2<=200:=by omega
 cases e4:decide ((n3:Int)<=50)with
 |false=>
  have g7:=CJ e4;have g8:¬n3<=50:=by omega
  go_wp2;go_ret
  exact⟨⟨_,rfl,λh=>by cases h⟩,hbb⟩
 |true=>
 have g7:=BK e4;have g8:n3<=50:=by omega
 cases e5:decide (fu<=3000)with
 |false=>
  have g9:=CJ e5;go_wp2;go_ret
  exact⟨⟨_,rfl,λh=>by cases h⟩,hbb⟩
 |true=>
  have g9:=BK e5;have hO:Qz p ⟨qf,n1,fu,n2,n3⟩:=⟨hy.out.1,hy.out.2,g2,g4,g6,g8,g9⟩;replace hO:=Wx hO;go_wp2;go_ret;exact⟨⟨_,rfl,λ_=>hO.out⟩,hbb⟩
theorem YA(h0:AA6 w0 w)(hp:Cj w0 vp p u1 u2 u3 u4)(hn0:0<p.fs.length)(qf:Nat)(hq:qf<256){v1 v2 v3 v4:Value}(g1:v1.oneCell'=cC)(g2:v2.oneCell'=cC)(g3:v3.oneCell'=cC)(g4:v4.oneCell'=cC):Calls prog 11 #[vp,.agg #[cI .u8 (qf:Int),v1,v2,v3,v4]] w λe w'=>e=.returned (cS (p.fs[qf%p.fs.length]'(Nat.mod_lt _ hn0)).n)/\AA6 w w':=by
 obtain⟨rfl,hpc,hpg,hpx,hpf⟩:=hp;obtain⟨a1,b1,rfl⟩:=hpc.slice;obtain⟨a2,b2,rfl⟩:=hpg.slice;obtain⟨a3,b3,rfl⟩:=hpx.slice;obtain⟨a4,b4,rfl,-,⟨hnn,-⟩,hl⟩:=hpf;have hm:=Nat.mod_lt qf hn0;obtain⟨a,rfl,⟨c0,-⟩,-⟩:=hl (qf%p.fs.length) p.fs[qf%p.fs.length] (by simp[hm]);generalize(p.fs[qf%p.fs.length]'(Nat.mod_lt _ hn0)).n=nm at*;have hmI:((qf%p.fs.length:Nat):Int)<p.fs.length:=by omega
 have htm:(qf:Int).tmod (p.fs.length:Int)=((qf%p.fs.length:Nat):Int):=by rw[Int.tmod_eq_emod_of_nonneg (by omega)];simp
 have hwq:IntKind.i64.wrap ((qf:Int))=(qf:Int):=IntWalk.i64_in _ (by omega);have hwm:IntKind.i64.wrap ((qf%p.fs.length:Nat):Int)=((qf%p.fs.length:Nat):Int):=IntWalk.i64_in _ (by omega);have hne:(p.fs.length:Int)≠0:=by omega
 have xq:(0:Int)<p.fs.length:=by omega
 have AJU:¬p.fs.length=0:=by omega
 generalize qf%p.fs.length=m at*;generalize p.fs.length=n at*;have hb0:=AJ w (.cells #[cE p.ssa,cY a1 p.cs.length b1,cY a2 p.gs.length b2,cY a3 p.xs.length b3,cY (cP a) n b4] 27);have hb1:=hb0.alloc hb0.size (.cells #[cI .u8 (qf:Int),v1,v2,v3,v4] 30);have hP:=(Ae.alloc w [cE p.ssa,cY a1 p.cs.length b1,cY a2 p.gs.length b2,cY a3 p.xs.length b3,cY (cP a) n b4] 27).al (.cells #[cI .u8 (qf:Int),v1,v2,v3,v4] 30);have hQ:=Ae.alloc (w.alloc (.cells #[cE p.ssa,cY a1 p.cs.length b1,cY a2 p.gs.length b2,cY a3 p.xs.length b3,cY (cP a) n b4] 27)) [cI .u8 (qf:Int),v1,v2,v3,v4] 30;have z1:(w.alloc (.cells #[cE p.ssa,cY a1 p.cs.length b1,cY a2 p.gs.length b2,cY a3 p.xs.length b3,cY (cP a) n b4] 27)).heap.size=w.heap.size+1:=by simp
 rw[z1]at hQ;go_enter func11,ntmps11;go_upto_region 1 with fail;generalize Cr:(w.alloc _).alloc _=W at*;have x4:=hP.c 4 _ rfl;have y0:=hQ.c 0 _ rfl;replace c0:=AA (AB h0 hb1) c0;refine ALQ (S:=λ_ v=>v=W.drew) rfl ?_;iterate 13((apply Ab.z rfl;intro L w1 _ _ _ z hK;have hS:=z.s;(subst hS);go_simp;exact hK (rfl);rfl))
 refine Ab.nil λw8 iJ=>?_;subst iJ;go_wp2;go_ret;exact⟨rfl,hb1.drew⟩
section
open Go.MapKept Go.ChangeMaps
abbrev Gm:=List (ByteArray×Value)
def OD(x:ByteArray×Value):Value×Value:=(cS x.1,x.2)
def Gc(w:World)(b:Nat)(m:Gm):Prop:=
 ∃es clock,w.heap[b]? =cP (.map es clock)/\Stamped es clock/\es.toList.map (λe=>(e.key,e.val))=m.map OD
section
variable {P : Program} {w : World} {t kt et : TypeId} {b : Nat} {m : Gm}
def Gc.keys{es:Array MapEntry}(h:es.toList.map (λe=>(e.key,e.val))=m.map OD):∀x∈es.toList,∃y∈m,x.key=cS y.1/\x.val=y.2:=by
 intro x hx;have:(x.key,x.val)∈m.map OD:=h▸List.mem_map.2 ⟨x,hx,rfl⟩;obtain⟨y,hy,e⟩:=List.mem_map.1 this;simp only[OD,Prod.mk.injEq]at e;exact⟨y,hy,e.1.symm,e.2.symm⟩
def Gc.MS{es:Array MapEntry}(h:es.toList.map (λe=>(e.key,e.val))=m.map OD):∀x∈es.toList,IsKey .string x.key:=λx hx=>by
 obtain⟨y,_,e,_⟩:=Gc.keys h x hx;rw[e];trivial
def Gc.made{clock:Nat}:Gc (w.alloc (.map #[] clock)) w.heap.size []:=⟨#[],clock,(MapKept.heap_alloc w _).1,stamped_empty clock,rfl⟩
def bX(hm:P.underlying t=cP (.map kt et))(hk:P.underlying kt=cP .string)(h:Gc w b m)(x:ByteArray)(v:Value)(hx:(m.all λy=> !(decide (y.1=x)))=cC):∃o2,(Instr.mapUpdate t (.map (cP b)) (cS x) v).run P w=.ok () (Dx w b o2)/\Gc (Dx w b o2) b (m++[(x,v)]):=by
 obtain⟨es,clock,hb,hs,he⟩:=h;have hno:∀y∈es.toList,y.key≠ cS x:=λy hy e=>by
  obtain⟨z,hz,e1,-⟩:=Gc.keys he y hy;have:=List.all_eq_true.1 hx z hz;rw[e1]at e;have:z.1=x:=by simpa using e
  simp_all
 rcases findNow_spec (LV x) es.toList 0 (Gc.MS he)with⟨h1,h2⟩|⟨j,e,h1,h2,h3⟩
 ·refine⟨.map (es.push ⟨cS x,v,clock⟩) (clock+1),?_,_,_,KW hb,stamped_push hs h2,?_⟩
  ·simp[Instr.mapUpdate,run_underlying hm,MapKept.run_getObj_map hb,MapKept.run_checkKey hk (LV x),MapKept.run_findKey hk h1,MapKept.run_setObj_map _ hb,Result.andThen,Dx]
  ·simp[he,OD]
 ·exact absurd h3 (hno e (List.mem_of_getElem? h2))
theorem bZ(hm:P.underlying t=cP (.map kt et))(hk:P.underlying kt=cP .string)(h:Gc w b m)(x:ByteArray)(j:Nat)(v:Value)(hj:m[j]? =cP (x,v)):(Instr.lookup t (.map (cP b)) (cS x) cA).run P w=.ok v w:=by
 obtain⟨es,clock,hb,hs,he⟩:=h;have wL:(es.toList.map (λe=>(e.key,e.val)))[j]? =cP (cS x,v):=by rw[he,List.getElem?_map,hj];rfl
 rw[List.getElem?_map]at wL
 cases hq:es.toList[j]? with
 |none=>rw[hq]at wL;cases wL
 |some e=>
  rw[hq]at wL;obtain⟨hek,hev⟩:e.key=cS x/\e.val=v:=by simpa using wL
  rcases findNow_spec (LV x) es.toList 0 (Gc.MS he)with⟨h1,h2⟩|⟨i,e',h1,h2,h3⟩
  ·exact absurd hek (h2 e (List.mem_of_getElem? hq))
  ·have hnd:=hs.2.2;have hij:i=j:=by
    have hi:(es.toList.map (·.key))[i]? =cP (cS x):=(by rw[List.getElem?_map,h2,<-h3];rfl);have hjj:(es.toList.map (·.key))[j]? =cP (cS x):=(by rw[List.getElem?_map,hq,<-hek];rfl);have li:=(List.getElem?_eq_some_iff.1 hi).1;have lj:=(List.getElem?_eq_some_iff.1 hjj).1
    exact(List.getElem_inj hnd).1 (by
     have a:=(List.getElem?_eq_some_iff.1 hi).2;have b:=(List.getElem?_eq_some_iff.1 hjj).2
     rw[a,b])
   subst hij;rw[hq]at h2;obtain rfl:=Option.some.inj h2;rw[hev]at h1;simp[Instr.lookup,run_underlying hm,MapKept.run_getObj_map hb,MapKept.run_checkKey hk (LV x),MapKept.run_findKey hk h1,Result.andThen]
def SH(hm:P.underlying t=cP (.map kt et))(hk:P.underlying kt=cP .string){z:Value}(hz:∀u:World,(zeroValue et).run P u=.ok z u)(h:Gc w b m)(x:ByteArray)(hx:(m.all λy=> !(decide (y.1=x)))=cC):(Instr.lookup t (.map (cP b)) (cS x) cA).run P w=.ok z w:=by
 obtain⟨es,clock,hb,hs,he⟩:=h;have hno:∀y∈es.toList,y.key≠ cS x:=λy hy e=>by
  obtain⟨z,hz,e1,-⟩:=Gc.keys he y hy;have:=List.all_eq_true.1 hx z hz;rw[e1]at e;have:z.1=x:=by simpa using e
  simp_all
 rcases findNow_spec (LV x) es.toList 0 (Gc.MS he)with⟨h1,h2⟩|⟨j,e,h1,h2,h3⟩
 ·simp[Instr.lookup,run_underlying hm,MapKept.run_getObj_map hb,MapKept.run_checkKey hk (LV x),MapKept.run_findKey hk h1,hz,Result.andThen]
 ·exact absurd h3 (hno e (List.mem_of_getElem? h2))
def jd{Q:Exit->Act->World->Prop}{v:Value}{x:ByteArray}(hgd:o.guard=cX)(mo ko xo:Operand)(ho:o.op=Op.insert t mo ko xo)(hd:o.dst=cX)(hm:P.underlying t=cP (.map kt et))(hk:P.underlying kt=cP .string)(h:Gc w b m) (h1:a.eval mo=.map (cP b)) (h2:a.eval ko=cS x) (h3:a.eval xo=v) (hx:(m.all λy=> !(decide (y.1=x)))=cC)(hK:∀w',Gc w' b (m++[(x,v)])->w.grownBy w' (cP b)->wpList P ops Q rest a w'):wpList P ops Q (o::rest) a w:=by
 obtain⟨o2,hr,hg⟩:=bX hm hk h x v hx;refine wpList_plain hgd λK hK'=>?_;unfold Oper.wp;simp[execOp,ho,h1,h2,h3,hr,Result.andThen,hd,Act.put,Oper.upon];have:=hK' _ _ (hK _ hg (Hz _ _ _));simpa[hd,Act.put]using this
end
def je{P:Program}{t kt et:TypeId}{b:Nat}{m:Gm}{Q:Exit->Act->World->Prop}{x:ByteArray}{F:Nat}(hgd:o.guard=cX)(mo:Operand)(ho:o.op=Op.insert t mo (.const (cS x)) (.func F))(hd:o.dst=cX)(hm:P.underlying t=cP (.map kt et))(hk:P.underlying kt=cP .string)(h:Gc w b m) (h1:a.eval mo=.map (cP b)) (hx:(m.all λy=> !(decide (y.1=x)))=cC)(hK:∀w',Gc w' b (m++[(x,.func (Fn.func F) #[] #[])])->w.grownBy w' (cP b)->wpList P ops Q rest a w'):wpList P ops Q (o::rest) a w:=
 jd hgd mo _ _ ho hd hm hk h h1 rfl rfl hx hK
def ZI:List (ByteArray×Nat):=[(⟨#[115,115,97]⟩,101),(⟨#[99,108,97,115,115]⟩,102),(⟨#[102,105,101,108,100]⟩,103),(⟨#[103,108,111,98,97,108]⟩,104),(⟨#[101,120,116,101,114,110]⟩,105),
 (⟨#[102,117,110,99]⟩,106),(⟨#[112,97,114,97,109]⟩,107),(⟨#[118,97,114]⟩,108),(⟨#[98,108,111,99,107]⟩,109),(⟨#[112,104,105]⟩,110),(⟨#[97,116]⟩,111),(⟨#[111,98,106]⟩,112),
 (⟨#[106,117,109,112]⟩,113),(⟨#[98,114,97,110,99,104]⟩,113),(⟨#[114,101,116]⟩,113),(⟨#[116,114,97,112]⟩,113)]
def fnV(F:Nat):Value:=.func (Fn.func F) #[] #[]
def rGm:Gm:=ZI.map λx=>(x.1,fnV x.2)
def SL(s:ByteArray)(F:Nat)(hF:(∃j:Nat,ZI[j]? =cP (s,F))\/((ZI.all λy=> !(decide (y.1=s)))=cC/\F=62))(w:World):Calls prog 61 #[cS s] w λe w'=>e=.returned (.func (Fn.func F) #[] #[])/\AA6 w w':=by
 have hmm:= @run_makeMap prog;have hMm:prog.underlying 178=cP (.map 9 146):=by kernel_rfl
 have Yv:prog.underlying 9=cP .string:=by kernel_rfl
 have hMz:∀u:World,(zeroValue 146).run prog u=.ok .nilFunc u:=λu=>by
  have h1:prog.underlying 146=prog.underlying 146:=rfl;go_simp
 have hn1:∀w,(binOp BinOp.neq 146 (.func (Fn.func F) #[] #[]) .nilFunc).run prog w=.ok (cE cC) w:=λ_=>rfl;have hn2:∀w,(binOp BinOp.neq 146 .nilFunc .nilFunc).run prog w=.ok (cE cA) w:=λ_=>rfl;have hg:=Gc.made (w:=w) (clock:=0);have hB:=AJ w (.map #[] 0);go_enter func61,ntmps61;go_upto_region 2 with(refine je rfl _ rfl rfl hMm Yv hg rfl rfl ?_;intro w1 hg1 hgr;replace hB:=hB.grown hgr hB.size (λk e=>by cases e;exact AQ);replace hg:=hg1;clear hg1 hgr)
 replace hg:Gc _ w.heap.size rGm:=hg;rcases hF with⟨j,hj⟩|⟨hno,rfl⟩
 ·have hL:=bZ hMm Yv hg s j (fnV F) (by unfold rGm;rw[List.getElem?_map,hj];rfl);unfold fnV at hL;go_wp2;go_ret;exact⟨rfl,hB⟩
 ·have hL:=SH hMm Yv hMz hg s (by unfold rGm;rw[List.all_map];exact hno);go_wp2;go_ret;exact⟨rfl,hB⟩
end
abbrev L6:ByteArray:=⟨#[111,117,116]⟩
def oD(s:ByteArray):Bool:=(List.range 201).all λa=> !(decide ((s.extract (a+1) (a+4)).data.toList=[111,117,116]))
def Rn{s:ByteArray}(h:oD s=cC){a q:Nat}(ha:a<=200):((s.extract (a+1) q).toList==L6.toList)=cA:=by
 rw[beq_eq_false_iff_ne];intro e;rw[ByteArray.toList_eq,ByteArray.toList_eq]at e;have e3:(s.extract (a+1) q).data.toList=[111,117,116]:=e;have h1:(!(decide ((s.extract (a+1) (a+4)).data.toList=[111,117,116])))=cC:=List.all_eq_true.1 h a (by simp;omega);have hl:min (q-(a+1)) (s.size-(a+1))=3:=by
  have:=congrArg List.length e3;simpa using this
 have h2:s.extract (a+1) q=s.extract (a+1) (a+4):=by
  apply ByteArray.ext;rw[ByteArray.data_extract,ByteArray.data_extract];apply Array.ext
  ·simp;have:s.data.size=s.size:=rfl;omega
  ·intro i h3 h4;simp
 rw[h2]at e3;rw[e3]at h1;exact absurd h1 (by decide)
def uU(e:Ending):Prop:=∃t:ByteArray,e=.returned (cS t)/\(t.toList==L6.toList)=cA
def AAz(op:Int)(e:Ending):Prop:=∃(t:ByteArray) (d n:Bool) (l m:Int),e=.returned (.tuple #[.agg #[cS t,cE d,cE n,cI cJ l,cI cJ m],cE cC])/\(t.toList==L6.toList)=decide (op=33)/\(op=33->d=cA/\n=cA/\l=1/\m=1)
theorem Rm(s:ByteArray)(hs:1<=s.size/\s.size<=200)(hx:Hid (oD s=cC))(n:Int)(hn:1<=n/\n<=30)(w:World):Calls prog 165 #[cS s,cI cJ n] w λe w'=>w=w'/\uU e:=by
 go_enter func165,ntmps165;go_wp2;go_loopw[1,5,6] (λm f i wr=>∃q a:Nat,∃k:Int,q<=s.size/\a<q/\i=cI cJ (q:Int)/\f=cI cJ (a:Int)/\m=cI cJ k/\1<=k/\k<=30/\wr=w) (λ_ _ i _=>s.size-(intOf i).toNat);exact⟨1,0,n,hs.1,by omega,rfl,rfl,rfl,hn.1,hn.2,rfl⟩;obtain⟨q,a,k,hq,ha,rfl,rfl,rfl,hk1,hk2,rfl⟩:=hrel;by_cases hend:q=s.size
 ·subst hend;go_wp2;go_ret;exact⟨rfl,_,rfl,by first|(exact Rn (a:=a) hx.out (by omega))|(rw[ByteArray.toList_eq,ByteArray.toList_eq];decide)⟩
 ·have hlt:q<s.size:=by omega
  have nA:(q:Int)<s.size:=by omega
  generalize hcc:s[q]=c;have hcell:s[q]=c:=hcc;by_cases h32:c=32
  ·subst h32;have hc:(((32:UInt8).toNat:Nat):Int)=32:=rfl;by_cases hk:k=1
   ·subst hk;go_wp2;go_ret;exact⟨rfl,_,rfl,by first|(exact Rn (a:=a) hx.out (by omega))|(rw[ByteArray.toList_eq,ByteArray.toList_eq];decide)⟩
   ·have hk0:(k-1==0)=cA:=(by simp;omega);go_wp2;go_roundw;exact⟨q+1,q,k-1,by omega,by omega,by go_num,rfl,by go_num,by omega,by omega,trivial⟩;simp[intOf];omega
  ·have hc:((c.toNat:Int) !=32)=cC:=by simp only[bne_iff_ne];exact λh=>h32 (UInt8.toNat_inj.1 (by show c.toNat=32;omega))
   go_wp2;go_roundw;exact⟨q+1,a,k,by omega,by omega,by go_num,rfl,rfl,hk1,hk2,trivial⟩;simp[intOf];omega
theorem Vs(op:Int)(hop:1<=op/\op<=33)(w:World):Calls prog 116 #[cI cJ op] w λe w'=>AA6 w w'/\AAz op e:=by
 have hb:=AJ w (.cells #[cS ⟨#[]⟩,cE cA,cE cA,cI cJ 0,cI cJ 0] 182);have hB:=Ae.alloc w [cS ⟨#[]⟩,cE cA,cE cA,cI cJ 0,cI cJ 0] 182;obtain⟨g0,g1,g2,g3,g4⟩:=hB.f5;obtain⟨b0,b1,b2,b3,b4⟩:=hB.c5;by_cases h1:1<=op/\op<=21
 ·skip
  obtain⟨l1,l2⟩:=h1;go_enter func116,ntmps116;go_wp2_with fail;refine(Rm _ (by decide) (Wx (by decide)) op ⟨l1,by omega⟩ _).mono ?_;rintro e w1 ⟨rfl,t,rfl,ht⟩;replace ht:=Wx ht;go_wp2;(refine rB rfl (by go_simp;try rfl) rfl ?_);exact⟨by(repeat(first|with_reducible assumption|exact AJ _ _|exact AL|refine Below.drew ?_|refine Below.setCell ?_ (by first|exact AQ|(dsimp only;omega)) _|refine Below.alloc ?_ (by first|exact AQ|(simp;omega)|simp) _)),_,_,_,_,_,rfl,by rw[ht.out];exact(decide_eq_false (by omega)).symm,λe=>by omega⟩
 by_cases h2:22<=op/\op<=24
 ·skip
  obtain⟨l1,l2⟩:=h2;have l3:¬op<=21:=by omega
  have l4:1<=op:=by omega
  have hr:IntKind.i64.wrap (op-21)=op-21:=by rw[IntKind.wrap_i64];omega
  go_enter func116,ntmps116;go_wp2_with fail;refine(Rm _ (by decide) (Wx (by decide)) (op-21) ⟨by omega,by omega⟩ _).mono ?_;rintro e w1 ⟨rfl,t,rfl,ht⟩;replace ht:=Wx ht;go_wp2;(refine rB rfl (by go_simp;try rfl) rfl ?_);exact⟨by(repeat(first|with_reducible assumption|exact AJ _ _|exact AL|refine Below.drew ?_|refine Below.setCell ?_ (by first|exact AQ|(dsimp only;omega)) _|refine Below.alloc ?_ (by first|exact AQ|(simp;omega)|simp) _)),_,_,_,_,_,rfl,by rw[ht.out];exact(decide_eq_false (by omega)).symm,λe=>by omega⟩
 obtain rfl|rfl|rfl|rfl|rfl|rfl|rfl|rfl|rfl:op=25\/op=26\/op=27\/op=28\/op=29\/op=30\/op=31\/op=32\/op=33:=by omega
 all_goals
  go_enter func116,ntmps116;go_wp2;(refine rB rfl (by go_simp;try rfl) rfl ?_);exact⟨by(repeat(first|with_reducible assumption|exact AJ _ _|exact AL|refine Below.drew ?_|refine Below.setCell ?_ (by first|exact AQ|(dsimp only;omega)) _|refine Below.alloc ?_ (by first|exact AQ|(simp;omega)|simp) _)),_,_,_,_,_,rfl,by simp only[ByteArray.toList_eq];decide,by decide⟩
section
open Word Num Dp
def Ef(w:World):Calls prog 63 #[cE cC] w λe w'=>e=.returned (.tuple #[])/\w=w':=by
 go_enter func63,ntmps63;go_wp2;go_end0;exact⟨rfl,rfl⟩
def Hg(n m:Int)(h:n<m)(w:World):Calls prog 156 #[cI cJ n,cI cJ m] w λe w'=>e=.returned (.tuple #[])/\w=w':=by
 have h2:¬m<=n:=by omega
 go_enter func156,ntmps156;go_wp2;go_end0;exact⟨rfl,rfl⟩
theorem lK{p:Nat}{l:List Int}(hb:Ae w p (l.map (Value.int .i64)))(n:Int)(hn:n∈l)(hl:l.length<=100):Calls prog 64 #[cY (cP ⟨p,0,cX⟩) l.length l.length,cI cJ n] w λe w'=>e=.returned (cE cC)/\w=w':=by
 have hc:∀(i:Nat) (h:i<l.length),w.cell? ⟨p,i,cX⟩=cP (cI cJ l[i]):=λi h=>hb.c i _ (by simp[h]);replace hc:=Wx hc;go_enter func64,ntmps64;go_wp2;go_loopw[9] (λi wr=>∃q:Nat,q<=l.length/\i=cI cJ (q:Int)/\Hid (n∈l.drop q)/\wr=w) (λi _=>l.length-(intOf i).toNat);exact⟨0,AY,rfl,Wx (by simpa using hn),rfl⟩;obtain⟨q,hq,rfl,hD,rfl⟩:=hrel;by_cases hend:q=l.length
 ·subst hend;have:=hD.out;simp at this
 ·have hlt:q<l.length:=by omega
  have A8:(q:Int)<l.length:=by omega
  have c0:=hc.out q hlt;have hD:=hD.out;rw[List.drop_eq_getElem_cons hlt,List.mem_cons]at hD;generalize l[q]=m at*
  cases e1:((m:Int)==n)with
  |true=>
   go_wp2;go_ret
   exact⟨rfl,rfl⟩
  |false=>
   have hD2:n∈l.drop (q+1):=by
    rcases hD with h|h
    ·subst h;simp at e1
    ·exact h
   replace hD2:=Wx hD2;go_wp2;go_roundw;exact⟨q+1,hlt,by go_num,hD2,trivial⟩;simp[intOf];omega
def E5{p R:Nat}{l:List Int}(hb:Ae w p (l.map (Value.int .i64)))(n:Int)(hn:n∈l)(hl:l.length<=100)(hc:w.cell? ⟨R,6,cX⟩=cP (cI cJ n)):Calls prog 39 #[.pointer (cP ⟨R,0,cX⟩),cY (cP ⟨p,0,cX⟩) l.length l.length] w λe w'=>e=.returned (.tuple #[])/\w=w':=by
 have hH:=lK hb n hn hl;have hM:=λw=>Ef w;go_enter func39,ntmps39;go_wp2_with(first|(refine hH.mono ?_;rintro e w2 ⟨rfl,rfl⟩)|(refine(hM _).mono ?_;rintro e w2 ⟨rfl,rfl⟩))
 go_end0;exact⟨rfl,rfl⟩
def KU(s:ByteArray)(h:Eb s.data.toList=cC)(w:World):Calls prog 114 #[cS s] w λe w'=>e=.returned (cS s)/\w=w':=by
 have hN:=λw=>Rp s _ h w;have hM:=λw=>Ef w;go_enter func114,ntmps114;go_wp2_with(first|(refine(hN _).mono ?_;rintro e w2 ⟨rfl,rfl⟩)|(refine(hM _).mono ?_;rintro e w2 ⟨rfl,rfl⟩))
 go_ret;exact⟨rfl,rfl⟩
def OY(w:World):Calls prog 157 #[cS ⟨#[105,110,116]⟩] w λe w'=>e=.returned (cS ⟨#[105,110,116]⟩)/\w=w':=by
 have hM:=λw=>Ef w;go_enter func157,ntmps157;go_wp2_with(refine(hM _).mono ?_;rintro e w2 ⟨rfl,rfl⟩)
 go_ret;exact⟨rfl,rfl⟩
end
section
open Word Num Dp
abbrev wK:ByteArray:=⟨#[107]⟩
def ABH:Eb wK.data.toList=cC:=by decide
def rV(w:World):Calls prog 206 #[cS wK] w λe w'=>e=.returned (.tuple #[.agg #[cI cJ 1,cS wK,cI cJ 0],cE cC])/\AA6 w w':=by
 have hN:=λw=>Rp wK _ ABH w;have hX:=Ae.alloc w [cI cJ 0,cS ⟨#[]⟩,cI cJ 0] 77;have hb:=AJ w (Obj.cells #[cI cJ 0,cS ⟨#[]⟩,cI cJ 0] 77);obtain⟨x0,x1,x2⟩:=hX.c3;obtain⟨f0,f1,f2⟩:=hX.f3;go_enter func206,ntmps206;go_wp2_with(refine(hN _).mono ?_;rintro e w2 ⟨rfl,rfl⟩)
 (refine rB rfl (by go_simp;try rfl) rfl ⟨rfl,?_⟩);exact AJ _ _
def aC(w:World):Calls prog 161 #[cS wK,cE cA] w λe w'=>e=.returned (.agg #[cI cJ 1,cS wK,cI cJ 0])/\AA6 w w':=by
 have hG:=λw=>rV w;have hM:=λw=>Ef w;have hX:=Ae.alloc w [cI cJ 0,cS ⟨#[]⟩,cI cJ 0] 77;have hb:=AJ w (Obj.cells #[cI cJ 0,cS ⟨#[]⟩,cI cJ 0] 77);have hlt:=hX.lt;go_enter func161,ntmps161;go_upto_region 1 with fail;generalize Cr:w.alloc _=W at*;go_wp2_with fail;refine(hG _).mono ?_;rintro e w1 ⟨rfl,hb1⟩;have hX1:=hX.nx hb1;have hb2:=AJ w1 (Obj.cells #[cI cJ 1,cS wK,cI cJ 0] 77);have hX2:=hX1.nx hb2;have hb3:=AB (AB hb hb1) hb2;go_upto_region 2 with fail;have hzz:w1.heap.size<(w1.alloc (Obj.cells #[cI cJ 1,cS wK,cI cJ 0] 77)).heap.size:=by simp
 generalize Cr:w1.alloc _=W1 at*;obtain⟨-,hY⟩:=ng Cr;have hbe:=hb3.trans (Ay (Nat.le_refl w.heap.size) [cI cJ 1,cS wK,cI cJ 0] 0 W1);obtain⟨x0,x1,x2⟩:=hX2.c3;obtain⟨f0,f1,f2⟩:=hX2.f3;obtain⟨y0,y1,y2⟩:=hY.c3;go_wp2_with(refine(hM _).mono ?_;rintro e w2 ⟨rfl,rfl⟩)
 (refine rO rfl (by go_simp;try rfl) rfl ⟨rfl,?_⟩);exact hbe
theorem sK(w:World):Calls prog 115 #[cS L6] w λe w'=>e=.returned (.tuple #[cI cJ 33,cE cC])/\AA6 w w':=by
 have hO:=λq (h1:1<=q/\q<=33) w=>Vs q h1 w;go_enter func115,ntmps115;go_wp2;go_loopw[4] (λi wr=>∃q:Nat,1<=q/\q<=33/\i=cI cJ (q:Int)/\AA6 w wr) (λi _=>34-(intOf i).toNat);exact⟨1,by omega,by omega,rfl,AL⟩;obtain⟨q,hq1,hq,rfl,hb⟩:=hrel;have hlt:(q:Int)<=34:=by omega
 have hlt2:q<=34:=by omega
 have nI:=hO (q:Int) (by omega) wr;go_wp2_with fail;refine nI.mono ?_;rintro e w1 ⟨hb1,t,d,n,l,m,rfl,ht,-⟩;have hY:=Ae.alloc w1 [cS t,cE d,cE n,cI cJ l,cI cJ m] 182;have hb2:=AJ w1 (Obj.cells #[cS t,cE d,cE n,cI cJ l,cI cJ m] 182);have hb3:=AB (AB hb hb1) hb2;have y0:=hY.c 0 _ rfl;have ht2:(t.toList==[111,117,116])=decide ((q:Int)=33):=by
  rw[<-ht];congr 1;rw[ByteArray.toList_eq L6]
 by_cases h33:q=33
 ·subst h33;have e1:(t.toList==[111,117,116])=cC:=ht2;go_wp2;go_ret2;exact⟨rfl,hb3⟩
 ·have e1:(t.toList==[111,117,116])=cA:=by rw[ht2];exact decide_eq_false (by omega)
  go_wp2;go_roundw;exact⟨q+1,by omega,by omega,by go_num,hb3⟩;simp[intOf];omega
theorem jo(h0:AA6 w0 w){u:Value}(hl:Row DL 1 w0 u [wK]):Calls prog 117 #[u,cE cA] w λe w'=>(∃(v:Value) (F:List Nat),e=.returned v/\AZ w' w.heap.size 77 3 ([(⟨1,wK,0⟩:Ag)].map Ls) v F/\F.Nodup)/\AA6 w w':=by
 obtain⟨p,c,rfl,-,-,hl⟩:=hl;have hA:=λw=>aC w;obtain⟨a,rfl,d0,-⟩:=hl 0 wK rfl;have d0:w0.cell? a=cP (cS wK):=by simpa[Addr.add]using d0
 have d1:=AA h0 d0;have Fw:(([wK]:List ByteArray).length:Int)=1:=rfl;have C8:([wK]:List ByteArray).length=1:=rfl;rw[C8];go_enter func117,ntmps117;go_wp2;go_loopw[5,10] (λv i wr=>∃(q:Nat) (F:List Nat),q<=1/\i=cI cJ (q:Int)/\AZ wr w.heap.size 77 3 ((List.replicate q (⟨1,wK,0⟩:Ag)).map Ls) v F/\F.Nodup/\AA6 w wr) (λ_ i _=>1-(intOf i).toNat);exact⟨0,[],by omega,rfl,.nil,by simp,AL⟩;obtain⟨q,F,hq,rfl,hv,hF,hb⟩:=hrel;have hq2:q=0\/q=1:=by omega
 rcases hq2 with rfl|rfl
 ·obtain⟨pv,cv,rfl⟩:=hv.slice;have d2:=AA (AB h0 hb) d0;obtain⟨wo,rfl⟩:=again wr;go_wp2_with fail;refine(hA _).mono ?_;rintro e w2 ⟨rfl,hb2⟩;have hB2:=Ae.alloc w2 [cI cJ 1,cS wK,cI cJ 0] 77;have hb3:=AB hb hb2;have hb4:=hb3.alloc hb3.size (.cells #[cI cJ 1,cS wK,cI cJ 0] 77);have hv2:=(hv.same (w':=w2) λb hb'=>hb2.block b (hv.fp b hb').2).same (w':=w2.alloc (.cells #[cI cJ 1,cS wK,cI cJ 0] 77)) λb hb'=>Below.heap_alloc _ _ _ (A9 (hv.fp b hb').2 hb2.size);go_wp2_with(at_builtin;refine HY rfl aF _ _ rfl rfl hv2 hF rfl hB2 (by simp[Value.oneCell']) (aZ (x:=⟨1,wK,0⟩) hB2) (by simp) (by simp) rfl rfl (by simp) (by decide) hb4.size ?_;rintro v' w3 F' ⟨N7,Nh,rfl⟩ h1 h2 h3 h4 h5)
  have hb5:=hb4.trans h5;go_roundw;exact⟨1,F',by omega,by go_num,h1,h2,hb5⟩;simp[intOf]
 ·go_wp2;go_ret;exact⟨⟨_,F,rfl,hv,hF⟩,hb⟩
end
end Go.Proofs.YtlffomedflegdaaGreatDoor
