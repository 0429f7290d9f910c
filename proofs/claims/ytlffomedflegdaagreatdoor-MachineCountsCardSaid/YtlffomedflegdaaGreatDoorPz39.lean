/- Part 39 of 49 of the proof: Si. -/
import Derived.Test.YtlffomedflegdaaGreatDoorPz00
import Derived.Test.YtlffomedflegdaaGreatDoorPz38
set_option linter.all false
set_option maxHeartbeats 16000000
set_option maxRecDepth 100000
namespace Go.Proofs.YtlffomedflegdaaGreatDoor
open Go.Proofs.Tryz
open Go.RowKit
def jU(b:Bk):Prop:=b.ps=[]/\∀x∈b.cs,x.fr=[]/\x.ob=[]
def iP(f:Fn):Prop:=∀(j:Nat) b,f.bs[j]? =some b->jU b
def AAy(P:Prop)(e:Ending):Prop:=∃b:Bool,e=.returned (.bool b)/\(b=false->P)
theorem Xz{w0 w:World}(h0:AA6 w0 w){f:Fn}{v u1 u2 u3:Value}(hf:EL w0 v f u1 u2 u3):Calls prog 68 #[v] w fun e w'=>AAy (iP f) e/\AA6 w w':=by
 obtain⟨rfl,-,hp,hv,hb⟩:=hf;obtain⟨p1,k1,rfl⟩:=hp.slice;obtain⟨p2,k2,rfl⟩:=hv.slice;obtain⟨p3,k3,rfl,-,⟨hn0,-⟩,hl⟩:=hb;have hb1:=AJ w (.cells #[.string f.n,.string f.r,.slice p1 f.ps.length k1,.slice p2 f.vs.length k2,.slice p3 f.bs.length k3] 66);have hX:=Ae.alloc w [.string f.n,.string f.r,.slice p1 f.ps.length k1,.slice p2 f.vs.length k2,.slice p3 f.bs.length k3] 66;go_enter func68,ntmps68;go_wp2;generalize Cr:w.alloc _=W at*;go_loopw[3] (fun i wr=>∃q:Nat,q<=f.bs.length/\i=.int .i64 (q:Int)/\Hid (∀(j:Nat) b,j<q->f.bs[j]? =some b->jU b)/\AA6 W wr) (fun i _=>f.bs.length-(intOf i).toNat);exact⟨0,AY,rfl,hidden (fun j b h=>absurd h (Nat.not_lt_zero _)),AL⟩;obtain⟨q,hq,rfl,hS,hb⟩:=hrel;have hX1:=hX.nx hb;have hbb:=AB hb1 hb;have x4:=hX1.c 4 _ rfl;by_cases hend:q=f.bs.length
 ·subst hend;have TL:iP f:=fun j b h=>hS.out j b (List.getElem?_eq_some_iff.1 h).1 h;replace TL:=hidden TL;go_wp2;go_ret;exact⟨⟨_,rfl,fun _=>TL.out⟩,hbb⟩
 ·have hlt:q<f.bs.length:=by omega
  have A8:(q:Int)<f.bs.length:=by omega
  obtain⟨a,rfl,hA⟩:=hl q f.bs[q] (by simp[hlt]);obtain⟨t1,t2,t3,hI,-,c1,c2,-⟩:=hA.val;obtain⟨-,-,hip,hic,-⟩:=hI;obtain⟨p5,k5,rfl⟩:=hip.slice;obtain⟨p6,k6,rfl,-,⟨hn6,-⟩,hic⟩:=hic;have hk:=AB h0 hbb;replace c1:=AA hk c1;replace c2:=AA hk c2;have hget:f.bs[q]? =some f.bs[q]:=by simp[hlt]
  have hN:jU f.bs[q]->∀(j:Nat) b,j<q+1->f.bs[j]? =some b->jU b:=fun hs j b hj hjb=>by
   by_cases e:j=q
   ·subst e;rw[hget]at hjb;obtain rfl:=Option.some.inj hjb;exact hs
   ·exact hS.out j b (by omega) hjb
  replace hN:=hidden hN;generalize f.bs[q]=b at*
  cases hd:decide ((0:Int)<(b.ps.length:Int))with
  |true=>
   have pK:=BK hd;have hdN:0<b.ps.length:=(by omega);go_wp2;go_ret
   exact⟨⟨_,rfl,fun h=>by cases h⟩,hbb⟩
  |false=>
   have pK:=CJ hd;have hdN:¬0<b.ps.length:=(by omega);have hps:b.ps=[]:=List.length_eq_zero_iff.1 (by omega);replace hps:=hidden hps;obtain⟨wo,rfl⟩:∃wo:World,wo=wr:=⟨_,rfl⟩;go_wp2;go_loopw[4] (fun i wr=>∃k:Nat,k<=b.cs.length/\i=.int .i64 (k:Int)/\Hid (∀x∈b.cs.take k,x.fr=[]/\x.ob=[])/\AA6 wo wr) (fun i _=>b.cs.length-(intOf i).toNat);exact⟨0,AY,rfl,hidden (by simp),AL⟩;obtain⟨k,hkn,rfl,hT,hb2⟩:=hrel;have x4:=AA hb2 x4;have c2:=AA hb2 c2;have hbn:=AB hb hb2;have hbf:=AB hbb hb2;by_cases hend:k=b.cs.length
   ·subst hend;have hSn:=hN.out ⟨hps.out,by have:=hT.out;rw[List.take_length]at this;exact this⟩;replace hSn:=hidden hSn;go_wp2;go_roundw;exact⟨q+1,hlt,by go_num,hSn,hbn⟩;simp[intOf];omega
   ·have hkl:k<b.cs.length:=(by omega);have jB:(k:Int)<b.cs.length:=(by omega);obtain⟨a6,rfl,-,-,-,-,⟨g1,d4,hr4⟩,g2,d5,vD⟩:=hic k b.cs[k] (by simp[hkl]);have hk3:=AB h0 hbf;replace d4:=AA hk3 d4;replace d5:=AA hk3 d5;obtain⟨pf,kf,rfl,-,⟨hnf,-⟩,-⟩:=hr4;obtain⟨po,ko,rfl,-,⟨hno,-⟩,-⟩:=vD;have VL:b.cs[k].fr=[]->b.cs[k].ob=[]->∀x∈b.cs.take (k+1),x.fr=[]/\x.ob=[]:=fun h1 h2 x hx=>by
     rw[List.take_succ_eq_append_getElem hkl]at hx;rcases List.mem_append.1 hx with h|h
     ·exact hT.out x h
     ·rw[List.mem_singleton.1 h];exact⟨h1,h2⟩
    replace VL:=hidden VL;generalize b.cs[k].fr=fr at*;generalize b.cs[k].ob=ob at*;have hwr:IntKind.i64.wrap ((fr.length:Int)+(ob.length:Int))=(fr.length:Int)+(ob.length:Int):=IntWalk.i64_in _ (by omega)
    cases hd:decide ((0:Int)<(fr.length:Int)+(ob.length:Int))with
    |true=>
     have pK:=BK hd;go_wp2_with fail;refine AO (S:=fun _ v=>v=wr.drew) rfl (by kernel_rfl) rfl ?_;(iterate 24((apply Ab.z rfl;intro L w1 _ _ _ z hK;have hS:=z.s;(subst hS);go_simp;exact hK (rfl);rfl)));refine Ab.nil fun w8 iJ=>?_;subst iJ;go_wp2;go_ret
     exact⟨⟨_,rfl,fun h=>by cases h⟩,hbf.drew⟩
    |false=>
     have pK:=CJ hd;have hTk:=VL.out (List.length_eq_zero_iff.1 (by omega)) (List.length_eq_zero_iff.1 (by omega));replace hTk:=hidden hTk;have hb3:=hb2.drew;go_wp2_with fail;refine AO (S:=fun _ v=>v=wr.drew) rfl (by kernel_rfl) rfl ?_;(iterate 24((apply Ab.z rfl;intro L w1 _ _ _ z hK;have hS:=z.s;(subst hS);go_simp;exact hK (rfl);rfl)));refine Ab.nil fun w8 iJ=>?_;subst iJ;go_wp2;go_roundw;exact⟨k+1,hkl,by go_num,hTk,hb3⟩;simp[intOf];omega
def uV(e:Ending):Prop:=∃n:Int,e=.returned (.int .i64 n)
theorem bQ{w0 w:World}(h0:AA6 w0 w){f:Fn}{v u1 u2 u3:Value}(hf:EL w0 v f u1 u2 u3):Calls prog 69 #[v] w fun e w'=>uV e/\AA6 w w':=by
 obtain⟨rfl,-,hp,hv,hb⟩:=hf;obtain⟨p1,k1,rfl⟩:=hp.slice;obtain⟨p2,k2,rfl⟩:=hv.slice;obtain⟨p3,k3,rfl,-,⟨hn0,-⟩,hl⟩:=hb;have hb1:=AJ w (.cells #[.string f.n,.string f.r,.slice p1 f.ps.length k1,.slice p2 f.vs.length k2,.slice p3 f.bs.length k3] 66);have hX:=Ae.alloc w [.string f.n,.string f.r,.slice p1 f.ps.length k1,.slice p2 f.vs.length k2,.slice p3 f.bs.length k3] 66;have x4:=hX.c 4 _ rfl;go_enter func69,ntmps69;go_wp2;generalize Cr:w.alloc _=W at*;go_loopw[3,4] (fun n i wr=>∃(q:Nat) (k:Int),q<=f.bs.length/\i=.int .i64 (q:Int)/\n=.int .i64 k/\wr=W) (fun _ i _=>f.bs.length-(intOf i).toNat);exact⟨0,_,AY,rfl,rfl,rfl⟩;obtain⟨q,k,hq,rfl,rfl,rfl⟩:=hrel;by_cases hend:q=f.bs.length
 ·subst hend;go_wp2;go_ret;exact⟨⟨_,rfl⟩,hb1⟩
 ·have hlt:q<f.bs.length:=by omega
  have A8:(q:Int)<f.bs.length:=by omega
  obtain⟨a,rfl,hA⟩:=hl q f.bs[q] (by simp[hlt]);obtain⟨t1,t2,t3,hI,-,-,c2,-⟩:=hA.val;obtain⟨p6,k6,rfl⟩:=hI.c.slice;replace c2:=AA (AB h0 hb1) c2;generalize f.bs[q].cs.length=m at*;go_wp2;go_roundw;exact⟨q+1,_,hlt,by go_num,rfl,trivial⟩;simp[intOf];omega
end Go.Proofs.YtlffomedflegdaaGreatDoor
