/- Part 8 of 49 of the proof: Wu, Wv. -/
import Derived.Test.YtlffomedflegdaaGreatDoorPz00
import Derived.Test.YtlffomedflegdaaGreatDoorPz07
set_option linter.all false
set_option maxHeartbeats 16000000
set_option maxRecDepth 100000
namespace Go.Proofs.YtlffomedflegdaaGreatDoor
open Go.RowKit
variable {ans fails:List Int}{b:Bk}{d:ByteArray}{f:Fn}{p:Pg}{rest:List Lv}{s s' t:St}{x:Lv}
section
open Num Dp
section
variable {p : Pg} {s : St} {f : Fn} {b : Bk} {x : Lv} {rest : List Lv} {i : Is}
theorem WT.other(hw:WT p s)(h1:s'.heap=s.heap)(h2:s'.globals=s.globals)(h3:s'.frames=s.frames)(h4:s'.status=s.status):WT p s':=⟨by rw[h1];exact hw.heap,by rw[h1,h2];exact hw.glob,by rw[h1,h3];exact hw.frames,by rw[h4,h3];exact hw.live⟩
theorem WT.V4(hw:WT p s){h':List Ob}(hh:KM p h')(he:Ext s.heap h'):WT p {s with heap:=h'}:=⟨hh,hw.glob.ext he,hw.frames.ext he,hw.live⟩
theorem Mx{op:Int}{fm:Fm}(h:BH op=some fm):fm.d=decide (op≠27/\op≠30/\op≠33/\op≠34):=by
 rcases I6 h with h1|h1|h1|h1|h1|h1|h1|h1|h1|h1|h1|h1|h1|h1
 ·have:1<=op/\op<=21:=h1;unfold BH at h;rw[if_pos this]at h;injection h with h;subst h;have:op≠27/\op≠30/\op≠33/\op≠34:=by omega
  simp[this]
 all_goals (subst h1;simp[BH]at h;subst h;simp)
theorem eD(hg:DJ p)(hw:WT p s)(hfr:s.frames=rest++[x])(hst:s.status=0)(hx:Ca p s.heap x f b)(hi:b.cs[x.i]? =some i)(ans fails:List Int):∃t,Bq p ans fails s rest x i=some t/\WT p t:=by
 have hf:f∈p.fs:=(Ak hx.1).1;have hb:b∈f.bs:=(Ak hx.2.1).1;obtain⟨Zc,hdst⟩:=((hg.fs f hf).b b hb).cs i (List.mem_of_getElem? hi);obtain⟨fm,d,l,hfo,hlen,hd,hts,hll,hq⟩:=Gx Zc;have hm:EO f s.heap x.vars:=hx.2.2.2;have FJ:=Mx hfo;have val:∀(k:Nat) a t t',i.as[k]? =some a->l[k]? =some t->Du t t'=true->okV s.heap (Ar x.vars a) t':=fun k a t t' ha ht hfit=>by
  obtain⟨t2,h1,h2⟩:=Gh hts k a ha;rw[ht]at h1;injection h1 with h1;subst h1;exact QB hg hf hm h2 hfit
 have Gu:∀{v:Vu},fm.d=true->(Dq d=false)->∃t,some (BP s rest x i.d v)=some t/\WT p t:=fun h1 h2=>⟨_,rfl,KG hw hfr hst hx hi hd h1 (.plain h2)⟩;rcases I6 hfo with h1|h1|h1|h1|h1|h1|h1|h1|h1|h1|h1|h1|h1|h1
 ·
  have hfm:fm=⟨true,false,2,2⟩:=by
   unfold BH at hfo;rw[if_pos h1]at hfo;injection hfo with hfo;exact hfo.symm
  subst hfm;have h2:i.as.length=2:=by dsimp only at hlen;omega
  obtain⟨a,c,hac⟩:=MP h2;have hrf:Dq d=false:=by
   unfold Av BX at hq;by_cases VO:i.op<=14
   ·rw[if_pos VO]at hq;rw[all_eq hq];exact JR
   ·rw[if_neg VO]at hq;by_cases h18:i.op<=18
    ·rw[if_pos h18]at hq;rw[all_eq hq];exact Jr
    ·rw[if_neg h18,if_pos h1.2]at hq;rw[all_eq hq];exact JR
  unfold Bq;iterate 5 rw[if_neg (by omega)]
  rw[hac];dsimp only;iterate 6 rw[if_neg (by omega)]
  rw[if_neg (by omega),if_neg (by omega)];by_cases VO:i.op<=14
  ·rw[if_pos ⟨h1.1,VO⟩];by_cases hz:(Kv i.op (Ar x.vars a).2 (Ar x.vars c).2).2=true
   ·rw[if_pos hz];exact Gu rfl hrf
   ·rw[if_neg hz];exact⟨_,rfl,Lh hw 2⟩
  ·rw[if_neg (by omega),if_pos (by omega)];exact Gu rfl hrf
 ·
  have hfm:fm.d=true:=by rw[FJ,h1];decide
  have hrf:Dq d=false:=by
   unfold Av BX at hq;rw[h1]at hq;simp only[show¬(22:Int)<=14 by decide,show¬(22:Int)<=18 by decide,show¬(22:Int)<=21 by decide,if_false,if_true]at hq;rw[all_eq hq];exact Jr
  have h2:i.as.length=1:=by
   rw[h1]at hfo;simp[BH]at hfo;subst hfo;dsimp only at hlen;omega
  obtain⟨a,hac⟩:=Fg h2;unfold Bq;rw[h1,hac];exact Gu hfm hrf
 ·
  have hfm:fm.d=true:=by rw[FJ,h1];decide
  have hrf:Dq d=false:=by
   unfold Av BX at hq;rw[h1]at hq;simp only[show¬(23:Int)<=14 by decide,show¬(23:Int)<=18 by decide,show¬(23:Int)<=21 by decide,show¬(23:Int)=22 by decide,if_false,if_true]at hq;rw[all_eq hq];exact JR
  have h2:i.as.length=1:=by
   rw[h1]at hfo;simp[BH]at hfo;subst hfo;dsimp only at hlen;omega
  obtain⟨a,hac⟩:=Fg h2;unfold Bq;rw[h1,hac];exact Gu hfm hrf
 ·
  have hfm:fm.d=true:=by rw[FJ,h1];decide
  have h2:i.as.length=1:=by
   rw[h1]at hfo;simp[BH]at hfo;subst hfo;dsimp only at hlen;omega
  obtain⟨a,hac⟩:=Fg h2;have hl0:∃t,l=[t]:=Fg (hll.trans h2);obtain⟨t,rfl⟩:=hl0;have hfit:Du t d=true:=by
   unfold Av BX at hq;rw[h1]at hq;simpa using hq
  unfold Bq;rw[h1,hac];exact⟨_,rfl,KG hw hfr hst hx hi hd hfm (val 0 a t d (by rw[hac];rfl) rfl hfit)⟩
 ·
  have hfm:fm.d=true:=by rw[FJ,h1];decide
  have hmd:Kz p i d l=true:=by
   unfold Av BX at hq;rw[h1]at hq;simpa using hq
  unfold Kz at hmd
  cases hc:Ai Cl.n i.n p.cs with
  |none=>rw[hc]at hmd;cases hmd
  |some c=>
   rw[hc]at hmd;rw[Bool.and_eq_true,decide_eq_true_eq,Bool.or_eq_true,decide_eq_true_eq]at hmd;have hcn:=(R7 hg hc).2;have Nc:∀(k:Nat) (v:Vu) (y:Vr),(Em p i.n (i.as.map (Ar x.vars)))[k]? =some v->c.fs[k]? =some y->okV s.heap v y.t:=by
    intro k v y hv hy;unfold Em at hv
    cases has:i.as with
    |nil=>
     rw[has,List.map_nil,hc]at hv;dsimp only at hv;rw[List.getElem?_map,hy]at hv;obtain rfl:Ap y.t=v:=by simpa using hv
     exact Ke _ _ _
    |cons a r=>
     rw[has,List.map_cons]at hv;dsimp only at hv;rw[<-List.map_cons,<-has,List.getElem?_map]at hv
     cases ha:i.as[k]? with
     |none=>rw[ha]at hv;cases hv
     |some a2=>
      rw[ha]at hv;obtain rfl:Ar x.vars a2=v:=(by simpa using hv);have hfit:FZ l c.fs=true:=by
       rcases hmd.2 with e|e
       ·rw[hll,has]at e;simp at e
       ·exact e
      obtain⟨t,ht,_⟩:=Gh hts k a2 ha;exact val k a2 t y.t ha ht (V7 hfit k t y ht hy)
   have EU:(Em p i.n (i.as.map (Ar x.vars))).length=c.fs.length:=by
    unfold Em
    cases has:i.as with
    |nil=>rw[List.map_nil,hc];simp
    |cons a r=>
     rw[List.map_cons];dsimp only;rcases hmd.2 with e|e
     ·rw[hll,has]at e;simp at e
     ·have:=Sk e;rw[hll,has]at this;simpa using this
   have he:=Ext.push s.heap ⟨i.n,Em p i.n (i.as.map (Ar x.vars))⟩;have hh:KM p (s.heap++[⟨i.n,Em p i.n (i.as.map (Ar x.vars))⟩]):=fun ob qQ=>by
    rcases List.mem_append.1 qQ with h|h
    ·exact(hw.heap ob h).ext he
    ·obtain rfl:ob=_:=(by simpa using h);exact⟨c,hc,EU,fun k v y hv hy=>(Nc k v y hv hy).ext he⟩
   have hw2:WT p {s with heap:=s.heap++[⟨i.n,Em p i.n (i.as.map (Ar x.vars))⟩],allocs:=s.allocs+1}:=(hw.V4 hh he).other rfl rfl rfl rfl;unfold Bq;rw[h1,if_pos rfl];refine⟨_,rfl,?_⟩;refine KG (f:=f) (b:=b) hw2 hfr hst ⟨hx.1,hx.2.1,hx.2.2.1,hm.ext he⟩ hi hd hfm fun _=> .inr ⟨rfl,?_,⟨i.n,Em p i.n (i.as.map (Ar x.vars))⟩,?_,?_⟩
   ·dsimp only;omega
   ·dsimp only;rw[show(((s.heap.length:Int)+1)-1).toNat=s.heap.length by omega];simp
   ·rw[hmd.1];exact hcn.symm
 ·
  have hfm:fm.d=true:=by rw[FJ,h1];decide
  have h2:i.as.length=1:=by
   rw[h1]at hfo;simp[BH]at hfo;subst hfo;dsimp only at hlen;omega
  obtain⟨a,hac⟩:=Fg h2;obtain⟨t,rfl⟩:=Fg (hll.trans h2);obtain⟨t2,e1,u7⟩:=Gh hts 0 a (by rw[hac];rfl);obtain rfl:t=t2:=by simpa using e1
  have hty:Ql d (GN p i a t)=true:=by
   unfold Av BX at hq;rw[h1,hac]at hq;simpa using hq
  cases hr:GN p i a t with
  |none=>rw[hr]at hty;cases hty
  |some r=>
   rw[hr]at hty;have hty:r.t=d:=(by simpa[Ql]using hty);unfold Bq;rw[h1,hac];simp only[show¬(26:Int)=25 by decide,show¬(26:Int)=29 by decide,show¬(26:Int)=31 by decide,show¬(26:Int)=32 by decide,show¬(26:Int)=34 by decide,show¬(26:Int)=22 by decide,show¬(26:Int)=23 by decide,show¬(26:Int)=24 by decide,if_false,if_true];by_cases h0:(Ar x.vars a).2=0
   ·rw[if_pos h0];exact⟨_,rfl,Lh hw 1⟩
   ·rw[if_neg h0];obtain⟨k,c,vs,q,v,g1,g2,g3,g4,_⟩:=R4 hg hw.heap hm u7 hr h0;rw[g1];exact⟨_,rfl,KG hw hfr hst hx hi hd hfm (hty▸g4)⟩
 ·
  have hno:i.d=Bv:=Jl hdst hfo (by rw[FJ,h1];decide);have h2:i.as.length=2:=by
   rw[h1]at hfo;simp[BH]at hfo;subst hfo;dsimp only at hlen;omega
  obtain⟨a,c2,hac⟩:=MP h2;obtain⟨t,t2,rfl⟩:=MP (hll.trans h2);obtain⟨t3,e1,u7⟩:=Gh hts 0 a (by rw[hac];rfl);obtain rfl:t=t3:=by simpa using e1
  have hty:Td t2 (GN p i a t)=true:=by
   unfold Av BX at hq;rw[h1,hac]at hq;simpa using hq
  cases hr:GN p i a t with
  |none=>rw[hr]at hty;cases hty
  |some r=>
   rw[hr]at hty;have hty:Du t2 r.t=true:=hty;unfold Bq;rw[h1,hac];simp only[show¬(27:Int)=25 by decide,show¬(27:Int)=29 by decide,show¬(27:Int)=31 by decide,show¬(27:Int)=32 by decide,show¬(27:Int)=34 by decide,show¬(27:Int)=22 by decide,show¬(27:Int)=23 by decide,show¬(27:Int)=24 by decide,show¬(27:Int)=26 by decide,show¬(27:Int)=30 by decide,show¬(27:Int)=33 by decide,if_false,if_true];by_cases h0:(Ar x.vars a).2=0
   ·rw[if_pos h0];exact⟨_,rfl,Lh hw 1⟩
   ·rw[if_neg h0];obtain⟨k,c,vs,q,v,g1,g2,g3,g4,cl,g5,g6,g7⟩:=R4 hg hw.heap hm u7 hr h0;rw[g1];dsimp only;have he:Ext s.heap (setAt s.heap k ⟨c,setAt vs q (Ar x.vars c2)⟩):=Ext.set g2 _;have hv2:okV s.heap (Ar x.vars c2) r.t:=val 1 c2 t2 r.t (by rw[hac];rfl) rfl hty;have hh:KM p (setAt s.heap k ⟨c,setAt vs q (Ar x.vars c2)⟩):=fun ob qQ=>by
     rcases List.mem_or_eq_of_mem_set qQ with h|rfl
     ·exact(hw.heap ob h).ext he
     ·obtain⟨cl2,j1,j2,j3⟩:=hw.heap _ (List.mem_of_getElem? g2);refine⟨cl2,j1,by unfold setAt;rw[List.length_set];exact j2,fun n u y hu hy=>?_⟩;dsimp only at j1 hu;rw[g5]at j1;obtain rfl:cl=cl2:=(by simpa using j1);unfold setAt at hu;by_cases hn:n=q
      ·subst hn;rw[List.getElem?_set_self (List.getElem?_eq_some_iff.1 g3).1]at hu;injection hu with hu;subst hu;rw[g6]at hy;injection hy with hy;subst hy;exact hv2.ext he
      ·rw[List.getElem?_set_ne (fun e=>hn e.symm)]at hu;exact(j3 n u y hu hy).ext he
    exact go_ok (f:=f) (b:=b) (hw.V4 hh he) hfr hst ⟨hx.1,hx.2.1,hx.2.2.1,hm.ext he⟩ hi hno
 ·
  have hfm:fm.d=true:=by rw[FJ,h1];decide
  have h2:i.as.length=2:=by
   rw[h1]at hfo;simp[BH]at hfo;subst hfo;dsimp only at hlen;omega
  obtain⟨a,c,hac⟩:=MP h2;have hrf:Dq d=false:=by
   unfold Av BX at hq;rw[h1]at hq;simp only[show¬(28:Int)<=14 by decide,show¬(28:Int)<=18 by decide,show¬(28:Int)<=21 by decide,show¬(28:Int)=22 by decide,show¬(28:Int)=23 by decide,show¬(28:Int)=24 by decide,show¬(28:Int)=25 by decide,show¬(28:Int)=26 by decide,show¬(28:Int)=27 by decide,if_false,if_true,Bool.and_eq_true,decide_eq_true_eq]at hq;rw[hq.1];exact JR
  unfold Bq;rw[h1,hac];simp only[show¬(28:Int)=25 by decide,show¬(28:Int)=29 by decide,show¬(28:Int)=31 by decide,show¬(28:Int)=32 by decide,show¬(28:Int)=34 by decide,show¬(28:Int)=22 by decide,show¬(28:Int)=23 by decide,show¬(28:Int)=24 by decide,show¬(28:Int)=26 by decide,show¬(28:Int)=30 by decide,show¬(28:Int)=33 by decide,show¬(28:Int)=27 by decide,if_false,if_true];exact Gu hfm hrf
 ·
  have hfm:fm.d=true:=by rw[FJ,h1];decide
  have hgl:Ia p i d (l[0]?.getD ⟨#[]⟩)=true:=by
   unfold Av BX at hq;rw[h1]at hq;simpa using hq
  unfold Ia at hgl
  cases hv:Ai Vr.n i.n p.gs with
  |none=>rw[hv]at hgl;cases hgl
  |some g=>
   rw[hv]at hgl;dsimp only at hgl;rw[if_pos h1,decide_eq_true_eq]at hgl;obtain⟨k,k1,k2⟩:=JA hv;have hkl:=(List.getElem?_eq_some_iff.1 k2).1;have hgv:s.globals[k]? =some (s.globals[k]'(by rw[hw.glob.1];exact hkl)):=(by simp);unfold Bq;rw[h1];simp only[show¬(29:Int)=25 by decide,if_false,if_true];rw[k1];dsimp only;rw[hgv];exact⟨_,rfl,KG hw hfr hst hx hi hd hfm (hgl▸hw.glob.2 k _ g hgv k2)⟩
 ·
  have hno:i.d=Bv:=Jl hdst hfo (by rw[FJ,h1];decide);have h2:i.as.length=1:=by
   rw[h1]at hfo;simp[BH]at hfo;subst hfo;dsimp only at hlen;omega
  obtain⟨a,hac⟩:=Fg h2;obtain⟨t,rfl⟩:=Fg (hll.trans h2);have hgl:Ia p i d t=true:=by
   unfold Av BX at hq;rw[h1]at hq;simpa using hq
  unfold Ia at hgl
  cases hv:Ai Vr.n i.n p.gs with
  |none=>rw[hv]at hgl;cases hgl
  |some g=>
   rw[hv]at hgl;dsimp only at hgl;rw[if_neg (by omega)]at hgl;obtain⟨k,k1,k2⟩:=JA hv;have hkl:=(List.getElem?_eq_some_iff.1 k2).1;have hgv:s.globals[k]? =some (s.globals[k]'(by rw[hw.glob.1];exact hkl)):=(by simp);unfold Bq;rw[h1,hac];simp only[show¬(30:Int)=25 by decide,show¬(30:Int)=29 by decide,show¬(30:Int)=31 by decide,show¬(30:Int)=32 by decide,show¬(30:Int)=34 by decide,show¬(30:Int)=22 by decide,show¬(30:Int)=23 by decide,show¬(30:Int)=24 by decide,show¬(30:Int)=26 by decide,if_false,if_true];rw[k1];dsimp only;rw[hgv];dsimp only;have hva:okV s.heap (Ar x.vars a) g.t:=val 0 a t g.t (by rw[hac];rfl) rfl hgl;refine go_ok (f:=f) (b:=b) (s:={s with globals:=setAt s.globals k (Ar x.vars a)}) ⟨hw.heap,⟨by unfold setAt;rw[List.length_set];exact hw.glob.1,fun n u y hu hy=>?_⟩,hw.frames,hw.live⟩ hfr hst hx hi hno;dsimp only at hu⊢;unfold setAt at hu;by_cases hn:n=k
   ·subst hn;rw[List.getElem?_set_self (List.getElem?_eq_some_iff.1 hgv).1]at hu;injection hu with hu;subst hu;rw[k2]at hy;injection hy with hy;subst hy;exact hva
   ·rw[List.getElem?_set_ne (fun e=>hn e.symm)]at hu;exact hw.glob.2 n u y hu hy
 ·
  have hca:K5 p i d l=true:=by
   unfold Av BX at hq;rw[h1]at hq;simpa using hq
  unfold K5 at hca
  cases hv:Ai Fn.n i.n p.fs with
  |none=>rw[hv]at hca;cases hca
  |some g=>
   rw[hv]at hca;dsimp only at hca;rw[Bool.and_eq_true,decide_eq_true_eq]at hca;have hgm:=(Ak hv).1;obtain⟨m1,e1,e2⟩:=Yl hg hf hgm hm hts hca.1
   cases hbs:g.bs with
   |nil=>exact absurd hbs (hg.fs g hgm).bs
   |cons b0 br=>
    unfold Bq;rw[h1];simp only[show¬(31:Int)=25 by decide,show¬(31:Int)=29 by decide,if_false,if_true];rw[hv];dsimp only;rw[hbs];dsimp only;rw[e1];refine⟨_,rfl,hw.heap,hw.glob,?_,fun _=>by simp⟩;have hs:=hw.frames;rw[hfr]at hs;dsimp only;simp only[List.reverse_append,List.reverse_cons,List.reverse_nil,List.nil_append,List.singleton_append]at hs⊢;exact⟨⟨g,b0,hv,by rw[hbs];exact fD,AY,e2⟩,⟨f,b,i,hx.1,hx.2.1,hi,h1,rfl⟩,hs⟩
 ·
  have hfm:fm.d=true:=by rw[FJ,h1];decide
  have hrf:Dq d=false:=by
   unfold Av BX at hq;rw[h1]at hq;have hex:Qr p i d l=true:=(by simpa using hq);unfold Qr at hex
   cases hv:Ai Ex.n i.n p.xs with
   |none=>rw[hv]at hex;cases hex
   |some g=>
    rw[hv]at hex;dsimp only at hex;rw[Bool.and_eq_true]at hex;rw[all_eq hex.2];exact JR
  unfold Bq;rw[h1];simp only[show¬(32:Int)=25 by decide,show¬(32:Int)=29 by decide,show¬(32:Int)=31 by decide,if_false,if_true];have hw2:WT p {JN s ⟨i.n,i.as.map (fun a=>(Ar x.vars a).2),(ans[s.asked.toNat]?).getD 0,false⟩with asked:=s.asked+1}:=hw.other rfl rfl rfl rfl;exact⟨_,rfl,KG (f:=f) (b:=b) hw2 hfr hst hx hi hd hfm (.plain hrf)⟩
 ·
  have hno:i.d=Bv:=Jl hdst hfo (by rw[FJ,h1];decide);have h2:i.as.length=1:=by
   rw[h1]at hfo;simp[BH]at hfo;subst hfo;dsimp only at hlen;omega
  obtain⟨a,hac⟩:=Fg h2;unfold Bq;rw[h1,hac];simp only[show¬(33:Int)=25 by decide,show¬(33:Int)=29 by decide,show¬(33:Int)=31 by decide,show¬(33:Int)=32 by decide,show¬(33:Int)=34 by decide,show¬(33:Int)=22 by decide,show¬(33:Int)=23 by decide,show¬(33:Int)=24 by decide,show¬(33:Int)=26 by decide,show¬(33:Int)=30 by decide,if_false,if_true];exact go_ok (f:=f) (b:=b) (hw.other rfl rfl rfl rfl) hfr hst hx hi hno
 ·
  have hno:i.d=Bv:=Jl hdst hfo (by rw[FJ,h1];decide);unfold Bq;rw[h1];simp only[show¬(34:Int)=25 by decide,show¬(34:Int)=29 by decide,show¬(34:Int)=31 by decide,show¬(34:Int)=32 by decide,if_false,if_true];by_cases hin:s.guards∈fails
  ·rw[if_pos hin];exact⟨_,rfl,hw.heap,hw.glob,hw.frames,fun e=>by simp at e⟩
  ·rw[if_neg hin];exact go_ok (f:=f) (b:=b) (hw.other rfl rfl rfl rfl) hfr hst hx hi hno
theorem Vd(hg:DJ p)(hw:WT p s)(hfr:s.frames=rest++[x])(_:s.status=0)(hx:Ca p s.heap x f b){y:ByteArray}(hy:∃b',Ai Bk.n y f.bs=some b'):∃t,H7 f s rest x y=some t/\WT p t:=by
 obtain⟨b',hb'⟩:=hy;have hf:f∈p.fs:=(Ak hx.1).1;unfold H7;rw[hb'];dsimp only;rw[if_pos ((hg.fs f hf).b b' (Ak hb').1).ps];refine⟨_,rfl,hw.heap,hw.glob,?_,fun _=>by simp⟩;have hs:=hw.frames;rw[hfr]at hs;dsimp only;simp only[List.reverse_append,List.reverse_cons,List.reverse_nil,List.nil_append,List.singleton_append]at hs⊢;exact Dn.turn (y:=x) (y':=⟨x.f,y,0,x.vars⟩) rfl ⟨f,b',hx.1,hb',AY,hx.2.2.2⟩ hs
theorem lM(hg:DJ p)(hw:WT p s)(hfr:s.frames=rest++[x])(hst:s.status=0)(hx:Ca p s.heap x f b){v:Vu}(hv:okV s.heap v f.r):∃t,K4 p s rest v=some t/\WT p t:=by
 have hs:=hw.frames;rw[hfr]at hs;simp only[List.reverse_append,List.reverse_cons,List.reverse_nil,List.nil_append,List.singleton_append]at hs;unfold K4;rcases List.eq_nil_or_concat rest with rfl|⟨r,y,rfl⟩
 ·exact⟨_,rfl,hw.heap,hw.glob,trivial,fun e=>by simp at e⟩
 ·rw[List.concat_eq_append]at hs⊢;rw[List.getLast?_concat,List.dropLast_concat];dsimp only;simp only[List.reverse_append,List.reverse_cons,List.reverse_nil,List.nil_append,List.singleton_append]at hs;obtain⟨_,⟨g,c,i,h1,h2,h3,h4,h5⟩,hr⟩:=hs;rw[h1];dsimp only;rw[h2];dsimp only;rw[h3];dsimp only;have hgm:=(Ak h1).1;obtain⟨Zc,hdst⟩:=((hg.fs g hgm).b c (Ak h2).1).cs i (List.mem_of_getElem? h3);obtain⟨fm,d,l,hfo,hlen,hd,hts,hll,hq⟩:=Gx Zc;have hfm:fm.d=true:=by rw[Mx hfo,h4];decide
  rw[if_neg (jX hdst hfo hfm)];obtain⟨g2,c2,k1,k2,k3,k4⟩:=hr.top;rw[h1]at k1;obtain rfl:g=g2:=by simpa using k1
  rw[h2]at k2;obtain rfl:c=c2:=by simpa using k2
  have hca:K5 p i d l=true:=by
   unfold Av BX at hq;rw[h4]at hq;simpa using hq
  unfold K5 at hca;rw[h5,hx.1]at hca;dsimp only at hca;rw[Bool.and_eq_true,decide_eq_true_eq]at hca;refine⟨_,rfl,QC (f:=g) (b:=c) (i:=i) hw.heap hw.glob hst (Ext.refl _) hr ⟨h1,h2,k3,k4⟩ h3 fun _ u hu=>?_⟩;obtain⟨u2,j1,j2⟩:=WB hd hfm;rw[hu]at j1;injection j1 with j1;subst j1;rw[j2,hca.2];exact hv
theorem tX(hg:DJ p)(hw:WT p s)(hfr:s.frames=rest++[x])(hst:s.status=0)(hx:Ca p s.heap x f b):∃t,La p f s rest x b.e=some t/\WT p t:=by
 have hf:f∈p.fs:=(Ak hx.1).1;have hgb:=(hg.fs f hf).b b (Ak hx.2.1).1;have he:=hgb.e;unfold Pq Zl at he;unfold La;by_cases h1:b.e.k=1
 ·rw[if_pos h1];obtain⟨y,hy⟩:=Fg (hgb.to1 h1);rw[hy];exact Vd hg hw hfr hst hx (hgb.ways y (by rw[hy];simp))
 rw[if_neg h1]at he⊢;by_cases h2:b.e.k=2
 ·rw[if_pos h2];obtain⟨y,z,hy⟩:=MP (hgb.to2 h2);rw[hy];refine Vd hg hw hfr hst hx ?_;by_cases hz:(Ar x.vars b.e.a).2=0
  ·rw[if_pos hz];exact hgb.ways z (by rw[hy];simp)
  ·rw[if_neg hz];exact hgb.ways y (by rw[hy];simp)
 rw[if_neg h2]at he⊢;by_cases h3:b.e.k=3
 ·rw[if_pos h3]at he⊢
  cases ht:GJ f b.e.a with
  |none=>rw[ht]at he;cases he
  |some t=>
   rw[ht]at he;exact lM hg hw hfr hst hx (QB hg hf hx.2.2.2 ht he)
 rw[if_neg h3]at he⊢;by_cases h4:b.e.k=4
 ·rw[if_pos h4];exact⟨_,rfl,Lh hw _⟩
 ·rw[if_neg h4]at he;cases he
theorem Z8(hw:WT p s)(hst:s.status=0):∃x f b,xH p s=some (x,f,b)/\s.frames=s.frames.dropLast++[x]/\Ca p s.heap x f b:=by
 rcases List.eq_nil_or_concat s.frames with h|⟨r,x,h⟩
 ·exact absurd h (hw.live hst)
 ·rw[List.concat_eq_append]at h;have hs:=hw.frames;rw[h]at hs;simp only[List.reverse_append,List.reverse_cons,List.reverse_nil,List.nil_append,List.singleton_append]at hs;obtain⟨f,b,hx⟩:=hs.top;refine⟨x,f,b,?_,by rw[h,List.dropLast_concat],hx⟩;unfold xH;rw[h,List.getLast?_concat];dsimp only;rw[hx.1];dsimp only;rw[hx.2.1]
theorem step_ok(hg:DJ p)(hw:WT p s)(hst:s.status=0)(hfr:s.frames=s.frames.dropLast++[x])(hx:Ca p s.heap x f b)(ans fails:List Int):∃t,El p ans fails s x f b=some t/\WT p t:=by
 unfold El;by_cases he:x.i=b.cs.length
 ·rw[if_pos he];exact tX hg hw hfr hst hx
 ·rw[if_neg he];have hlt:x.i<b.cs.length:=by have:=hx.2.2.1;omega
  have hi:b.cs[x.i]? =some b.cs[x.i]:=by simp
  rw[hi];exact eD hg hw hfr hst hx hi ans fails
theorem Ml(hg:DJ p)(hw:WT p s)(hst:s.status=0)(ans fails:List Int)(fuel:Int)(j:Nat):∃t k,EP p ans fails fuel s j=some (t,k)/\WT p t:=by
 obtain⟨x,f,b,h1,h2,h3⟩:=Z8 hw hst;unfold EP;rw[h1];dsimp only;have spent:WT p {s with status:=3}:=⟨hw.heap,hw.glob,hw.frames,fun e=>by simp at e⟩;by_cases hfree:H8 x b=true
 ·rw[if_pos hfree];by_cases hj:j=256
  ·rw[if_pos hj];exact⟨_,_,rfl,spent⟩
  ·rw[if_neg hj];obtain⟨t,e,ht⟩:=step_ok hg hw hst h2 h3 ans fails;rw[e];exact⟨_,_,rfl,ht⟩
 ·rw[if_neg hfree];by_cases hs:fuel<=s.steps
  ·rw[if_pos hs];exact⟨_,_,rfl,spent⟩
  ·rw[if_neg hs];obtain⟨t,e,ht⟩:=step_ok (s:={s with steps:=s.steps+1}) hg (hw.other rfl rfl rfl rfl) hst h2 h3 ans fails;rw[e];exact⟨_,_,rfl,ht⟩
end
end
section
open Num Dp
inductive Reach(p:Pg)(ans fails:List Int)(fuel:Int):St->Nat->St->Nat->Prop where
 |refl (s:St) (j:Nat):Reach p ans fails fuel s j s j
 |step {s s1 t:St} {j j1 k:Nat}:s.status=0->EP p ans fails fuel s j=some (s1,j1)->Reach p ans fails fuel s1 j1 t k->Reach p ans fails fuel s j t k
def Runs(p:Pg)(ans fails:List Int)(fuel:Int)(s:St)(j:Nat)(t:St):Prop:=∃k,Reach p ans fails fuel s j t k/\t.status≠0
section
variable {p : Pg} {ans fails : List Int} {fuel : Int} {s s1 t u : St} {j j1 k : Nat}
theorem Reach.trans{u:St}{j k n:Nat}(h:Reach p ans fails fuel s j t k)(h2:Reach p ans fails fuel t k u n):Reach p ans fails fuel s j u n:=by
 induction h with
 |refl=>exact h2
 |step a b _ ih=>exact .step a b (ih h2)
theorem Runs.stop(h:s.status≠0):Runs p ans fails fuel s j s:=⟨j,.refl _ _,h⟩
theorem Runs.step(h:s.status=0)(hr:EP p ans fails fuel s j=some (s1,j1))(h2:Runs p ans fails fuel s1 j1 t):Runs p ans fails fuel s j t:=by
 obtain⟨k,h3,h4⟩:=h2;exact⟨k,.step h hr h3,h4⟩
theorem Runs.still(h:Runs p ans fails fuel s j t)(hs:s.status≠0):t=s:=by
 obtain⟨k,h1,h2⟩:=h
 cases h1 with
 |refl=>rfl
 |step a _ _=>exact absurd a hs
theorem Runs.next(h:Runs p ans fails fuel s j t)(hs:s.status=0)(hr:EP p ans fails fuel s j=some (s1,j1)):Runs p ans fails fuel s1 j1 t:=by
 obtain⟨k,h1,h2⟩:=h
 cases h1 with
 |refl=>exact absurd hs h2
 |step a b c=>
  rw[hr]at b;injection b with b;injection b with b1 b2;subst b1 b2;exact⟨k,c,h2⟩
theorem Runs.det(h:Runs p ans fails fuel s j t)(h2:Runs p ans fails fuel s j u):t=u:=by
 obtain⟨k,h1,h3⟩:=h
 induction h1 with
 |refl=>exact(h2.still h3).symm
 |step a b _ ih=>exact ih (h2.next a b) h3
end
structure Turn(s t:St):Prop where
 steps:t.steps=s.steps
 allocs:(t.allocs=s.allocs/\t.heap.length=s.heap.length)\/(t.allocs=s.allocs+1/\t.heap.length=s.heap.length+1)
 guards:t.guards=s.guards\/t.guards=s.guards+1
 seen:(t.trace=s.trace/\t.marks=s.marks/\t.asked=s.asked)\/∃e:Ev,t.trace=s.trace++[e]/\t.marks=s.marks++[s.allocs]/\e.ar.length<=8/\((e.n=Bv/\t.asked=s.asked)\/(e.n≠Bv/\t.asked=s.asked+1))
 frames:t.frames.length<=s.frames.length+1
 globals:t.globals.length=s.globals.length
 ends:t.status=1↔t.frames=[]
theorem Iz{v:Vu}(h:Turn s {s' with frames:=rest++[x]})(hst:s'.status≠1)(hl:s.frames=rest++[x]):Turn s (BP s' rest x d v) where
 steps:=h.steps
 allocs:=h.allocs
 guards:=h.guards
 seen:=h.seen
 frames:=by unfold BP;rw[hl];simp
 globals:=h.globals
 ends:=by unfold BP;simp[hst]
theorem Jy(hg:TU s' rest x d=some t)(h:Turn s {s' with frames:=rest++[x]})(hst:s'.status≠1)(hl:s.frames=rest++[x]):Turn s t:=by grind [TU,Iz,cases St,cases Lv,cases Turn]
theorem Turn.same(hst:s.status≠1):Turn {s with frames:=rest++[x]} {s with frames:=rest++[x]}:=⟨rfl,.inl ⟨rfl,rfl⟩,.inl rfl,.inl ⟨rfl,rfl,rfl⟩,by simp,rfl,by simp[hst]⟩
theorem XU{fr:List Lv}(h:s.frames=fr):{s with frames:=fr}=s:=by rw[<-h]
theorem Uy{i:Is}(hl:s.frames=rest++[x])(hst:s.status=0)(hw:i.as.length<=8)(hn:i.op=32->i.n≠Bv)(h:Bq p ans fails s rest x i=some t):Turn s t:=by
 have h1:s.status≠1:=by rw[hst];decide
 have same:Turn s {s with frames:=rest++[x]}:=by
  have:=Turn.same (rest:=rest) (x:=x) h1;rwa[XU hl]at this⊢
 have st:∀{d v},Turn s (BP s rest x d v):=Iz same h1 hl;unfold Bq at h;by_cases ZG:i.op=25
 ·rw[if_pos ZG]at h;injection h with h;subst h;exact Iz ⟨rfl,.inr ⟨rfl,by simp⟩,.inl rfl,.inl ⟨rfl,rfl,rfl⟩,by rw[hl];simp,rfl,by simp[h1]⟩ h1 hl
 rw[if_neg ZG]at h;by_cases iM:i.op=29
 ·rw[if_pos iM]at h;split at h
  ·cases h
  split at h
  ·cases h
  injection h with h;subst h;exact st
 rw[if_neg iM]at h;by_cases c31:i.op=31
 ·rw[if_pos c31]at h;split at h
  ·cases h
  split at h
  ·cases h
  split at h
  ·cases h
  injection h with h;subst h;exact⟨rfl,.inl ⟨rfl,rfl⟩,.inl rfl,.inl ⟨rfl,rfl,rfl⟩,by rw[hl];simp,rfl,by simp[h1]⟩
 rw[if_neg c31]at h;by_cases c32:i.op=32
 ·rw[if_pos c32]at h;injection h with h;subst h;exact Iz ⟨rfl,.inl ⟨rfl,rfl⟩,.inl rfl,.inr ⟨_,rfl,rfl,by simpa using hw,.inr ⟨hn c32,rfl⟩⟩,by rw[hl];simp,rfl,by simp[JN,h1]⟩ h1 hl
 rw[if_neg c32]at h;by_cases c34:i.op=34
 ·rw[if_pos c34]at h;split at h
  ·injection h with h;subst h;exact⟨rfl,.inl ⟨rfl,rfl⟩,.inr rfl,.inl ⟨rfl,rfl,rfl⟩,by simp,rfl,by simp[hl]⟩
  ·exact Jy h ⟨rfl,.inl ⟨rfl,rfl⟩,.inr rfl,.inl ⟨rfl,rfl,rfl⟩,by rw[hl];simp,rfl,by simp[h1]⟩ h1 hl
 rw[if_neg c34]at h;split at h
 ·cases h
 rename_i a r has
 by_cases iN:i.op=22
 ·rw[if_pos iN]at h;injection h with h;subst h;exact st
 rw[if_neg iN]at h;by_cases c23:i.op=23
 ·rw[if_pos c23]at h;injection h with h;subst h;exact st
 rw[if_neg c23]at h;by_cases c24:i.op=24
 ·rw[if_pos c24]at h;injection h with h;subst h;exact st
 rw[if_neg c24]at h;have trap:∀c,Turn s (Gd s c):=fun c=>⟨rfl,.inl ⟨rfl,rfl⟩,.inl rfl,.inl ⟨rfl,rfl,rfl⟩,by unfold Gd;simp,rfl,by unfold Gd;simp[hl]⟩;by_cases gT:i.op=26
 ·rw[if_pos gT]at h;split at h
  ·injection h with h;subst h;exact trap 1
  split at h
  ·cases h
  injection h with h;subst h;exact st
 rw[if_neg gT]at h;by_cases ZF:i.op=30
 ·rw[if_pos ZF]at h;split at h
  ·cases h
  split at h
  ·cases h
  exact Jy h ⟨rfl,.inl ⟨rfl,rfl⟩,.inl rfl,.inl ⟨rfl,rfl,rfl⟩,by rw[hl];simp,by simp[setAt],by simp[h1]⟩ h1 hl
 rw[if_neg ZF]at h;by_cases gQ:i.op=33
 ·rw[if_pos gQ]at h;exact Jy h ⟨rfl,.inl ⟨rfl,rfl⟩,.inl rfl,.inr ⟨_,rfl,rfl,by simp,.inl ⟨rfl,rfl⟩⟩,by rw[hl];simp,rfl,by simp[JN,h1]⟩ h1 hl
 rw[if_neg gQ]at h;split at h
 ·cases h
 by_cases Yy:i.op=27
 ·rw[if_pos Yy]at h;split at h
  ·injection h with h;subst h;exact trap 1
  split at h
  ·cases h
  exact Jy h ⟨rfl,.inl ⟨rfl,by simp[setAt]⟩,.inl rfl,.inl ⟨rfl,rfl,rfl⟩,by rw[hl];simp,rfl,by simp[h1]⟩ h1 hl
 rw[if_neg Yy]at h;by_cases c28:i.op=28
 ·rw[if_pos c28]at h;injection h with h;subst h;exact st
 rw[if_neg c28]at h;by_cases c14:1<=i.op/\i.op<=14
 ·rw[if_pos c14]at h;split at h
  ·injection h with h;subst h;exact st
  ·injection h with h;subst h;exact trap 2
 rw[if_neg c14]at h;by_cases c21:15<=i.op/\i.op<=21
 ·rw[if_pos c21]at h;injection h with h;subst h;exact st
 ·rw[if_neg c21]at h;cases h
theorem OU{y:ByteArray}(hl:s.frames=rest++[x])(hst:s.status=0)(h:H7 f s rest x y=some t):Turn s t:=by
 unfold H7 at h;split at h
 ·cases h
 split at h
 ·injection h with h;subst h;exact⟨rfl,.inl ⟨rfl,rfl⟩,.inl rfl,.inl ⟨rfl,rfl,rfl⟩,by rw[hl];simp,rfl,by simp[hst]⟩
 ·cases h
theorem fJ{e:Tm}(hl:s.frames=rest++[x])(hst:s.status=0)(h:La p f s rest x e=some t):Turn s t:=by
 unfold La at h;split at h
 ·split at h
  ·cases h
  ·exact OU hl hst h
 split at h
 ·split at h
  ·exact OU hl hst h
  ·cases h
 split at h
 ·unfold K4 at h;rcases List.eq_nil_or_concat rest with rfl|⟨r,y,rfl⟩
  ·rw[List.getLast?_nil]at h;injection h with h;subst h;exact⟨rfl,.inl ⟨rfl,rfl⟩,.inl rfl,.inl ⟨rfl,rfl,rfl⟩,by simp,rfl,by simp⟩
  ·rw[List.concat_eq_append,List.getLast?_concat,List.dropLast_concat]at h;dsimp only at h;split at h
   ·cases h
   split at h
   ·cases h
   split at h
   ·cases h
   split at h
   ·cases h
   injection h with h;subst h;unfold BP;exact⟨rfl,.inl ⟨rfl,rfl⟩,.inl rfl,.inl ⟨rfl,rfl,rfl⟩,by rw[hl];simp,rfl,by simp[hst]⟩
 split at h
 ·injection h with h;subst h;unfold Gd;exact⟨rfl,.inl ⟨rfl,rfl⟩,.inl rfl,.inl ⟨rfl,rfl,rfl⟩,by simp,rfl,by simp[hl]⟩
 ·cases h
def KO(p:Pg):Prop:=∀e∈p.xs,e.n≠Bv
theorem XQ(hg:DJ p)(hx:KO p)(hst:s.status=0)(hl:s.frames=s.frames.dropLast++[x])(hfr:Ca p s.heap x f b)(h:El p ans fails s x f b=some t):Turn s t:=by
 unfold El at h;split at h
 ·exact fJ hl hst h
 ·split at h
  ·cases h
  ·rename_i i hi
   obtain⟨Zc,_⟩:=((hg.fs f (Ak hfr.1).1).b b (Ak hfr.2.1).1).cs i (List.mem_of_getElem? hi);obtain⟨fm,d,l,hfo,hlen,hd,hts,hll,hq⟩:=Gx Zc;refine Uy hl hst ?_ (fun h32=>?_) h
   ·have:=PD hfo;omega
   ·have hex:Qr p i d l=true:=by
     unfold Av BX at hq;rw[h32]at hq;simpa using hq
    unfold Qr at hex
    cases hv:Ai Ex.n i.n p.xs with
    |none=>rw[hv]at hex;cases hex
    |some g=>
     obtain⟨h1,h2⟩:=Ak hv;rw[<-h2];exact hx g h1
theorem d9{α:Type}{c:Prop}[Decidable c]{a b:Option α}{t:α}:((if c then a else b)=some t)↔((c/\a=some t)\/(¬c/\b=some t)):=by
 by_cases hc:c<;>simp[hc]
theorem YS(h:TU s rest x d=some t):t.steps=s.steps:=by
 unfold TU at h;split at h
 ·injection h with h;subst h;rfl
 ·cases h
theorem QS{i:Is}(h:Bq p ans fails s rest x i=some t):t.steps=s.steps:=by
 unfold Bq at h;repeat'(first|(injection h with h;subst h;rfl)|exact(YS h).trans rfl|cases h;done|(rw[d9]at h;rcases h with⟨_,h⟩|⟨_,h⟩)|split at h)
theorem U8{e:Tm}(h:La p f s rest x e=some t):t.steps=s.steps:=by
 unfold La H7 K4 at h;repeat'(first|(injection h with h;subst h;rfl)|cases h;done|split at h)
theorem SE(h:El p ans fails s x f b=some t):t.steps=s.steps:=by grind [El,U8,QS,cases Pg,cases St,cases Lv,cases Fn,cases Bk]
structure ZH(s:St):Prop where
 st:0<=s.steps
 al:0<=s.allocs/\s.allocs<=s.steps/\s.allocs=s.heap.length
 gu:0<=s.guards/\s.guards<=s.steps
 asks:0<=s.asked/\s.asked=((s.trace.filter (fun e=>decide (e.n≠Bv))).length:Int)
 tr:(s.trace.length:Int)<=s.steps
 o8:s.marks.length=s.trace.length
 ms:∀m∈s.marks,0<=m/\m<=s.allocs
 up:∀(k:Nat) a b,s.marks[k]? =some a->s.marks[k+1]? =some b->a<=b
 ar:∀e∈s.trace,e.ar.length<=8
 fr:(s.frames.length:Int)<=s.steps+1
 en:s.status=1↔s.frames=[]
theorem ZH.turn(h:ZH s)(k:Turn {s with steps:=s.steps+1} t):ZH t:=by
 obtain⟨k1,k2,k3,k4,k5,k6,k7⟩:=k;dsimp only at k1 k2 k3 k4 k5 k6;have hal:=h.al;have htr:=h.tr;have hfr:=h.fr;have hst:=h.st;have hgu:=h.gu;have hup:∀m∈s.marks,0<=m/\m<=t.allocs:=fun m hm=>by
  have:=h.ms m hm;rcases k2 with k2|k2<;>omega
 have hasks:=h.asks;have b1:0<=t.steps:=by omega
 have b2:0<=t.allocs:=by rcases k2 with k2|k2<;>omega
 have b3:t.allocs<=t.steps:=by rcases k2 with k2|k2<;>omega
 have b4:t.allocs=t.heap.length:=by rcases k2 with k2|k2<;>omega
 have b5:0<=t.guards/\t.guards<=t.steps:=by rcases k3 with k3|k3<;>omega
 have b6:(t.frames.length:Int)<=t.steps+1:=by omega
 refine⟨b1,⟨b2,b3,b4⟩,b5,?_,?_,?_,?_,?_,?_,b6,k7⟩
 ·rcases k4 with⟨e1,e2,e3⟩|⟨e,e1,e2,e3,e4⟩
  ·rw[e1,e3];exact h.asks
  ·rw[e1,List.filter_append];rcases e4 with⟨n1,n2⟩|⟨n1,n2⟩
   ·rw[n2];simp only[List.filter_cons,n1];simpa using hasks
   ·rw[n2];have e5:List.filter (fun e:Ev=>decide (e.n≠Bv)) [e]=[e]:=(by simp[n1]);rw[e5];simp only[List.length_append,List.length_cons,List.length_nil];constructor
    ·omega
    ·rw[hasks.2];omega
 ·rcases k4 with⟨e1,_⟩|⟨e,e1,_⟩
  ·rw[e1];omega
  ·rw[e1,List.length_append];push_cast;simp;omega
 ·rcases k4 with⟨e1,e2,_⟩|⟨e,e1,e2,_⟩
  ·rw[e1,e2];exact h.o8
  ·rw[e1,e2];simp[h.o8]
 ·rcases k4 with⟨e1,e2,_⟩|⟨e,e1,e2,_⟩
  ·rw[e2];exact hup
  ·rw[e2];intro m hm;rcases List.mem_append.1 hm with hm|hm
   ·exact hup m hm
   ·obtain rfl:m=s.allocs:=(by simpa using hm);rcases k2 with k2|k2<;>omega
 ·rcases k4 with⟨e1,e2,_⟩|⟨e,e1,e2,_⟩
  ·rw[e2];exact h.up
  ·rw[e2];intro n a b ha hb;have hbl:=(List.getElem?_eq_some_iff.1 hb).1;rw[List.length_append]at hbl;have hn:n<s.marks.length:=(by simp at hbl;omega);rw[List.getElem?_append_left hn]at ha;by_cases hn2:n+1<s.marks.length
   ·rw[List.getElem?_append_left hn2]at hb;exact h.up n a b ha hb
   ·rw[List.getElem?_append_right (by omega)]at hb;have:n+1-s.marks.length=0:=(by omega);rw[this]at hb;obtain rfl:s.allocs=b:=(by simpa using hb);exact(h.ms a (List.mem_of_getElem? ha)).2
 ·rcases k4 with⟨e1,_⟩|⟨e,e1,_,e3,_⟩
  ·rw[e1];exact h.ar
  ·rw[e1];intro e' he';rcases List.mem_append.1 he' with h1|h1
   ·exact h.ar e' h1
   ·obtain rfl:e'=e:=(by simpa using h1);exact e3
end
end Go.Proofs.YtlffomedflegdaaGreatDoor
