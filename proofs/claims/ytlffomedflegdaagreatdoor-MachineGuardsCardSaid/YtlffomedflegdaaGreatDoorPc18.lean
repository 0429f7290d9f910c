/- Part 18 of the proof: Sb, Sc, Sd, Sf, Sg, Sh, Se, Si. -/
import Derived.Test.YtlffomedflegdaaGreatDoorPc17
set_option linter.all false
set_option maxHeartbeats 16000000
set_option maxRecDepth 100000
namespace Go.Proofs.YtlffomedflegdaaGreatDoor
open Go.Proofs.Tryz
open Go.RowKit
variable {i:Nat}{r:Option Nat}{u1 u2 u3 v:Value}{w w0:World}
def RN(w':World)(n:Nat)(e:Ending):Prop:=∃(v:Value) (o:List ByteArray),e=.returned v/\Row DL 1 w' v o/\o.length<=n
theorem AB2{B:Nat}{o:List ByteArray}{F:List Nat}(h:AZ w B 9 1 (o.map dS) v F)(hz:∀x∈o,Sz x)(hn:o.length<=1000000):Row DL 1 w v o:=
 h.view (fun _=>rfl) (fun _ _ _ _ a b=>vS a b) (by unfold Ln;omega) hz
theorem Xo(h0:AA6 w0 w){u:Value}{l:List ByteArray}(hl:Row DL 1 w0 u l)(hn:l.length<=10000)(s:ByteArray)(hs:Sz s):Calls prog 241 #[u,.string s] w fun e w'=>RN w' (2*l.length+1) e/\AA6 w w':=by
 obtain⟨p,c,rfl,-,-,hl⟩:=hl;go_enter func241,ntmps241;go_wp2;go_loopw[5,6] (fun v i wr=>∃(q:Nat) (o:List ByteArray) (F:List Nat),q<=l.length/\i=.int .i64 (q:Int)/\o.length<=q/\AZ wr w.heap.size 9 1 (o.map dS) v F/\F.Nodup/\Hid (∀x∈o,Sz x)/\AA6 w wr) (fun _ i _=>l.length-(intOf i).toNat);exact⟨0,[],[],AY,rfl,AQ,.nil,by simp,Wx (fun x h=>by cases h),AL⟩;obtain⟨q,o,F,hq,rfl,hoq,hv,hF,hz,hb⟩:=hrel;obtain⟨pv,cv,rfl⟩:=hv.slice;rw[List.length_map]at hv⊢;by_cases hend:q=l.length
 ·subst hend;obtain⟨wo,rfl⟩:=again wr;have hB2:=Ae.alloc wo [.string s] 9;have hb4:=hb.alloc hb.size (.cells #[.string s] 9);have hv2:=hv.same (w':=wo.alloc (.cells #[.string s] 9)) fun b hb'=>Below.heap_alloc _ _ _ (hv.fp b hb').2;go_upto_region 8 with(at_builtin;refine HY rfl P5 _ _ rfl rfl hv2 hF rfl hB2 (by simp[Value.oneCell']) (Af.str hB2) (by simp) (by simp) rfl rfl (by rw[List.length_map];omega) (by decide) hb4.size ?_;rintro v' w3 F' ⟨N7,Nh,rfl⟩ h1 h2 h3 h4 h5)
  have hb5:=hb4.trans h5;have h1':AZ w3 w.heap.size 9 1 ((o++[s]).map dS) (.slice N7 ((List.map dS o).length+1) Nh) F':=by rw[List.map_append];exact h1
  rw[List.length_map]at h1';have hz1:Hid (∀x∈o++[s],Sz x):=Wx fun x hx=>by
   rcases List.mem_append.1 hx with h|h
   ·exact hz.out x h
   ·rw[List.mem_singleton.1 h];exact hs
  have ho1:(o++[s]).length<=l.length+1:=by simp;omega
  have ho2:(o++[s]).length=o.length+1:=by simp
  rw[<-ho2]at h1'⊢;generalize o++[s]=o1 at*;clear h1 h3 h4 h5 hv hv2 hB2 hb hb4 hz hF hoq ho2;go_wp2;go_loopw[5,7] (fun v i wr=>∃(q:Nat) (o:List ByteArray) (F:List Nat),q<=l.length/\i=.int .i64 (q:Int)/\o.length<=l.length+1+q/\AZ wr w.heap.size 9 1 (o.map dS) v F/\F.Nodup/\Hid (∀x∈o,Sz x)/\AA6 w wr) (fun _ i _=>l.length-(intOf i).toNat);exact⟨0,o1,F',AY,rfl,ho1,h1',h2,hz1,hb5⟩;clear h1' h2 hz1 hb5 ho1;obtain⟨q,o,F,hq,rfl,hoq,hv,hF,hz,hb⟩:=hrel;obtain⟨pv,cv,rfl⟩:=hv.slice;rw[List.length_map]at hv⊢;by_cases hend:q=l.length
  ·subst hend;go_wp2;go_ret;exact⟨⟨_,o,rfl,AB2 hv hz.out (by omega),by omega⟩,hb⟩
  ·have hlt:q<l.length:=(by omega);have A8:(q:Int)<l.length:=(by omega);obtain⟨a,rfl,d0,hsz⟩:=hl q l[q] (by simp[hlt]);rw[Nat.mul_one]at d0;replace d0:=AA (AB h0 hb) d0;generalize l[q]=t at*;obtain⟨wo,rfl⟩:=again wr;go_upto_region 11 with fail;go_cut[42]from 37 to 41 (fun v wx=>∃b:Bool,v=.bool b/\wx=wo)
   ·go_wp2;go_meet;exact⟨_,rfl,rfl⟩
   obtain⟨b,rfl,rfl⟩:=hcut;obtain⟨wo,rfl⟩:=again wc;cases b
   ·clear d0;go_wp2;go_roundw;exact⟨q+1,o,F,hlt,by go_num,by omega,hv,hF,hz,hb⟩;simp[intOf];omega
   ·have hB2:=Ae.alloc wo [.string t] 9;have hb4:=hb.alloc hb.size (.cells #[.string t] 9);have hv2:=hv.same (w':=wo.alloc (.cells #[.string t] 9)) fun b hb'=>Below.heap_alloc _ _ _ (hv.fp b hb').2;(go_wp2_with(at_builtin;refine HY rfl P5 _ _ rfl rfl hv2 hF rfl hB2 (by simp[Value.oneCell']) (Af.str hB2) (by simp) (by simp) rfl rfl (by rw[List.length_map];omega) (by decide) hb4.size ?_;rintro v' w3 F' ⟨N7,Nh,rfl⟩ h1 h2 h3 h4 h5));have hb5:=hb4.trans h5;have h1':AZ w3 w.heap.size 9 1 ((o++[t]).map dS) (.slice N7 ((List.map dS o).length+1) Nh) F':=(by rw[List.map_append];exact h1);rw[List.length_map]at h1';have hz1:Hid (∀x∈o++[t],Sz x):=Wx fun x hx=>by
     rcases List.mem_append.1 hx with h|h
     ·exact hz.out x h
     ·rw[List.mem_singleton.1 h];exact hsz
    have ho1:(o++[t]).length<=l.length+1+(q+1):=(by simp;omega);clear h1 h3 h4 h5 hv hv2 hB2 hb hb4 hz hF d0;go_roundw;exact⟨q+1,o++[t],F',hlt,by go_num,ho1,h1',h2,hz1,hb5⟩;simp[intOf];omega
 ·have hlt:q<l.length:=by omega
  have A8:(q:Int)<l.length:=by omega
  obtain⟨a,rfl,d0,hsz⟩:=hl q l[q] (by simp[hlt]);rw[Nat.mul_one]at d0;replace d0:=AA (AB h0 hb) d0;generalize l[q]=t at*;obtain⟨wo,rfl⟩:=again wr;go_upto_region 5 with fail;go_cut[19]from 14 to 18 (fun v wx=>∃b:Bool,v=.bool b/\wx=wo)
  ·go_wp2;go_meet;exact⟨_,rfl,rfl⟩
  obtain⟨b,rfl,rfl⟩:=hcut;obtain⟨wo,rfl⟩:=again wc;cases b
  ·clear d0;go_wp2;go_roundw;exact⟨q+1,o,F,hlt,by go_num,by omega,hv,hF,hz,hb⟩;simp[intOf];omega
  ·have hB2:=Ae.alloc wo [.string t] 9;have hb4:=hb.alloc hb.size (.cells #[.string t] 9);have hv2:=hv.same (w':=wo.alloc (.cells #[.string t] 9)) fun b hb'=>Below.heap_alloc _ _ _ (hv.fp b hb').2;(go_wp2_with(at_builtin;refine HY rfl P5 _ _ rfl rfl hv2 hF rfl hB2 (by simp[Value.oneCell']) (Af.str hB2) (by simp) (by simp) rfl rfl (by rw[List.length_map];omega) (by decide) hb4.size ?_;rintro v' w3 F' ⟨N7,Nh,rfl⟩ h1 h2 h3 h4 h5));have hb5:=hb4.trans h5;have h1':AZ w3 w.heap.size 9 1 ((o++[t]).map dS) (.slice N7 ((List.map dS o).length+1) Nh) F':=(by rw[List.map_append];exact h1);rw[List.length_map]at h1';have hz1:Hid (∀x∈o++[t],Sz x):=Wx fun x hx=>by
    rcases List.mem_append.1 hx with h|h
    ·exact hz.out x h
    ·rw[List.mem_singleton.1 h];exact hsz
   have ho1:(o++[t]).length<=q+1:=(by simp;omega);go_roundw;exact⟨q+1,o++[t],F',hlt,by go_num,ho1,h1',h2,hz1,hb5⟩;simp[intOf];omega
theorem Yn(h0:AA6 w0 w){u:Value}{l:List ByteArray}(hl:Row DL 1 w0 u l)(hn:l.length<=10000)(x:Ag)(hs:Sz x.s):Calls prog 221 #[u,.agg #[.int .i64 x.k,.string x.s,.int .i64 x.n]] w fun e w'=>RN w' (2*l.length+1) e/\AA6 w w':=by
 have hb1:=AJ w (.cells #[.int .i64 x.k,.string x.s,.int .i64 x.n] 77);have hX:=Ae.alloc w [.int .i64 x.k,.string x.s,.int .i64 x.n] 77;obtain⟨x0,x1⟩:=hX.c2;have hP:=Xo (AB h0 hb1) hl hn x.s hs;have hr:RN (w.alloc (.cells #[.int .i64 x.k,.string x.s,.int .i64 x.n] 77)) (2*l.length+1) (.returned u):=⟨u,l,rfl,Row.s (AB h0 hb1) hl,by omega⟩;obtain⟨p,c,rfl⟩:=hl.slice;generalize x.k=k at*;generalize x.s=s at*;generalize x.n=n at*
 cases e1:((k:Int)==1)with
 |true=>
  go_enter func221,ntmps221;go_wp2_with fail;refine hP.mono ?_;rintro e w2 ⟨⟨v,o,rfl,hv⟩,hb2⟩;have hb3:=AB hb1 hb2;replace hv:=Wx hv;go_wp2;go_ret
  exact⟨⟨v,o,rfl,hv.out⟩,hb3⟩
 |false=>
  replace hr:=Wx hr;go_enter func221,ntmps221;go_wp2;go_ret;exact⟨hr.out,hb1⟩
theorem bD(h0:AA6 w0 w){x:Is}(hv:Pv w0 v x u1 u2 u3)(h8:x.as.length<=8)(hfr:x.fr=[])(Nc:x.ob=[]):Calls prog 187 #[v] w fun e w'=>RN w' 1000 e/\AA6 w w':=by
 obtain⟨rfl,-,ha,hf,ho⟩:=hv;obtain⟨p1,k1,rfl,-,-,ha⟩:=ha;obtain⟨p2,k2,rfl⟩:=hf.slice;obtain⟨p3,k3,rfl⟩:=ho.slice;have hf0:x.fr.length=0:=by rw[hfr];rfl
 have ho0:x.ob.length=0:=by rw[Nc];rfl
 rw[hf0,ho0];go_enter func187,ntmps187;go_wp2;generalize Cr:w.alloc _=W at*;obtain⟨hb1,hX⟩:=ng Cr;go_loopw[3,4] (fun v i wr=>∃(q:Nat) (o:List ByteArray),q<=x.as.length/\i=.int .i64 (q:Int)/\o.length+1<=2^q/\Row DL 1 wr v o/\AA6 W wr) (fun _ i _=>x.as.length-(intOf i).toNat);exact⟨0,[],AY,rfl,by simp,⟨none,0,rfl,(fun _=>⟨rfl,rfl⟩),⟨by simp,by simp⟩,fun i y hy=>by simp at hy⟩,AL⟩;obtain⟨q,o,hq,rfl,hoq,hv,hb⟩:=hrel;obtain⟨pv,cv,rfl⟩:=hv.slice;have hX1:=hX.nx hb;have x3:=hX1.c 3 _ rfl;have hbb:=AB hb1 hb;have AJu:2^q<=256:=AX (Nat.pow_le_pow_right (by decide) (show q<=8 by omega)) (by decide);have AGf:o.length<=255:=by omega
 by_cases hend:q=x.as.length
 ·subst hend;obtain⟨-,-,-,-,x4,x5⟩:=hX1.c6;have hout:RN wr 1000 (.returned (.slice pv o.length cv)):=⟨_,o,rfl,hv,by omega⟩;replace hout:=Wx hout;obtain⟨wo,rfl⟩:=again wr;go_wp2;go_loopw[3,5] (fun v i wr=>v=.slice pv o.length cv/\i=.int .i64 0/\wr=wo) (fun _ _ _=>0);exact⟨rfl,rfl,rfl⟩;obtain⟨rfl,rfl,rfl⟩:=hrel;obtain⟨wp,rfl⟩:=again wr;go_wp2;go_loopw[3,7] (fun v i wr=>v=.slice pv o.length cv/\i=.int .i64 0/\wr=wp) (fun _ _ _=>0);exact⟨rfl,rfl,rfl⟩;obtain⟨rfl,rfl,rfl⟩:=hrel;go_wp2;go_ret;exact⟨hout.out,hbb⟩
 ·have hlt:q<x.as.length:=by omega
  have A8:(q:Int)<x.as.length:=by omega
  obtain⟨a,rfl,c0,⟨c1,z1⟩,c2⟩:=ha q x.as[q] (by simp[hlt]);have hk:=AB h0 hbb;replace c0:=AA hk c0;replace c1:=AA hk c1;replace c2:=AA hk c2;have hA:=Yn (Below.refl wr.heap.size wr) hv (by omega) x.as[q] z1;have hpw:2^ (q+1)=2^q+2^q:=by rw[Nat.pow_succ];omega
  replace hpw:=Wx hpw;generalize x.as[q].k=t1 at*;generalize x.as[q].s=t2 at*;generalize x.as[q].n=t3 at*;go_wp2_with fail;refine hA.mono ?_;rintro e w3 ⟨⟨v3,o3,rfl,hv3,ho3⟩,hb3⟩;have hb4:=AB hb hb3;obtain⟨uw,c3',rfl⟩:=hv3.slice;replace hv3:=Wx hv3;replace ho3:=Wx ho3;go_wp2;go_roundw;exact⟨q+1,o3,hlt,by go_num,by have:=hpw.out;have:=ho3.out;omega,hv3.out,hb4⟩;simp[intOf];omega
section
structure Lf(w:World)(B p:Nat)(o:List Bool):Prop where
 x:Ae w p (o.map Value.bool)
 l:p<w.heap.size
 g:B<=p
section
variable {w w1 : World} {B p : Nat} {o : List Bool}
theorem Lf.nx(h:Lf w B p o)(hb:AA6 w w1):Lf w1 B p o:=⟨h.x.below h.l hb,A9 h.l hb.size,h.g⟩
theorem Lf.c(h:Lf w B p o)(hi:i<o.length):w.cell? ⟨p,i,none⟩=some (.bool o[i]):=h.x.c i _ (by simp[hi])
theorem Lf.f(h:Lf w B p o)(hi:i<o.length):w.frozen? ⟨p,i,none⟩=false:=h.x.f i (by simpa using hi)
theorem Lf.set(h:Lf w B p o)(hi:i<o.length)(b:Bool):Lf (w.setCell ⟨p,i,none⟩ (.bool b)) B p (o.set i b):=
 ⟨by rw[List.map_set];exact h.x.set (by simpa using hi) _,by rw[G7];exact h.l,h.g⟩
theorem Lf.low(h:Lf w B p o)(i:Nat)(v:Value):Below B w (w.setCell ⟨p,i,none⟩ v):=(AL).setCell h.g v
end
theorem AAW:(prog.info? 4).map (fun i=>(i.zero,i.size,i.bytes))=some (some (.bool false),1,1):=by kernel_rfl
theorem sW(n:Nat):(madeCells #[Value.bool false] (n*1)).toList=(List.replicate n false).map Value.bool:=by
 rw[Nat.mul_one,toList_madeCells_one,List.map_replicate]
theorem RQ{ops:Array Oper}{rest:List Oper}{o:Oper}{a:Act}{Q:Exit->Act->World->Prop}(hgd:o.guard=none)(s x:Operand)(ho:o.op=Op.makeSlice 259 s x){n:Nat}(hs:a.eval s=.int .i64 (n:Int))(hx:a.eval x=.int .i64 (n:Int))(hn:n<=1000000)(hK:∀w',Lf w' w.heap.size w.heap.size (List.replicate n false)->AA6 w w'->wpList prog ops Q rest (a.put o.dst (.slice (some ⟨w.heap.size,0,none⟩) n n)) w'):wpList prog ops Q (o::rest) a w:=by
 obtain⟨i0,hi,hz0,hz1,hz2⟩:=Cq (P:=prog) (t:=4) AAW;refine wpList_make_full w hgd s x 259 ho w.heap.size 4 i0 _ 1 underlying259 hi hz0 hz1 .i64 .i64 n n n hs hx rfl rfl (by rw[hz2];omega) (by unfold maxLen;omega) (AQ) fun w' h1 h2=>?_;have hz:Value.cells (.bool false)=#[.bool false]:=rfl;rw[hz,sW]at h1;refine hK w' ⟨⟨fun i v hv=>?_,fun i hi=>(QE h1).Bw i⟩,(QE h1).lt,AQ⟩ ((Below.refl w.heap.size w).grown h2 (AQ) fun k e=>by cases e);grind [Cq,AAW,sW,QE,Ep,cases Lf]
def Y1(r:Option Nat):Int:=match r with
 |some k=>((0+k:Nat):Int)
 |none=>0
theorem aG{e:Ending}(h:Je 0 r e):e=.returned (.tuple #[.int .i64 (Y1 r),.bool r.isSome]):=by
 cases r with
 |none=>exact h
 |some k=>exact h
theorem Ov(h0:AA6 w0 w){f:Fn}(hf:EL w0 v f u1 u2 u3)(hi:i<f.bs.length)(k:Int):Calls prog 189 #[v,.int .i64 (i:Int),.int .i64 k] w fun e w'=>Zq e/\AA6 w w':=by
 have hP:=fun W (hb:AA6 w0 W) x=>NH hb hf x;obtain⟨rfl,-,hp,hv,hb⟩:=hf;obtain⟨p1,k1,rfl⟩:=hp.slice;obtain⟨p2,k2,rfl⟩:=hv.slice;obtain⟨p3,k3,rfl,-,⟨hn,-⟩,hl⟩:=hb;obtain⟨a,rfl,-,-,-,-,-,⟨u4,t4,r4⟩,-⟩:=hl i f.bs[i] (by simp[hi]);obtain⟨p4,k4,rfl,-,⟨iH,-⟩,hl4⟩:=r4;generalize f.bs[i].e.to=lt at*;have hiI:(i:Int)<f.bs.length:=by omega
 go_enter func189,ntmps189;go_wp2;generalize Cr:w.alloc _=W at*;obtain⟨hb1,hX⟩:=ng Cr;go_loopw[7] (fun j wr=>∃q:Nat,q<=lt.length/\j=.int .i64 (q:Int)/\AA6 W wr) (fun j _=>lt.length-(intOf j).toNat);exact⟨0,AY,rfl,AL⟩;obtain⟨q,hq,rfl,hb⟩:=hrel;have hX1:=hX.nx hb;have hbb:=AB hb1 hb;have x4:=hX1.c 4 _ rfl;have t5:=AA (AB h0 hbb) t4;by_cases hend:q=lt.length
 ·subst hend;go_wp2;go_ret;exact⟨⟨_,rfl⟩,hbb⟩
 ·have hlt:q<lt.length:=by omega
  have A8:(q:Int)<lt.length:=by omega
  obtain⟨b,rfl,d0,-⟩:=hl4 q lt[q] (by simp[hlt]);rw[Nat.mul_one]at d0;replace d0:=AA (AB h0 hbb) d0;have hP1:∀W',AA6 wr W'->Calls prog 55 #[.agg #[.string f.n,.string f.r,.slice p1 f.ps.length k1,.slice p2 f.vs.length k2,.slice (some a) f.bs.length k3],.string lt[q]] W' fun e w'=>e=.returned (.tuple #[.int .i64 (Y1 (Cu Bk.n lt[q] f.bs)),.bool (Cu Bk.n lt[q] f.bs).isSome])/\AA6 W' w':=fun W' hb'=>(hP W' (AB (AB h0 hbb) hb') _).mono fun _ _ h=>⟨aG h.2,h.1⟩;generalize Y1 (Cu Bk.n lt[q] f.bs)=pk at*;generalize(Cu Bk.n lt[q] f.bs).isSome=ok at*;generalize lt[q]=t at*;obtain⟨x0,x1,x2,x3⟩:=hX1.c4;have hbd:=(Below.refl wr.heap.size wr).drew;go_wp2;refine AO (S:=fun _ v=>AA6 wr v) rfl (by kernel_rfl) hbd ?_;iterate 17(first|(apply Ab.z rfl;intro L w1 _ _ _ z hK;(have x0:=AA z.s x0;have x1:=AA z.s x1;have x2:=AA z.s x2;have x3:=AA z.s x3;have x4:=AA z.s x4;have t5:=AA z.s t5;have d0:=AA z.s d0);go_simp;exact hK (z.s);rfl)|(apply Ab.y rfl;intro L w1 _ _ z hK;go_simp;go_wp2_with((refine(hP1 _ z.s).mono ?_;rintro e w2 ⟨rfl,hb⟩));(try simp only[pE]);exact hK.out _ (AB z.s hb);rfl))
  refine Ab.nil fun w4 Bb=>?_;have hb4:=AB hb Bb;have hbz:=AB hbb Bb;cases ok
  ·go_wp2;go_roundw;exact⟨q+1,by omega,by go_num,hb4⟩;simp[intOf];omega
  ·cases e1:((pk:Int)==k)with
   |true=>
    go_wp2;go_ret
    exact⟨⟨_,rfl⟩,hbz⟩
   |false=>
    go_wp2;go_roundw;exact⟨q+1,by omega,by go_num,hb4⟩;simp[intOf];omega
end
def isF(v:Option Value):Nat:=match v with
 |some (.bool false)=>1
 |_=>0
def Z7(w:World)(p n:Nat):Nat:=((List.range n).map fun i=>isF (w.cell? ⟨p,i,none⟩)).sum
def mT(v:Value):Nat:=match v with
 |.bool true=>1
 |_=>0
theorem WC{B p:Nat}{o:List Bool}(h:Lf w B p o){n:Nat}(hn:o.length=n):Z7 w p n=o.count false:=by
 subst hn;have e:(List.range o.length).map (fun i=>isF (w.cell? ⟨p,i,none⟩))=o.map fun b=>if b then 0 else 1:=by
  apply List.ext_getElem (by simp);intro i h1 h2;have hi:i<o.length:=by simpa using h1
  simp only[List.getElem_map,List.getElem_range];rw[h.c hi];cases o[i]<;>rfl
 unfold Z7;rw[e];clear e h
 induction o with
 |nil=>rfl
 |cons b r ih=>
  rw[List.map_cons,List.sum_cons,ih];cases b<;>simp[Nat.add_comm]
theorem LH{o:List Bool}{k:Nat}(hk:k<o.length):(o.set k true).count false+(if o[k]=false then 1 else 0)=o.count false:=by grind
def oP(w w':World)(n:Nat)(e:Ending):Prop:=∃(p:Nat) (o:List Bool),e=.returned (.slice (some ⟨p,0,none⟩) n n)/\o.length=n/\Lf w' w.heap.size p o
theorem fT(h0:AA6 w0 w){f:Fn}(hf:EL w0 v f u1 u2 u3)(hn:f.bs.length<=10000):Calls prog 178 #[v] w fun e w'=>oP w w' f.bs.length e/\AA6 w w':=by
 have hP:=fun W (hb:AA6 w0 W) i (hi:i<f.bs.length) k=>Ov hb hf hi k;obtain⟨rfl,-,hp,hv,hb⟩:=hf;obtain⟨p1,k1,rfl⟩:=hp.slice;obtain⟨p2,k2,rfl⟩:=hv.slice;obtain⟨p3,k3,rfl⟩:=hb.slice;clear hp hv hb;generalize f.bs.length=n at*;go_enter func178,ntmps178;go_upto_region 1 with fail;generalize Cr:w.alloc _=W at*;obtain⟨hb1,hX⟩:=ng Cr;clear Cr;have x4:=hX.c 4 _ rfl;go_upto_region 2 with(at_make;refine RQ rfl _ _ rfl rfl rfl (AX hn (by decide)) ?_;intro w2 hO hb2)
 have hb3:=AB hb1 hb2;have hX2:=hX.nx hb2;obtain⟨ow,how⟩:∃ow,W.heap.size=ow:=⟨_,rfl⟩;rw[how]at hO⊢;have hlow:w.heap.size<=ow:=by rw[<-how];exact hb1.size
 have hXp:w.heap.size<ow:=by rw[<-how];exact hX.lt
 have nI:Lf w2 w.heap.size ow (List.replicate n false):=⟨hO.x,hO.l,hlow⟩;have hlen:(List.replicate n false).length=n:=by simp
 clear hb1 hb2 hX x4 hO;go_wp2;obtain⟨d0,hd0⟩:∃d0,d0=decide (0<n):=⟨_,rfl⟩;rw[<-hd0];replace hd0:=Wx hd0;go_loopw[4] (fun m wr=>∃(b:Bool) (o:List Bool),m=.bool b/\o.length=n/\Lf wr w.heap.size ow o/\AA6 w wr/\Ae wr w.heap.size [.string f.n,.string f.r,.slice p1 f.ps.length k1,.slice p2 f.vs.length k2,.slice p3 n k3]/\(b=true->0<n)) (fun m wr=>2*Z7 wr ow n+mT m);exact⟨d0,_,rfl,hlen,nI,hb3,hX2,fun h=>BK (hd0.out.symm.trans h)⟩;clear nI hb3 hX2 hlen;obtain⟨b,o,rfl,ho,hO,hb,hX,hn0⟩:=hrel;cases b
 ·clear hP hX;go_wp2;go_ret;exact⟨⟨ow,o,rfl,ho,hO⟩,hb⟩
 have WU:=hn0 rfl;clear hn0;have hcw:=WC hO ho;have vR:(0:Int)<n:=by omega
 have z0:=hO.c (i:=0) (by omega);have f0:=hO.f (i:=0) (by omega);have hO2:=hO.set (i:=0) (by omega) true;have hb2:=hb.trans (hO.low 0 (.bool true));have hX2:Ae (wr.setCell ⟨ow,0,none⟩ (.bool true)) w.heap.size _:=hX.far (q:=⟨ow,0,none⟩) (by dsimp only;omega) (.bool true);have hc2:(o.set 0 true).count false<=o.count false:=by have:=LH (o:=o) (k:=0) (by omega);omega
 have ho2:(o.set 0 true).length=n:=by simpa using ho
 obtain⟨c0,hc0⟩:∃c0,c0=o.count false:=⟨_,rfl⟩;rw[<-hc0]at hc2 hcw;replace hcw:=Wx hcw;replace hc0:=Wx hc0;generalize o.set 0 true=o2 at*;go_upto_region 6 with fail;generalize Cr:wr.setCell _ _=w5 at*;go_wp2;obtain⟨wo,rfl⟩:=again wr;go_loopw[4,5] (fun m i wr=>∃(q:Nat) (b:Bool) (o:List Bool),q<=n/\m=.bool b/\i=.int .i64 (q:Int)/\o.length=n/\Lf wr w.heap.size ow o/\AA6 w wr/\Ae wr w.heap.size [.string f.n,.string f.r,.slice p1 f.ps.length k1,.slice p2 f.vs.length k2,.slice p3 n k3]/\Hid (o.count false+(if b=true then 1 else 0)<=c0)) (fun _ i _=>n-(intOf i).toNat);exact⟨0,false,o2,AY,rfl,rfl,ho2,hO2,hb2,hX2,Wx (by simpa using hc2)⟩;obtain⟨q,b,o,hq,rfl,rfl,ho,hO,hb,hX,hcc⟩:=hrel;by_cases hend:q=n
 ·subst hend;have hcn:=WC hO ho;replace hcn:=Wx hcn;go_wp2;go_roundw;exact⟨b,o,rfl,ho,hO,hb,hX,fun _=>WU⟩
  case measure=>
   rw[hcn.out,hcw.out];have:=hcc.out;cases b<;>simp[mT]at this⊢<;>omega
 ·have hlt:q<n:=by omega
  have A8:(q:Int)<n:=by omega
  obtain⟨wv,rfl⟩:=again wr;go_wp2;go_loopw[4,6] (fun m i wr=>∃(k:Nat) (b:Bool) (o:List Bool),k<=n/\m=.bool b/\i=.int .i64 (k:Int)/\o.length=n/\Lf wr w.heap.size ow o/\AA6 w wr/\Ae wr w.heap.size [.string f.n,.string f.r,.slice p1 f.ps.length k1,.slice p2 f.vs.length k2,.slice p3 n k3]/\Hid (o.count false+(if b=true then 1 else 0)<=c0)) (fun _ i _=>n-(intOf i).toNat);exact⟨0,b,o,AY,rfl,rfl,ho,hO,hb,hX,hcc⟩;obtain⟨k,b,o,hk,rfl,rfl,ho,hO,hb,hX,hcc⟩:=hrel;by_cases hkn:k=n
  ·subst hkn;have hd:decide ((k:Int)<(k:Int))=false:=decide_eq_false (by omega);clear hP;go_wp2;go_roundw;exact⟨q+1,b,o,hlt,rfl,by go_num,ho,hO,hb,hX,hcc⟩;simp[intOf];omega
  ·have hkl:k<n:=(by omega);have jB:(k:Int)<n:=(by omega);have zq:=hO.c (i:=q) (by omega);have zk:=hO.c (i:=k) (by omega);have fk:=hO.f (i:=k) (by omega)
   cases hoq:o[q]with
   |false=>
    rw[hoq]at zq;clear hP zk fk;go_wp2;go_roundw;exact⟨q+1,b,o,hlt,rfl,by go_num,ho,hO,hb,hX,hcc⟩
    simp[intOf];omega
   |true=>
    rw[hoq]at zq
    cases hok:o[k]with
    |true=>
     rw[hok]at zk;go_wp2;go_roundw;exact⟨k+1,b,o,hkl,rfl,by go_num,ho,hO,hb,hX,hcc⟩
     simp[intOf];omega
    |false=>
     rw[hok]at zk;have hP1:=hP wr (AB h0 hb) q hlt (k:Int);obtain⟨x0,x1,x2,x3,x4⟩:=hX.c5;go_wp2_with fail;refine hP1.mono ?_;rintro e w6 ⟨⟨b2,rfl⟩,hb6⟩;have TP:=hO.nx hb6;have Ng:=hX.nx hb6;have BJ:=AB hb hb6;cases b2
     ·go_wp2;go_roundw;exact⟨k+1,b,o,hkl,rfl,by go_num,ho,TP,BJ,Ng,hcc⟩;simp[intOf];omega
     ·have zk:=TP.c (i:=k) (by omega);have fk:=TP.f (i:=k) (by omega);have pU:=TP.set (i:=k) (by omega) true;have Bp:=BJ.trans (TP.low k (.bool true));have nH:Ae (w6.setCell ⟨ow,k,none⟩ (.bool true)) w.heap.size _:=Ng.far (q:=⟨ow,k,none⟩) (by dsimp only;omega) (.bool true);have hc8:(o.set k true).count false+(if true=true then 1 else 0)<=c0:=by
       have:=LH (o:=o) (k:=k) (by omega);rw[hok]at this;have h2:=hcc.out;simp at this⊢;omega
      have ho8:(o.set k true).length=n:=(by simpa using ho);replace hc8:=Wx hc8;go_wp2;go_roundw;exact⟨k+1,true,o.set k true,hkl,rfl,by go_num,ho8,pU,Bp,nH,hc8⟩;simp[intOf];omega
theorem gB(h0:AA6 w0 w){f:Fn}(hf:EL w0 v f u1 u2 u3)(hn:f.bs.length<=10000)(hp0:0<f.bs.length)(s:ByteArray):Calls prog 222 #[v,.string s] w fun e w'=>oP w w' f.bs.length e/\AA6 w w':=by
 have hL:=fun W (hb:AA6 w0 W) i (hi:i<f.bs.length) k=>Ov hb hf hi k;have hPa:=fun W (hb:AA6 w0 W)=>Xw hb hf s;obtain⟨rfl,-,hp,hv,hb⟩:=hf;obtain⟨p1,k1,rfl⟩:=hp.slice;obtain⟨p2,k2,rfl⟩:=hv.slice;obtain⟨p3,k3,rfl,-,-,hl⟩:=hb;obtain⟨a,rfl,hA0⟩:=hl 0 f.bs[0] (by simp[hp0]);have hbk:∀q (h:q<f.bs.length),Jf w0 (a.add (q*9)) f.bs[q]:=fun q h=>by
  obtain⟨a',e,h1⟩:=hl q f.bs[q] (by simp[h]);obtain rfl:a=a':=by simpa using e
  exact h1
 replace hbk:=Wx hbk;have hb1:=AJ w (.cells #[.string f.n,.string f.r,.slice p1 f.ps.length k1,.slice p2 f.vs.length k2,.slice (some a) f.bs.length k3] 66);have hX:=Ae.alloc w [.string f.n,.string f.r,.slice p1 f.ps.length k1,.slice p2 f.vs.length k2,.slice (some a) f.bs.length k3] 66;obtain⟨n,hnn⟩:∃n,n=f.bs.length:=⟨_,rfl⟩;rw[<-hnn]at hb1 hX hp0 hn hPa hL⊢;replace hnn:=Wx hnn;have PV:(0:Int)<n:=by omega
 go_enter func222,ntmps222;go_upto_region 1 with fail;generalize Cr:w.alloc _=W at*;have x4:=hX.c 4 _ rfl;go_upto_region 2 with(at_make;refine RQ rfl _ _ rfl rfl rfl (AX hn (by decide)) ?_;intro w2 hO hb2)
 have hb3:=AB hb1 hb2;have hX2:=hX.nx hb2;obtain⟨ow,how⟩:∃ow,W.heap.size=ow:=⟨_,rfl⟩;rw[how]at hO⊢;have hlow:w.heap.size<=ow:=by rw[<-how];exact hb1.size
 have hXp:w.heap.size<ow:=by rw[<-how];exact hX.lt
 have nI:Lf w2 w.heap.size ow (List.replicate n false):=⟨hO.x,hO.l,hlow⟩;have hlen:(List.replicate n false).length=n:=by simp
 have AEa:=hPa _ (AB h0 hb3);generalize List.replicate n false=o at*;obtain⟨x0,x1,x2,x3,x4⟩:=hX2.c5;go_upto_region 2 with fail;have hpx:w.heap.size≠ow:=by omega
 go_cut[27]from 13 to 26 (fun _ wx=>∃o':List Bool,o'.length=n/\Lf wx w.heap.size ow o'/\AA6 w wx/\Ae wx w.heap.size [.string f.n,.string f.r,.slice p1 f.ps.length k1,.slice p2 f.vs.length k2,.slice (some a) n k3])
 ·go_wp2_with fail;refine AEa.mono ?_;rintro e w4 ⟨⟨r,rfl⟩,hb4⟩;have Qa:=hX2.nx hb4;have hO4:=nI.nx hb4;have hb5:=AB hb3 hb4;cases r;rotate_left
  ·have z0:=hO4.c (i:=0) (by omega);have f0:=hO4.f (i:=0) (by omega);have hO5:=hO4.set (i:=0) (by omega) false;have hb6:=hb5.trans (hO4.low 0 (.bool false));have WO:Ae (w4.setCell ⟨ow,0,none⟩ (.bool false)) w.heap.size _:=Qa.far (q:=⟨ow,0,none⟩) (fun e=>hpx e.symm) (.bool false);go_wp2;go_meet;exact⟨_,by simpa using hlen,hO5,hb6,WO⟩
  have y4:=Qa.c 4 _ rfl;have hA:=hbk.out 0 (by rw[<-hnn.out];exact hp0);rw[Nat.zero_mul,show a.add 0=a by simp[Addr.add]]at hA;obtain⟨t1,t2,t3,hI,c0,c1,c2,c3,c4,c5,c6,c7,c8⟩:=hA.val;have hk:=AB h0 hb5;have hF:=Vp hk hI s;replace c0:=AA hk c0;replace c1:=AA hk c1;replace c2:=AA hk c2;replace c3:=AA hk c3;replace c4:=AA hk c4;replace c5:=AA hk c5;replace c6:=AA hk c6;replace c7:=AA hk c7;replace c8:=AA hk c8;generalize f.bs[0]=b0 at*;go_wp2_with fail;refine hF.mono ?_;rintro e w6 ⟨⟨r,rfl⟩,hb6⟩;have Ng:=Qa.nx hb6;have TP:=hO4.nx hb6;have BJ:=AB hb5 hb6;have z0:=TP.c (i:=0) (by omega);have f0:=TP.f (i:=0) (by omega);cases r
  ·have hO7:=TP.set (i:=0) (by omega) true;have Bp:=BJ.trans (TP.low 0 (.bool true));have wR:Ae (w6.setCell ⟨ow,0,none⟩ (.bool true)) w.heap.size _:=Ng.far (q:=⟨ow,0,none⟩) (fun e=>hpx e.symm) (.bool true);go_wp2;go_meet;exact⟨_,by simpa using hlen,hO7,Bp,wR⟩
  ·have hO7:=TP.set (i:=0) (by omega) false;have Bp:=BJ.trans (TP.low 0 (.bool false));have wR:Ae (w6.setCell ⟨ow,0,none⟩ (.bool false)) w.heap.size _:=Ng.far (q:=⟨ow,0,none⟩) (fun e=>hpx e.symm) (.bool false);go_wp2;go_meet;exact⟨_,by simpa using hlen,hO7,Bp,wR⟩
 obtain⟨o1,ho1,nI,hb1,hX1⟩:=hcut;obtain⟨w3,rfl⟩:=again wc;go_wp2;go_loopw[6] (fun i wr=>∃(q:Nat) (o:List Bool),q<=n/\i=.int .i64 (q:Int)/\o.length=n/\Lf wr w.heap.size ow o/\AA6 w wr/\Ae wr w.heap.size [.string f.n,.string f.r,.slice p1 f.ps.length k1,.slice p2 f.vs.length k2,.slice (some a) n k3]) (fun i _=>n-(intOf i).toNat);exact⟨0,o1,AY,rfl,ho1,nI,hb1,hX1⟩;obtain⟨q,o,hq,rfl,ho,hO,hb,hX⟩:=hrel;have x4:=hX.c 4 _ rfl;by_cases hend:q=n
 ·subst hend;go_wp2;go_ret;exact⟨⟨ow,o,rfl,ho,hO⟩,hb⟩
 ·have hlt:q<n:=by omega
  have A8:(q:Int)<n:=by omega
  obtain⟨wo,rfl⟩:=again wr;go_wp2;go_loopw[7] (fun i wr=>∃(q:Nat) (o:List Bool),q<=n/\i=.int .i64 (q:Int)/\o.length=n/\Lf wr w.heap.size ow o/\AA6 w wr/\Ae wr w.heap.size [.string f.n,.string f.r,.slice p1 f.ps.length k1,.slice p2 f.vs.length k2,.slice (some a) n k3]) (fun i _=>n-(intOf i).toNat);exact⟨0,o,AY,rfl,ho,hO,hb,hX⟩;obtain⟨j,o,hj,rfl,ho,hO,hb,hX⟩:=hrel;have x4:=hX.c 4 _ rfl;by_cases hend:j=n
  ·subst hend;go_wp2;go_roundw;exact⟨q+1,o,hlt,by go_num,ho,hO,hb,hX⟩;simp[intOf];omega
  ·have hjl:j<n:=(by omega);have AD1:(j:Int)<n:=(by omega);have zj:=hO.c (i:=j) (by omega);have hjb:j<f.bs.length:=(by rw[<-hnn.out];exact hjl);obtain⟨t1,t2,t3,hI,c0,c1,c2,c3,c4,c5,c6,c7,c8⟩:=(hbk.out j hjb).val;have hk:=AB h0 hb;have hS:=fun W (hW:AA6 wr W)=>Ra (AB hk hW) hI (AQ) s;obtain⟨p5,k5,rfl⟩:=hI.c.slice;replace c0:=AA hk c0;replace c1:=AA hk c1;replace c2:=AA hk c2;replace c3:=AA hk c3;replace c4:=AA hk c4;replace c5:=AA hk c5;replace c6:=AA hk c6;replace c7:=AA hk c7;replace c8:=AA hk c8;generalize f.bs[j]=bj at*;generalize Q8 bj bj.cs.length s=sb at*;generalize o[j]=oj at*;have hbd:=(Below.refl wr.heap.size wr).drew;obtain⟨wv,rfl⟩:=again wr;go_upto_region 9 with fail;go_cut[62]from 42 to 61 (fun v wx=>∃r:Bool,v=.bool r/\AA6 wv wx)
   ·cases oj
    ·go_wp2;refine AO (S:=fun _ v=>AA6 wv v) rfl (by kernel_rfl) hbd ?_;(iterate 21(first|(apply Ab.z rfl;intro L w1 _ _ _ z hK;(have zj:=AA z.s zj);go_simp;exact hK (z.s);rfl)|(refine Ab.skip rfl (fun L w1 hS hi=>(hS)) ?_;(try simp only[pE]))));refine Ab.nil fun w4 Bb=>?_;go_wp2;go_meet;exact⟨_,rfl,Bb⟩
    ·have hS1:=hS;go_wp2;refine AO (S:=fun _ v=>AA6 wv v) rfl (by kernel_rfl) hbd ?_;(iterate 21(first|(apply Ab.z rfl;intro L w1 _ _ _ z hK;(have zj:=AA z.s zj;have x4:=AA z.s x4;have c0:=AA z.s c0;have c1:=AA z.s c1;have c2:=AA z.s c2;have c3:=AA z.s c3;have c4:=AA z.s c4;have c5:=AA z.s c5;have c6:=AA z.s c6;have c7:=AA z.s c7;have c8:=AA z.s c8);go_simp;exact hK (z.s);rfl)|(apply Ab.y rfl;intro L w1 _ _ z hK;go_simp;go_wp2_with((refine(hS1 _ z.s).mono ?_;rintro e w2 ⟨rfl,hb⟩));(try simp only[pE]);exact hK.out _ (AB z.s hb);rfl)));refine Ab.nil fun w4 Bb=>?_;go_wp2;go_meet;exact⟨_,rfl,Bb⟩
   obtain⟨r,rfl,hbc⟩:=hcut;obtain⟨w5,rfl⟩:=again wc;replace hO:=hO.nx hbc;replace hX:=hX.nx hbc;replace hb:=AB hb hbc;cases r;rotate_left
   ·go_wp2;go_roundw;exact⟨j+1,o,hjl,by go_num,ho,hO,hb,hX⟩;simp[intOf];omega
   go_wp2;go_loopw[8] (fun i wr=>∃(k:Nat) (o:List Bool),k<=n/\i=.int .i64 (k:Int)/\o.length=n/\Lf wr w.heap.size ow o/\AA6 w wr/\Ae wr w.heap.size [.string f.n,.string f.r,.slice p1 f.ps.length k1,.slice p2 f.vs.length k2,.slice (some a) n k3]) (fun i _=>n-(intOf i).toNat);exact⟨0,o,AY,rfl,ho,hO,hb,hX⟩;obtain⟨k,o,hk,rfl,ho,hO,hb,hX⟩:=hrel;have x4:=hX.c 4 _ rfl;by_cases hend:k=n
   ·subst hend;go_wp2;go_roundw;exact⟨j+1,o,hjl,by go_num,ho,hO,hb,hX⟩;simp[intOf];omega
   ·have hkl:k<n:=(by omega);have jB:(k:Int)<n:=(by omega);have hkb:k<f.bs.length:=(by rw[<-hnn.out];exact hkl);obtain⟨x0,x1,x2,x3⟩:=hX.c4;have hL1:=hL wr (AB h0 hb) j hjl (k:Int);go_wp2_with fail;refine hL1.mono ?_;rintro e w6 ⟨⟨b2,rfl⟩,hb6⟩;have TP:=hO.nx hb6;have Ng:=hX.nx hb6;have BJ:=AB hb hb6;cases b2
    ·go_wp2;go_roundw;exact⟨k+1,o,hkl,by go_num,ho,TP,BJ,Ng⟩;simp[intOf];omega
    have y4:=Ng.c 4 _ rfl;obtain⟨t1,t2,t3,hI,c0,c1,c2,c3,c4,c5,c6,c7,c8⟩:=(hbk.out k hkb).val;have JH:=AB h0 BJ;have hF:=Vp JH hI s;replace c0:=AA JH c0;replace c1:=AA JH c1;replace c2:=AA JH c2;replace c3:=AA JH c3;replace c4:=AA JH c4;replace c5:=AA JH c5;replace c6:=AA JH c6;replace c7:=AA JH c7;replace c8:=AA JH c8;generalize f.bs[k]=bk at*;go_wp2_with fail;refine hF.mono ?_;rintro e w8 ⟨⟨b3,rfl⟩,Bp⟩;have pU:=TP.nx Bp;have nH:=Ng.nx Bp;have J9:=AB BJ Bp;cases b3;rotate_left
    ·go_wp2;go_roundw;exact⟨k+1,o,hkl,by go_num,ho,pU,J9,nH⟩;simp[intOf];omega
    have zk:=pU.c (i:=k) (by omega);have fk:=pU.f (i:=k) (by omega);have hO9:=pU.set (i:=k) (by omega) true;have Wt:=J9.trans (pU.low k (.bool true));have wQ:Ae (w8.setCell ⟨ow,k,none⟩ (.bool true)) w.heap.size _:=nH.far (q:=⟨ow,k,none⟩) (fun e=>hpx e.symm) (.bool true);have ho9:(o.set k true).length=n:=(by simpa using ho);go_wp2;go_roundw;exact⟨k+1,_,hkl,by go_num,ho9,hO9,Wt,wQ⟩;simp[intOf];omega
section
theorem YI(h0:AA6 w0 w){f:Fn}(hf:EL w0 v f u1 u2 u3)(hn:f.bs.length<=10000){k:Nat}(hi:i<f.bs.length)(hk:k<=f.bs[i].cs.length)(s:ByteArray):Calls prog 188 #[v,.int .i64 (i:Int),.int .i64 (k:Int),.string s] w fun e w'=>Zq e/\AA6 w w':=by
 have hB:=fun W (hb:AA6 w0 W)=>gB hb hf hn (Nat.lt_of_le_of_lt (Nat.zero_le i) hi) s;obtain⟨rfl,-,hp,hv,hb⟩:=hf;obtain⟨p1,k1,rfl⟩:=hp.slice;obtain⟨p2,k2,rfl⟩:=hv.slice;obtain⟨p3,k3,rfl,-,-,hl⟩:=hb;obtain⟨a,rfl,hA⟩:=hl i f.bs[i] (by simp[hi]);obtain⟨t1,t2,t3,hI,c0,c1,c2,c3,c4,c5,c6,c7,c8⟩:=hA.val;have hb1:=AJ w (.cells #[.string f.n,.string f.r,.slice p1 f.ps.length k1,.slice p2 f.vs.length k2,.slice (some a) f.bs.length k3] 66);have hX:=Ae.alloc w [.string f.n,.string f.r,.slice p1 f.ps.length k1,.slice p2 f.vs.length k2,.slice (some a) f.bs.length k3] 66;have hB1:=hB _ (AB h0 hb1);have hS:=fun W (hW:AA6 w0 W)=>Ra hW hI hk s;obtain⟨p5,k5,rfl⟩:=hI.c.slice;generalize f.bs[i]=b at*;generalize Q8 b k s=sb at*;have hiI:(i:Int)<f.bs.length:=by omega
 go_enter func188,ntmps188;go_wp2_with fail;refine hB1.mono ?_;rintro e w1 ⟨⟨pb,o,rfl,ho,hO⟩,hb2⟩;have hX1:=hX.nx hb2;have hb3:=AB hb1 hb2;have z:=hO.c (i:=i) (by omega);have x4:=hX1.c 4 _ rfl;have hk3:=AB h0 hb3;have hS1:=hS _ hk3;replace c0:=AA hk3 c0;replace c1:=AA hk3 c1;replace c2:=AA hk3 c2;replace c3:=AA hk3 c3;replace c4:=AA hk3 c4;replace c5:=AA hk3 c5;replace c6:=AA hk3 c6;replace c7:=AA hk3 c7;replace c8:=AA hk3 c8;generalize o[i]=oi at*;cases oi
 ·go_wp2;go_ret;exact⟨⟨_,rfl⟩,hb3⟩
 ·go_wp2_with fail;refine hS1.mono ?_;rintro e w2 ⟨rfl,hb4⟩;have hb5:=AB hb3 hb4;go_wp2;go_ret;exact⟨⟨_,rfl⟩,hb5⟩
structure WY(W:World)(c m:Nat)(V:Nat->Value)(L:Nat->Bool)(w:World):Prop where
 b:AA6 W w
 x:L c=true->∃b:Bool,V c=.bool b
 y:L m=true->∃b:Bool,V m=.bool b
section
variable {W w w2 : World} {c m : Nat} {V : Nat -> Value} {L : Nat -> Bool}
theorem WY.start(h:AA6 W w):WY W c m V (fun _=>false) w:=⟨h,(fun e=>by cases e),fun e=>by cases e⟩
theorem WY.keep(h:WY W c m V L w)(h1:(c==i)=false)(h2:(m==i)=false):WY W c m V (upd L i) w:=⟨h.b,(fun e=>by rw[Dm h1]at e;exact h.x e),fun e=>by rw[Dm h2]at e;exact h.y e⟩
theorem WY.call(h:WY W c m V L w)(hb:AA6 w w2)(b:Bool)(h2:(m==c)=false):WY W c m (EB V c (.bool b)) (upd L c) w2:=
 ⟨AB h.b hb,(fun _=>⟨b,BL _ _ _⟩),fun e=>by rw[Dm h2]at e;rw[Br V _ (fun e=>by subst e;simp at h2)];exact h.y e⟩
theorem WY.turn(h:WY W c m V L w)(b:Bool)(h1:(c==m)=false):WY W c m (EB V m (.bool b)) (upd L m) w:=
 ⟨h.b,(fun e=>by rw[Dm h1]at e;rw[Br V _ (fun e=>by subst e;simp at h1)];exact h.x e),fun _=>⟨b,BL _ _ _⟩⟩
end
end
def NoX(f:Fn):Prop:=∀b∈f.bs,b.ps=[]/\∀x∈b.cs,x.fr=[]/\x.ob=[]/\x.as.length<=8
theorem SI(h0:AA6 w0 w){f:Fn}(hf:EL w0 v f u1 u2 u3)(hn:f.bs.length<=10000)(hno:NoX f):Calls prog 130 #[v] w fun e w'=>Zq e/\AA6 w w':=by
 have hIS:=fun W (hb:AA6 w0 W) i k (hi:i<f.bs.length) (hk:k<=f.bs[i].cs.length) s=>YI hb hf hn hi hk s;obtain⟨rfl,-,hp,hv,hb⟩:=hf;obtain⟨p1,k1,rfl⟩:=hp.slice;obtain⟨p2,k2,rfl⟩:=hv.slice;obtain⟨p3,k3,rfl,-,-,hl⟩:=hb;clear hp hv;go_enter func130,ntmps130;go_wp2;generalize Cr:w.alloc _=W at*;obtain⟨hb1,hX⟩:=ng Cr;clear Cr;go_loopw[3] (fun i wr=>∃q:Nat,q<=f.bs.length/\i=.int .i64 (q:Int)/\AA6 W wr) (fun i _=>f.bs.length-(intOf i).toNat);exact⟨0,AY,rfl,AL⟩;obtain⟨q,hq,rfl,hb⟩:=hrel;have hX1:=hX.nx hb;have hbb:=AB hb1 hb;have x4:=hX1.c 4 _ rfl;by_cases hend:q=f.bs.length
 ·subst hend;clear hl hIS hX hX1 hno;go_wp2;go_ret;exact⟨⟨_,rfl⟩,hbb⟩
 ·have hlt:q<f.bs.length:=by omega
  have A8:(q:Int)<f.bs.length:=by omega
  obtain⟨a,rfl,hA⟩:=hl q f.bs[q] (by simp[hlt]);obtain⟨t1,t2,t3,hI,c0,c1,c2,c3,c4,c5,c6,c7,c8⟩:=hA.val;obtain⟨hps,hcs⟩:=hno f.bs[q] (List.getElem_mem hlt);have jM:=fun W (hb:AA6 w0 W) k hk s=>hIS W hb q k hlt hk s;obtain⟨-,-,hip,hic,hit⟩:=hI;obtain⟨p5,k5,rfl⟩:=hip.slice;obtain⟨p6,k6,rfl,-,⟨hn6,-⟩,hic⟩:=hic;obtain⟨p7,k7,rfl⟩:=hit.slice;have hp0:f.bs[q].ps.length=0:=by rw[hps];rfl
  rw[hp0]at c1;have hk:=AB h0 hbb;replace c0:=AA hk c0;replace c1:=AA hk c1;replace c2:=AA hk c2;replace c3:=AA hk c3;replace c4:=AA hk c4;replace c5:=AA hk c5;replace c6:=AA hk c6;replace c7:=AA hk c7;replace c8:=AA hk c8;clear hl hIS hA hip hit hps hp0 hno;generalize f.bs[q]=b at*;generalize f.bs.length=n at*;go_upto_region 5 with fail;generalize Cr:wr.alloc _=W2 at*;obtain⟨hb2,hY⟩:=ng Cr;clear Cr c0 c1 c2 c3 c4 c5 c6 c7 c8 x4;have hX2:=hX1.nx hb2;have yJ:=AB hb hb2;have qp:=AB hbb hb2;obtain⟨yb,hyb⟩:∃yb,wr.heap.size=yb:=⟨_,rfl⟩;replace hb2:=ABE hyb hb2;rw[hyb]at hY⊢;obtain⟨wo,rfl⟩:=again wr;go_wp2;go_loopw[5] (fun i wr=>∃k:Nat,k<=b.cs.length/\i=.int .i64 (k:Int)/\AA6 W2 wr) (fun i _=>b.cs.length-(intOf i).toNat);exact⟨0,AY,rfl,AL⟩;obtain⟨k,hkn,rfl,hb3⟩:=hrel;have Y7:=hX2.nx hb3;have vH:=hY.nx hb3;have Qq:=AB qp hb3;have hk3:=AB h0 Qq;have y2:=vH.c 2 _ rfl;by_cases hend:k=b.cs.length
  ·subst hend;have hI1:=jM _ hk3 b.cs.length (AQ) b.e.a.s;obtain⟨-,-,-,y3,y4,y5⟩:=vH.c6;obtain⟨x0,x1,x2,x3,x4⟩:=Y7.c5;obtain⟨wv,rfl⟩:=again wr;go_upto_region 14 with fail;go_cut[82]from 53 to 81 (fun v wx=>∃r:Bool,v=.bool r/\AA6 wv wx)
   ·generalize b.e.k=ek at*;generalize b.e.a.k=ak at*;generalize b.e.a.s=es at*
    cases e1:((ek:Int)==2)with
    |true=>
     cases e3:((ak:Int)==1)with
     |false=>
      go_wp2;go_meet
      exact⟨_,rfl,AL⟩
     |true=>
      go_wp2_with fail;refine hI1.mono ?_;rintro e w7 ⟨⟨r,rfl⟩,BJ⟩;cases r
      ·go_wp2;go_meet;exact⟨_,rfl,BJ⟩
      ·go_wp2;go_meet
       exact⟨_,rfl,BJ⟩
    |false=>
     cases e2:((ek:Int)==3)with
     |false=>
      go_wp2;go_meet
      exact⟨_,rfl,AL⟩
     |true=>
      cases e3:((ak:Int)==1)with
      |false=>
       go_wp2;go_meet
       exact⟨_,rfl,AL⟩
      |true=>
       go_wp2_with fail;refine hI1.mono ?_;rintro e w7 ⟨⟨r,rfl⟩,BJ⟩;cases r
       ·go_wp2;go_meet;exact⟨_,rfl,BJ⟩
       ·go_wp2;go_meet;exact⟨_,rfl,BJ⟩
   obtain⟨r,rfl,hb4⟩:=hcut;obtain⟨w4,rfl⟩:=again wc;have hY4:=vH.nx hb4;have y1:=hY4.c 1 _ rfl;have hbn:=AB (AB yJ hb3) hb4;have hbf:=AB Qq hb4;clear hI1 y2 y3 y4 y5 x0 x1 x2 x3 x4 hX hX2 Y7 hY vH hY4 jM hb3 hb4 qp Qq hk3;cases r;rotate_left
   ·go_wp2;go_ret;exact⟨⟨_,rfl⟩,hbf⟩
   go_wp2;go_loopw[8] (fun i wr=>i=.int .i64 0/\wr=w4) (fun _ _=>0);exact⟨rfl,rfl⟩;obtain⟨rfl,rfl⟩:=hrel;go_wp2;go_roundw;exact⟨q+1,hlt,by go_num,hbn⟩;simp[intOf];omega
  ·have hkl:k<b.cs.length:=(by omega);have jB:(k:Int)<b.cs.length:=(by omega);obtain⟨a6,rfl,hAI⟩:=hic k b.cs[k] (by simp[hkl]);obtain⟨s1,s2,s3,hI,d0,d1,d2,d3,d4,d5⟩:=hAI.val;obtain⟨hfr,Nc,has⟩:=hcs b.cs[k] (List.getElem_mem hkl);have hU:=bD hk3 hI has hfr Nc;obtain⟨g1,j1,rfl⟩:=hI.a.slice;obtain⟨g2,j2,rfl⟩:=hI.f.slice;obtain⟨g3,j3,rfl⟩:=hI.o.slice;replace d0:=AA hk3 d0;replace d1:=AA hk3 d1;replace d2:=AA hk3 d2;replace d3:=AA hk3 d3;replace d4:=AA hk3 d4;replace d5:=AA hk3 d5;have AEe:=fun W (hb:AA6 wr W) s=>jM W (AB hk3 hb) k (Nat.le_of_lt hkl) s;clear hic hcs jM hAI hI hfr Nc has hX hX2 hY qp;generalize b.cs[k]=ik at*;go_wp2_with fail;refine hU.mono ?_;rintro e w5 ⟨⟨_,o,rfl,hrow,ho⟩,hb5⟩;have WO:=Y7.nx hb5;have AEE:=AB hb3 hb5;have AEI:=AB Qq hb5;obtain⟨g5,j5,rfl,-,-,hro⟩:=hrow;obtain⟨wv,rfl⟩:=again wr;go_wp2;go_loopw[7] (fun i wr=>∃j:Nat,j<=o.length/\i=.int .i64 (j:Int)/\AA6 w5 wr) (fun i _=>o.length-(intOf i).toNat);exact⟨0,AY,rfl,AL⟩;obtain⟨j,hj,rfl,hb6⟩:=hrel;by_cases hend:j=o.length
   ·subst hend;have AED:=AB AEE hb6;go_wp2;go_roundw;exact⟨k+1,hkl,by go_num,AED⟩;simp[intOf];omega
   ·have hjl:j<o.length:=(by omega);have AD1:(j:Int)<o.length:=(by omega);obtain⟨a7,rfl,e0,-⟩:=hro j o[j] (by simp[hjl]);rw[Nat.mul_one]at e0;replace e0:=AA hb6 e0;have Ng:=WO.nx hb6;obtain⟨x0,x1,x2,x3,x4⟩:=Ng.c5;have Yx:=fun W (hb:AA6 wr W)=>AEe W (AB (AB hb5 hb6) hb) o[j];have Wq:=AB AEI hb6;generalize o[j]=sj at*;have hbd:=(Below.refl wr.heap.size wr).drew;go_wp2;refine AV (S:=WY wr 7 8) rfl (by kernel_rfl) (WY.start hbd) ?_;(iterate 7((apply AU.z rfl;intro V L w1 _ _ _ z hK;(have x0:=AA z.s.b x0;have x1:=AA z.s.b x1;have x2:=AA z.s.b x2;have x3:=AA z.s.b x3;have x4:=AA z.s.b x4;have e0:=AA z.s.b e0);go_simp;exact hK (z.s.keep rfl rfl);intros;rfl)));refine AU.free (fun _=>rfl) (fun V L w1 K' Q' hS hi hR hd hK=>?_) ?_
    ·have hI7:=Yx _ hS.b;go_simp;(go_wp2_with(refine hI7.mono ?_;rintro e w2 ⟨⟨b7,rfl⟩,hb⟩));(try simp only[pE]);exact hK.out _ _ rfl (hS.call hb b7 rfl)
    (try simp only[pE]);refine AU.free (fun _=>rfl) (fun V L w1 K' Q' hS hi hR hd hK=>?_) ?_
    ·obtain⟨b7,hp⟩:=hS.x (hd.out 7 (by kernel_rfl));simp only[hp];go_simp;exact hK.out _ _ (by simp only[hp];rfl) (hS.turn _ rfl)
    (try simp only[pE]);refine AU.nil fun V w7 hS=>?_;obtain⟨b8,hV⟩:=hS.y rfl;have BJ:=hS.b;simp only[hV];have ZX:=AB Wq BJ;have qo:=AB hb6 BJ;cases b8
    ·go_wp2;go_roundw;exact⟨j+1,by omega,by go_num,qo⟩;simp[intOf];omega
    ·go_wp2;go_ret;exact⟨⟨_,rfl⟩,ZX⟩
theorem Ms{α:Type}{nm:α->ByteArray}:∀{l:List α} {b:α},b∈l->∃k,Cu nm (nm b) l=some k
 | [],_,h=>by cases h
 |y::r,b,h=>by
  unfold Cu;by_cases e:nm y=nm b
  ·rw[if_pos e];exact⟨0,rfl⟩
  ·rw[if_neg e];rcases List.mem_cons.1 h with rfl|h
   ·exact absurd rfl e
   ·obtain⟨k,hk⟩:=Ms (nm:=nm) h;exact⟨k+1,by rw[hk];rfl⟩
def Zn(f:Fn)(j:Nat)(b:Bk):Prop:=Cu Bk.n b.n f.bs=some j/\∀y∈b.e.to,∃k,Cu Bk.n y f.bs=some (k+1)
def Z9(P:Prop)(e:Ending):Prop:=∃b:Bool,e=.returned (.bool b)/\(b=true->P)
def rJ(f:Fn):Prop:=f.bs≠ []/\∀(j:Nat) b,f.bs[j]? =some b->Zn f j b
theorem sH{q:Nat}(h:(Y1 r !=(q:Int))=false)(hs:∃k,r=some k):r=some q:=by grind [Y1]
theorem dF(h1:r.isSome=true)(h:((Y1 r:Int)==0)=false):∃k,r=some (k+1):=by
 obtain⟨k,rfl⟩:=Option.isSome_iff_exists.1 h1
 cases k with
 |zero=>simp[Y1]at h
 |succ k=>exact⟨k,rfl⟩
theorem Ui(h0:AA6 w0 w){f:Fn}(hf:EL w0 v f u1 u2 u3)(hn:f.bs.length<=10000):Calls prog 127 #[v] w fun e w'=>Z9 (rJ f) e/\AA6 w w':=by
 have hP:=fun W (hb:AA6 w0 W) x=>NH hb hf x;have hC:=fun W (hb:AA6 w0 W)=>fT hb hf hn;obtain⟨rfl,-,hp,hv,hb⟩:=hf;obtain⟨p1,k1,rfl⟩:=hp.slice;obtain⟨p2,k2,rfl⟩:=hv.slice;obtain⟨p3,k3,rfl,-,-,hl⟩:=hb;go_enter func127,ntmps127;go_wp2;generalize Cr:w.alloc _=W at*;obtain⟨hb1,hX⟩:=ng Cr;go_loopw[3] (fun i wr=>∃q:Nat,q<=f.bs.length/\i=.int .i64 (q:Int)/\Hid (∀(j:Nat) b,j<q->f.bs[j]? =some b->Zn f j b)/\AA6 W wr) (fun i _=>f.bs.length-(intOf i).toNat);exact⟨0,AY,rfl,Wx (fun j b h=>absurd h (Nat.not_lt_zero _)),AL⟩;obtain⟨q,hq,rfl,hS,hb⟩:=hrel;have hX1:=hX.nx hb;have hbb:=AB hb1 hb;obtain⟨x0,x1,x2,x3,x4⟩:=hX1.c5;by_cases hend:q=f.bs.length
 ·subst hend;have iL:=hC _ (AB h0 hbb);have TL:∀(j:Nat) b,f.bs[j]? =some b->Zn f j b:=fun j b h=>hS.out j b (List.getElem?_eq_some_iff.1 h).1 h;replace TL:=Wx TL;have hne:0<f.bs.length->rJ f:=fun h=>⟨(fun e=>by rw[e]at h;simp at h),TL.out⟩;replace hne:=Wx hne;generalize f.bs.length=n at*;go_wp2_with fail;refine iL.mono ?_;rintro e w2 ⟨⟨pb,o,rfl,ho,hO⟩,hb2⟩;have hb3:=AB hbb hb2;go_wp2;obtain⟨wo,rfl⟩:=again wr;go_loopw[12] (fun i wr=>∃q:Nat,q<=n/\i=.int .i64 (q:Int)/\wr=w2) (fun i _=>n-(intOf i).toNat);exact⟨0,AY,rfl,rfl⟩;obtain⟨q,hq,rfl,rfl⟩:=hrel;by_cases hend:q=n
  ·subst hend
   cases hd:decide ((0:Int)<(q:Int))with
   |true=>
    have pK:=BK hd;have hdN:0<q:=(by omega);have hF:=Wx (hne.out hdN);go_wp2;go_ret
    exact⟨⟨_,rfl,fun _=>hF.out⟩,hb3⟩
   |false=>
    have pK:=CJ hd;have hdN:¬0<q:=(by omega);go_wp2;go_ret;exact⟨⟨_,rfl,fun h=>by cases h⟩,hb3⟩
  ·have hlt:q<n:=(by omega);have A8:(q:Int)<n:=(by omega);have z:=hO.c (i:=q) (by omega);generalize o[q]=bq at*;cases bq
   ·go_wp2;go_ret;exact⟨⟨_,rfl,fun h=>by cases h⟩,hb3⟩
   ·go_wp2;go_roundw;exact⟨q+1,by omega,by go_num,trivial⟩;simp[intOf];omega
 ·have hlt:q<f.bs.length:=by omega
  have A8:(q:Int)<f.bs.length:=by omega
  obtain⟨a,rfl,⟨d0,-⟩,-,-,-,-,⟨u4,t4,r4⟩,-⟩:=hl q f.bs[q] (by simp[hlt]);obtain⟨p4,k4,rfl,-,⟨iH,-⟩,hl4⟩:=r4;have hk:=AB h0 hbb;replace d0:=AA hk d0;have hmem:f.bs[q]∈f.bs:=List.getElem_mem hlt;have hget:f.bs[q]? =some f.bs[q]:=by simp[hlt]
  have hix:=Ms (nm:=Bk.n) hmem;have hN:Zn f q f.bs[q]->∀(j:Nat) b,j<q+1->f.bs[j]? =some b->Zn f j b:=fun hs j b hj hjb=>by
   by_cases e:j=q
   ·subst e;rw[hget]at hjb;obtain rfl:=Option.some.inj hjb;exact hs
   ·exact hS.out j b (by omega) hjb
  replace hN:=Wx hN;replace hix:=Wx hix;generalize f.bs[q]=bk at*;have hP1:∀W',AA6 wr W'->∀s,Calls prog 55 #[.agg #[.string f.n,.string f.r,.slice p1 f.ps.length k1,.slice p2 f.vs.length k2,.slice (some a) f.bs.length k3],.string s] W' fun e w'=>e=.returned (.tuple #[.int .i64 (Y1 (Cu Bk.n s f.bs)),.bool (Cu Bk.n s f.bs).isSome])/\AA6 W' w':=fun W' hb' s=>(hP W' (AB hk hb') s).mono fun _ _ h=>⟨aG h.2,h.1⟩;have hbd:=(Below.refl wr.heap.size wr).drew;have hP2:=fun W' hb'=>hP1 W' hb' bk.n;have hsz:(Cu Bk.n bk.n f.bs).isSome=true:=by obtain⟨k,e⟩:=hix.out;rw[e];rfl
  rw[hsz]at hP2;obtain⟨pk,hpk⟩:∃pk,pk=Y1 (Cu Bk.n bk.n f.bs):=⟨_,rfl⟩;rw[<-hpk]at hP2;replace hpk:=Wx hpk;go_wp2;refine AO (S:=fun _ v=>AA6 wr v) rfl (by kernel_rfl) hbd ?_;iterate 13(first|(apply Ab.z rfl;intro L w1 _ _ _ z hK;(have x0:=AA z.s x0;have x1:=AA z.s x1;have x2:=AA z.s x2;have x3:=AA z.s x3;have x4:=AA z.s x4;have d0:=AA z.s d0);go_simp;exact hK (z.s);rfl)|(apply Ab.y rfl;intro L w1 _ _ z hK;go_simp;go_wp2_with((refine(hP2 _ z.s).mono ?_;rintro e w2 ⟨rfl,hb⟩));(try simp only[pE]);exact hK.out _ (AB z.s hb);rfl))
  refine Ab.nil fun w4 Bb=>?_;have hb4:=AB hb Bb;have hbz:=AB hbb Bb;have Qa:=hX.nx hb4
  cases hpq:((pk:Int) !=(q:Int))with
  |true=>
   go_wp2;go_ret
   exact⟨⟨_,rfl,fun h=>by cases h⟩,hbz⟩
  |false=>
   have hidx:Cu Bk.n bk.n f.bs=some q:=sH (by rw[<-hpk.out];exact hpq) hix.out;replace hidx:=Wx hidx;have t5:=AA (AB h0 hbz) t4;have y4:=Qa.c 4 _ rfl;obtain⟨lt,hlt2⟩:∃lt,lt=bk.e.to:=⟨_,rfl⟩;rw[<-hlt2]at hl4 t5 iH;replace hlt2:=Wx hlt2;obtain⟨wo,rfl⟩:=again wr;go_wp2;go_loopw[7] (fun i wr=>∃m:Nat,m<=lt.length/\i=.int .i64 (m:Int)/\Hid (∀y∈lt.take m,∃k,Cu Bk.n y f.bs=some (k+1))/\AA6 w4 wr) (fun i _=>lt.length-(intOf i).toNat);exact⟨0,AY,rfl,Wx (by simp),AL⟩;obtain⟨m,hm,rfl,hT,hb5⟩:=hrel;have WO:=Qa.nx hb5;have hbr:=AB Bb hb5;have hbf:=AB hbz hb5;by_cases hend:m=lt.length
   ·subst hend;have TL:=hN.out ⟨hidx.out,by have:=hT.out;rw[List.take_length,hlt2.out]at this;exact this⟩;replace TL:=Wx TL;have hbn:=AB hb4 hb5;go_wp2;go_roundw;exact⟨q+1,hlt,by go_num,TL,hbn⟩;simp[intOf];omega
   ·have hml:m<lt.length:=(by omega);have AJW:(m:Int)<lt.length:=(by omega);obtain⟨b,rfl,e0,-⟩:=hl4 m lt[m] (by simp[hml]);have hel:∀j (hj:j<lt.length),w0.cell? (b.add j)=some (.string lt[j]):=fun j hj=>by
     obtain⟨b',eb,h1,-⟩:=hl4 j lt[j] (by simp[hj]);obtain rfl:b=b':=(by simpa using eb);rw[Nat.mul_one]at h1;exact h1
    replace hel:=Wx hel;rw[Nat.mul_one]at e0;have hk5:=AB h0 hbf;replace e0:=AA hk5 e0;have VL:(∃k,Cu Bk.n lt[m] f.bs=some (k+1))->∀y∈lt.take (m+1),∃k,Cu Bk.n y f.bs=some (k+1):=fun h y hy=>by
     rw[List.take_succ_eq_append_getElem hml]at hy;rcases List.mem_append.1 hy with h1|h1
     ·exact hT.out y h1
     ·rw[List.mem_singleton.1 h1];exact h
    replace VL:=Wx VL;have hP3:=fun W' hb'=>hP1 W' (AB hbr hb') lt[m];obtain⟨sm,hsm⟩:∃sm,sm=lt[m]:=⟨_,rfl⟩;rw[<-hsm]at e0 hP3 VL;replace hsm:=Wx hsm;have hpl:(Cu Bk.n sm f.bs).isSome=true->((Y1 (Cu Bk.n sm f.bs):Int)==0)=false->∃k,Cu Bk.n sm f.bs=some (k+1):=dF;obtain⟨ik,hik⟩:∃ik,ik=Cu Bk.n sm f.bs:=⟨_,rfl⟩;rw[<-hik]at hP3 hpl;replace hik:=Wx hik;generalize Y1 ik=pm at*;generalize hok:ik.isSome=ok at*;replace hpl:=Wx hpl;obtain⟨y0,y1,y2,y3,y4'⟩:=WO.c5;have hbd:=(Below.refl wr.heap.size wr).drew;go_wp2;refine AO (S:=fun _ v=>AA6 wr v) rfl (by kernel_rfl) hbd ?_;(iterate 11(first|(apply Ab.z rfl;intro L w1 _ _ _ z hK;(have y0:=AA z.s y0;have y1:=AA z.s y1;have y2:=AA z.s y2;have y3:=AA z.s y3;have y4':=AA z.s y4';have e0:=AA z.s e0);go_simp;exact hK (z.s);rfl)|(apply Ab.y rfl;intro L w1 _ _ z hK;go_simp;go_wp2_with((refine(hP3 _ z.s).mono ?_;rintro e w2 ⟨rfl,hb⟩));(try simp only[pE]);exact hK.out _ (AB z.s hb);rfl)));refine Ab.nil fun w6 H6=>?_;have hb6:=AB hb5 H6;have Wq:=AB hbf H6;cases ok
    ·go_wp2;go_ret;exact⟨⟨_,rfl,fun h=>by cases h⟩,Wq⟩
    cases hz:((pm:Int)==0)with
    |true=>
     go_wp2;go_ret
     exact⟨⟨_,rfl,fun h=>by cases h⟩,Wq⟩
    |false=>
     have hT1:=VL.out (by have:=hpl.out rfl hz;rw[hik.out]at this;exact this);replace hT1:=Wx hT1;obtain⟨wv,rfl⟩:=again wr;go_wp2;go_loopw[10] (fun i wr=>∃j:Nat,j<=m/\i=.int .i64 (j:Int)/\AA6 w6 wr) (fun i _=>m-(intOf i).toNat);exact⟨0,AY,rfl,AL⟩;obtain⟨j,hj,rfl,BJ⟩:=hrel;by_cases hend:j=m
     ·subst hend;have hbn:=AB hb6 BJ;go_wp2;go_roundw;exact⟨j+1,hml,by go_num,hT1,hbn⟩;simp[intOf];omega
     ·have hjm:j<m:=(by omega);have AJg:(j:Int)<m:=(by omega);have hjl:(j:Int)<lt.length:=(by omega);have hjn:j<lt.length:=(by omega);have JH:=AB h0 (AB Wq BJ);have g1:=AA JH (hel.out j hjn);have g2:=AA JH (hel.out m hml);rw[<-hsm.out]at g2;generalize lt[j]=sj at*;have hbn:=AB Wq BJ
      cases e1:(sj.toList==sm.toList)with
      |true=>
       go_wp2;refine AO (S:=fun _ v=>v=wr.drew) rfl (by kernel_rfl) rfl ?_;(iterate 9((apply Ab.z rfl;intro L w1 _ _ _ z hK;have hS:=z.s;(subst hS);go_simp;exact hK (rfl);rfl)));refine Ab.nil fun w8 iJ=>?_;subst iJ;go_wp2;go_ret
       exact⟨⟨_,rfl,fun h=>by cases h⟩,hbn.drew⟩
      |false=>
       have Bp:=BJ.drew;go_wp2;refine AO (S:=fun _ v=>v=wr.drew) rfl (by kernel_rfl) rfl ?_;(iterate 9((apply Ab.z rfl;intro L w1 _ _ _ z hK;have hS:=z.s;(subst hS);go_simp;exact hK (rfl);rfl)));refine Ab.nil fun w8 iJ=>?_;subst iJ;go_wp2;go_roundw;exact⟨j+1,by omega,by go_num,Bp⟩;simp[intOf];omega
def jU(b:Bk):Prop:=b.ps=[]/\∀x∈b.cs,x.fr=[]/\x.ob=[]
def iP(f:Fn):Prop:=∀(j:Nat) b,f.bs[j]? =some b->jU b
def AAy(P:Prop)(e:Ending):Prop:=∃b:Bool,e=.returned (.bool b)/\(b=false->P)
theorem Xz(h0:AA6 w0 w){f:Fn}(hf:EL w0 v f u1 u2 u3):Calls prog 68 #[v] w fun e w'=>AAy (iP f) e/\AA6 w w':=by
 obtain⟨rfl,-,hp,hv,hb⟩:=hf;obtain⟨p1,k1,rfl⟩:=hp.slice;obtain⟨p2,k2,rfl⟩:=hv.slice;obtain⟨p3,k3,rfl,-,⟨hn0,-⟩,hl⟩:=hb;go_enter func68,ntmps68;go_wp2;generalize Cr:w.alloc _=W at*;obtain⟨hb1,hX⟩:=ng Cr;go_loopw[3] (fun i wr=>∃q:Nat,q<=f.bs.length/\i=.int .i64 (q:Int)/\Hid (∀(j:Nat) b,j<q->f.bs[j]? =some b->jU b)/\AA6 W wr) (fun i _=>f.bs.length-(intOf i).toNat);exact⟨0,AY,rfl,Wx (fun j b h=>absurd h (Nat.not_lt_zero _)),AL⟩;obtain⟨q,hq,rfl,hS,hb⟩:=hrel;have hX1:=hX.nx hb;have hbb:=AB hb1 hb;have x4:=hX1.c 4 _ rfl;by_cases hend:q=f.bs.length
 ·subst hend;have TL:iP f:=fun j b h=>hS.out j b (List.getElem?_eq_some_iff.1 h).1 h;replace TL:=Wx TL;go_wp2;go_ret;exact⟨⟨_,rfl,fun _=>TL.out⟩,hbb⟩
 ·have hlt:q<f.bs.length:=by omega
  have A8:(q:Int)<f.bs.length:=by omega
  obtain⟨a,rfl,hA⟩:=hl q f.bs[q] (by simp[hlt]);obtain⟨t1,t2,t3,hI,-,c1,c2,-⟩:=hA.val;obtain⟨-,-,hip,hic,-⟩:=hI;obtain⟨p5,k5,rfl⟩:=hip.slice;obtain⟨p6,k6,rfl,-,⟨hn6,-⟩,hic⟩:=hic;have hk:=AB h0 hbb;replace c1:=AA hk c1;replace c2:=AA hk c2;have hget:f.bs[q]? =some f.bs[q]:=by simp[hlt]
  have hN:jU f.bs[q]->∀(j:Nat) b,j<q+1->f.bs[j]? =some b->jU b:=fun hs j b hj hjb=>by
   by_cases e:j=q
   ·subst e;rw[hget]at hjb;obtain rfl:=Option.some.inj hjb;exact hs
   ·exact hS.out j b (by omega) hjb
  replace hN:=Wx hN;generalize f.bs[q]=b at*
  cases hd:decide ((0:Int)<(b.ps.length:Int))with
  |true=>
   have pK:=BK hd;have hdN:0<b.ps.length:=(by omega);go_wp2;go_ret
   exact⟨⟨_,rfl,fun h=>by cases h⟩,hbb⟩
  |false=>
   have pK:=CJ hd;have hdN:¬0<b.ps.length:=(by omega);have hps:b.ps=[]:=List.length_eq_zero_iff.1 (by omega);replace hps:=Wx hps;obtain⟨wo,rfl⟩:=again wr;go_wp2;go_loopw[4] (fun i wr=>∃k:Nat,k<=b.cs.length/\i=.int .i64 (k:Int)/\Hid (∀x∈b.cs.take k,x.fr=[]/\x.ob=[])/\AA6 wo wr) (fun i _=>b.cs.length-(intOf i).toNat);exact⟨0,AY,rfl,Wx (by simp),AL⟩;obtain⟨k,hkn,rfl,hT,hb2⟩:=hrel;have x4:=AA hb2 x4;have c2:=AA hb2 c2;have hbn:=AB hb hb2;have hbf:=AB hbb hb2;by_cases hend:k=b.cs.length
   ·subst hend;have hSn:=hN.out ⟨hps.out,by have:=hT.out;rw[List.take_length]at this;exact this⟩;replace hSn:=Wx hSn;go_wp2;go_roundw;exact⟨q+1,hlt,by go_num,hSn,hbn⟩;simp[intOf];omega
   ·have hkl:k<b.cs.length:=(by omega);have jB:(k:Int)<b.cs.length:=(by omega);obtain⟨a6,rfl,-,-,-,-,⟨g1,d4,hr4⟩,g2,d5,vD⟩:=hic k b.cs[k] (by simp[hkl]);have hk3:=AB h0 hbf;replace d4:=AA hk3 d4;replace d5:=AA hk3 d5;obtain⟨pf,kf,rfl,-,⟨hnf,-⟩,-⟩:=hr4;obtain⟨po,ko,rfl,-,⟨hno,-⟩,-⟩:=vD;have VL:b.cs[k].fr=[]->b.cs[k].ob=[]->∀x∈b.cs.take (k+1),x.fr=[]/\x.ob=[]:=fun h1 h2 x hx=>by
     rw[List.take_succ_eq_append_getElem hkl]at hx;rcases List.mem_append.1 hx with h|h
     ·exact hT.out x h
     ·rw[List.mem_singleton.1 h];exact⟨h1,h2⟩
    replace VL:=Wx VL;generalize b.cs[k].fr=fr at*;generalize b.cs[k].ob=ob at*;have hwr:IntKind.i64.wrap ((fr.length:Int)+(ob.length:Int))=(fr.length:Int)+(ob.length:Int):=IntWalk.i64_in _ (by omega)
    cases hd:decide ((0:Int)<(fr.length:Int)+(ob.length:Int))with
    |true=>
     have pK:=BK hd;go_wp2;refine AO (S:=fun _ v=>v=wr.drew) rfl (by kernel_rfl) rfl ?_;(iterate 24((apply Ab.z rfl;intro L w1 _ _ _ z hK;have hS:=z.s;(subst hS);go_simp;exact hK (rfl);rfl)));refine Ab.nil fun w8 iJ=>?_;subst iJ;go_wp2;go_ret
     exact⟨⟨_,rfl,fun h=>by cases h⟩,hbf.drew⟩
    |false=>
     have pK:=CJ hd;have hTk:=VL.out (List.length_eq_zero_iff.1 (by omega)) (List.length_eq_zero_iff.1 (by omega));replace hTk:=Wx hTk;have hb3:=hb2.drew;go_wp2;refine AO (S:=fun _ v=>v=wr.drew) rfl (by kernel_rfl) rfl ?_;(iterate 24((apply Ab.z rfl;intro L w1 _ _ _ z hK;have hS:=z.s;(subst hS);go_simp;exact hK (rfl);rfl)));refine Ab.nil fun w8 iJ=>?_;subst iJ;go_wp2;go_roundw;exact⟨k+1,hkl,by go_num,hTk,hb3⟩;simp[intOf];omega
def uV(e:Ending):Prop:=∃n:Int,e=.returned (.int .i64 n)
theorem bQ(h0:AA6 w0 w){f:Fn}(hf:EL w0 v f u1 u2 u3):Calls prog 69 #[v] w fun e w'=>uV e/\AA6 w w':=by
 obtain⟨rfl,-,hp,hv,hb⟩:=hf;obtain⟨p1,k1,rfl⟩:=hp.slice;obtain⟨p2,k2,rfl⟩:=hv.slice;obtain⟨p3,k3,rfl,-,⟨hn0,-⟩,hl⟩:=hb;have hb1:=AJ w (.cells #[.string f.n,.string f.r,.slice p1 f.ps.length k1,.slice p2 f.vs.length k2,.slice p3 f.bs.length k3] 66);have hX:=Ae.alloc w [.string f.n,.string f.r,.slice p1 f.ps.length k1,.slice p2 f.vs.length k2,.slice p3 f.bs.length k3] 66;have x4:=hX.c 4 _ rfl;go_enter func69,ntmps69;go_wp2;generalize Cr:w.alloc _=W at*;go_loopw[3,4] (fun n i wr=>∃(q:Nat) (k:Int),q<=f.bs.length/\i=.int .i64 (q:Int)/\n=.int .i64 k/\wr=W) (fun _ i _=>f.bs.length-(intOf i).toNat);exact⟨0,_,AY,rfl,rfl,rfl⟩;obtain⟨q,k,hq,rfl,rfl,rfl⟩:=hrel;by_cases hend:q=f.bs.length
 ·subst hend;go_wp2;go_ret;exact⟨⟨_,rfl⟩,hb1⟩
 ·have hlt:q<f.bs.length:=by omega
  have A8:(q:Int)<f.bs.length:=by omega
  obtain⟨a,rfl,hA⟩:=hl q f.bs[q] (by simp[hlt]);obtain⟨t1,t2,t3,hI,-,-,c2,-⟩:=hA.val;obtain⟨p6,k6,rfl⟩:=hI.c.slice;replace c2:=AA (AB h0 hb1) c2;generalize f.bs[q].cs.length=m at*;go_wp2;go_roundw;exact⟨q+1,_,hlt,by go_num,rfl,trivial⟩;simp[intOf];omega
end Go.Proofs.YtlffomedflegdaaGreatDoor
