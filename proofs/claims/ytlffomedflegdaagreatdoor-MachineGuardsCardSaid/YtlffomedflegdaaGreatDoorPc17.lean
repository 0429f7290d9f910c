/- Part 17 of the proof: Qa, Qb, Qc, Qd, Qe, Qf, Sa. -/
import Derived.Test.YtlffomedflegdaaGreatDoorPc16
set_option linter.all false
set_option maxHeartbeats 16000000
set_option maxRecDepth 100000
namespace Go.Proofs.YtlffomedflegdaaGreatDoor
open Go.Proofs.Tryz
open Go.RowKit
variable {P:Prop}{u1 u2 u3 v v' y1 y2 y3:Value}{w w0:World}{x:Bk}
def IC(P:Prop)(e:Ending):Prop:=∃b:Bool,e=.returned (.bool b)/\(b=true->P)/\(b=false->¬P)
theorem IC.yes{e:Ending}(h:IC P e)(p:P):e=.returned (.bool true):=by grind [IC]
theorem IC.no{e:Ending}(h:IC P e)(p:¬P):e=.returned (.bool false):=by grind [IC]
theorem Ir(p:P):IC P (.returned (.bool true)):=by grind [IC]
theorem Bj(p:¬P):IC P (.returned (.bool false)):=by grind [IC]
theorem Ic{s t:ByteArray}(h:(s.toList==t.toList)=true):s=t:=by
 have h:=eq_of_beq h;rw[ByteArray.toList_eq,ByteArray.toList_eq]at h;exact ByteArray.ext (Array.toList_inj.1 h)
def Qs(x y:Vr):Bool:=x.n.toList==y.n.toList&&x.t.toList==y.t.toList
def Qu(x y:Ex):Bool:=x.n.toList==y.n.toList&&x.k==y.k
def Gz(x y:Ag):Bool:=x.k==y.k&& (x.s.toList==y.s.toList&&x.n==y.n)
def Qv(x y:Bd):Bool:=x.n.toList==y.n.toList&&Gz x.a y.a
def Qt(x y:TH):Bool:=x.b.toList==y.b.toList&&Gz x.a y.a
theorem Yb(x:Vr):Qs x x=true:=by simp[Qs,Gz]
theorem lX{x y:Vr}(h:Qs x y=true):x=y:=by grind [Qs,Ic,cases Vr]
theorem Yd(x:Ex):Qu x x=true:=by simp[Qu,Gz]
theorem lZ{x y:Ex}(h:Qu x y=true):x=y:=by grind [Qu,Ic,cases Ex]
theorem PG(x:Ag):Gz x x=true:=by simp[Gz,Gz]
theorem Lp{x y:Ag}(h:Gz x y=true):x=y:=by grind [Gz,Ic,cases Ag]
theorem Ye(x:Bd):Qv x x=true:=by simp[Qv,Gz]
theorem lq{x y:Bd}(h:Qv x y=true):x=y:=by grind [Qv,Ic,Lp,cases Bd]
theorem Yc(x:TH):Qt x x=true:=by simp[Qt,Gz]
theorem lY{x y:TH}(h:Qt x y=true):x=y:=by grind [Qt,Ic,Lp,cases TH]
theorem AAl(s t s' t':ByteArray)(w:World):(Op.equalIn 10000 71 (.agg #[.string s,.string t]) (.agg #[.string s',.string t'])).run prog w=.ok (s.toList==s'.toList&&t.toList==t'.toList) w:=by
 have u9:=underlying9;have a9:=Tryz.isAgg9;have z9:=Tryz.sizeOf9;have hS:prog.underlying 71=some (.struct (prog.fieldsOf 71)):=by kernel_rfl
 have hp:prog.stoodInHeld 71=false:=by kernel_rfl
 rw[show(10000:Nat)=9999+1 from rfl,run_equalIn_agg w 9999 71 _ _ hS hp];simp only[Program.fieldsOf,underlying71];cases h1:(s.toList==s'.toList)<;>cases h2:(t.toList==t'.toList)<;>go_simp
theorem AAk(s s':ByteArray)(k k':Int)(w:World):(Op.equalIn 10000 155 (.agg #[.string s,.int .i64 k]) (.agg #[.string s',.int .i64 k'])).run prog w=.ok (s.toList==s'.toList&&k==k') w:=by
 have u9:=underlying9;have a9:=Tryz.isAgg9;have z9:=Tryz.sizeOf9;have u3:=underlying3;have a3:=Tryz.isAgg3;have z3:=Tryz.sizeOf3;have hS:prog.underlying 155=some (.struct (prog.fieldsOf 155)):=by kernel_rfl
 have hp:prog.stoodInHeld 155=false:=by kernel_rfl
 rw[show(10000:Nat)=9999+1 from rfl,run_equalIn_agg w 9999 155 _ _ hS hp];simp only[Program.fieldsOf,underlying155];cases h1:(s.toList==s'.toList)<;>cases h2:(k==k')<;>go_simp
theorem P8{k:Nat}(a b a' b':Int)(s s':ByteArray)(w:World):(Op.equalIn (k+1+1) 77 (.agg #[.int .i64 a,.string s,.int .i64 b]) (.agg #[.int .i64 a',.string s',.int .i64 b'])).run prog w=.ok (a==a'&& (s.toList==s'.toList&&b==b')) w:=by
 have u3:=underlying3;have u9:=underlying9;have u2:=underlying2;have a3:=Tryz.isAgg3;have z3:=Tryz.sizeOf3;have a9:=Tryz.isAgg9;have z9:=Tryz.sizeOf9;have a2:=Tryz.isAgg2;have z2:=Tryz.sizeOf2;have hS:prog.underlying 77=some (.struct (prog.fieldsOf 77)):=by kernel_rfl
 have hp:prog.stoodInHeld 77=false:=by kernel_rfl
 rw[run_equalIn_agg w (k+1) 77 _ _ hS hp];simp only[Program.fieldsOf,underlying77];cases h1:(a==a')<;>cases h2:(s.toList==s'.toList)<;>cases h3:(b==b')<;>go_simp
theorem AAm(n n':ByteArray)(a b a' b':Int)(s s':ByteArray)(w:World):(Op.equalIn 10000 234 (.agg #[.string n,.int .i64 a,.string s,.int .i64 b]) (.agg #[.string n',.int .i64 a',.string s',.int .i64 b'])).run prog w=.ok (n.toList==n'.toList&& (a==a'&& (s.toList==s'.toList&&b==b'))) w:=by
 have hE:=fun w=>P8 (k:=9997) a b a' b' s s' w;have u9:=underlying9;have a9:=Tryz.isAgg9;have z9:=Tryz.sizeOf9;have a2:=Tryz.isAgg77;have z2:=Tryz.sizeOf77;have hS:prog.underlying 234=some (.struct (prog.fieldsOf 234)):=by kernel_rfl
 have hp:prog.stoodInHeld 234=false:=by kernel_rfl
 rw[show(10000:Nat)=9999+1 from rfl,run_equalIn_agg w 9999 234 _ _ hS hp];simp only[Program.fieldsOf,underlying234];generalize(a==a'&& (s.toList==s'.toList&&b==b'))=c at*;cases h1:(n.toList==n'.toList)<;>cases c<;>go_simp
theorem tV(n n':ByteArray)(a b a' b':Int)(s s':ByteArray)(w:World):(Op.equalIn 10000 213 (.agg #[.string n,.int .i64 a,.string s,.int .i64 b]) (.agg #[.string n',.int .i64 a',.string s',.int .i64 b'])).run prog w=.ok (n.toList==n'.toList&& (a==a'&& (s.toList==s'.toList&&b==b'))) w:=by
 have hE:=fun w=>P8 (k:=9997) a b a' b' s s' w;have u9:=underlying9;have a9:=Tryz.isAgg9;have z9:=Tryz.sizeOf9;have a2:=Tryz.isAgg77;have z2:=Tryz.sizeOf77;have hS:prog.underlying 213=some (.struct (prog.fieldsOf 213)):=by kernel_rfl
 have hp:prog.stoodInHeld 213=false:=by kernel_rfl
 rw[show(10000:Nat)=9999+1 from rfl,run_equalIn_agg w 9999 213 _ _ hS hp];simp only[Program.fieldsOf,underlying213];generalize(a==a'&& (s.toList==s'.toList&&b==b'))=c at*;cases h1:(n.toList==n'.toList)<;>cases c<;>go_simp
theorem I5(h0:AA6 w0 w){l l':List Vr}(hl:Row IU 2 w0 v l)(hl':Row IU 2 w0 v' l'):Calls prog 176 #[v,v'] w fun e w'=>IC (l=l') e/\AA6 w w':=by
 obtain⟨p,cu,rfl,-,hn,hl⟩:=hl;obtain⟨p',Nh,rfl,-,-,hl'⟩:=hl'
 cases hlen:((l.length:Int) !=(l'.length:Int))with
 |true=>
  go_enter func176,ntmps176;go_wp2;go_ret
  exact⟨Bj fun e=>by rw[e]at hlen;simp at hlen,AL⟩
 |false=>
 have hle:l.length=l'.length:=by
  have:(l.length:Int)=l'.length:=by simpa using hlen
  omega
 rw[<-hle];replace hle:=Wx hle;go_enter func176,ntmps176;go_wp2;go_loopw[5] (fun i wr=>∃q:Nat,q<=l.length/\i=.int .i64 (q:Int)/\Hid (l.take q=l'.take q)/\AA6 w wr) (fun i _=>l.length-(intOf i).toNat);exact⟨0,AY,rfl,Wx (by simp),AL⟩;obtain⟨q,hq,rfl,hT,hb⟩:=hrel;by_cases hend:q=l.length
 ·subst hend;have hT:=hT.out;rw[List.take_length,hle.out,List.take_length]at hT;replace hT:=Wx hT;go_wp2;go_ret;exact⟨Ir hT.out,hb⟩
 ·have hlt:q<l.length:=by omega
  have hlt':q<l'.length:=by have:=hle.out;omega
  have A8:(q:Int)<l.length:=by omega
  obtain⟨a,rfl,⟨c0,-⟩,c1,-⟩:=hl q l[q] (by simp[hlt]);obtain⟨a',rfl,⟨d0,-⟩,d1,-⟩:=hl' q l'[q] (by simp[hlt']);have c0:=AA (AB h0 hb) c0;have c1:=AA (AB h0 hb) c1;have d0:=AA (AB h0 hb) d0;have d1:=AA (AB h0 hb) d1;have hN:Qs l[q] l'[q]=true->l.take (q+1)=l'.take (q+1):=fun h=>by
   rw[List.take_succ_eq_append_getElem hlt,List.take_succ_eq_append_getElem hlt',hT.out,lX h]
  have hM:Qs l[q] l'[q]=false->l≠l':=fun h e=>by
   subst e;rw[Yb]at h;cases h
  have hE:∀w,(Op.equalIn 10000 71 (.agg #[.string l[q].n,.string l[q].t]) (.agg #[.string l'[q].n,.string l'[q].t])).run prog w=.ok (Qs l[q] l'[q]) w:=fun w=>AAl _ _ _ _ w;generalize Qs l[q] l'[q]=b at*;replace hN:=Wx hN;replace hM:=Wx hM;generalize l[q].n=s at*;generalize l[q].t=t at*;generalize l'[q].n=s' at*;generalize l'[q].t=t' at*;go_wp2;refine AO (S:=fun _ v=>v=wr.drew) rfl (by kernel_rfl) rfl ?_;iterate 9((apply Ab.z rfl;intro L w1 _ _ _ z hK;have hS:=z.s;(subst hS);go_simp;exact hK (rfl);rfl))
  refine Ab.nil fun w4 Bb=>?_;subst Bb;cases b
  ·go_wp2;go_ret;exact⟨Bj (hM.out (by trivial)),hb.drew⟩
  ·go_wp2;go_roundw;exact⟨q+1,by omega,by go_num,Wx (hN.out (by trivial)),hb.drew⟩;simp[intOf];omega
theorem Od(h0:AA6 w0 w){l l':List Ag}(hl:Row Lg 3 w0 v l)(hl':Row Lg 3 w0 v' l'):Calls prog 247 #[v,v'] w fun e w'=>IC (l=l') e/\AA6 w w':=by
 obtain⟨p,cu,rfl,-,hn,hl⟩:=hl;obtain⟨p',Nh,rfl,-,-,hl'⟩:=hl'
 cases hlen:((l.length:Int) !=(l'.length:Int))with
 |true=>
  go_enter func247,ntmps247;go_wp2;go_ret
  exact⟨Bj fun e=>by rw[e]at hlen;simp at hlen,AL⟩
 |false=>
 have hle:l.length=l'.length:=by
  have:(l.length:Int)=l'.length:=by simpa using hlen
  omega
 rw[<-hle];replace hle:=Wx hle;go_enter func247,ntmps247;go_wp2;go_loopw[5] (fun i wr=>∃q:Nat,q<=l.length/\i=.int .i64 (q:Int)/\Hid (l.take q=l'.take q)/\AA6 w wr) (fun i _=>l.length-(intOf i).toNat);exact⟨0,AY,rfl,Wx (by simp),AL⟩;obtain⟨q,hq,rfl,hT,hb⟩:=hrel;by_cases hend:q=l.length
 ·subst hend;have hT:=hT.out;rw[List.take_length,hle.out,List.take_length]at hT;replace hT:=Wx hT;go_wp2;go_ret;exact⟨Ir hT.out,hb⟩
 ·have hlt:q<l.length:=by omega
  have hlt':q<l'.length:=by have:=hle.out;omega
  have A8:(q:Int)<l.length:=by omega
  obtain⟨a,rfl,c0,⟨c1,-⟩,c2⟩:=hl q l[q] (by simp[hlt]);obtain⟨a',rfl,d0,⟨d1,-⟩,d2⟩:=hl' q l'[q] (by simp[hlt']);have c0:=AA (AB h0 hb) c0;have c1:=AA (AB h0 hb) c1;have c2:=AA (AB h0 hb) c2;have d0:=AA (AB h0 hb) d0;have d1:=AA (AB h0 hb) d1;have d2:=AA (AB h0 hb) d2;have hN:Gz l[q] l'[q]=true->l.take (q+1)=l'.take (q+1):=fun h=>by
   rw[List.take_succ_eq_append_getElem hlt,List.take_succ_eq_append_getElem hlt',hT.out,Lp h]
  have hM:Gz l[q] l'[q]=false->l≠l':=fun h e=>by
   subst e;rw[PG]at h;cases h
  have hE:∀w,(Op.equalIn 10000 77 (.agg #[.int .i64 l[q].k,.string l[q].s,.int .i64 l[q].n]) (.agg #[.int .i64 l'[q].k,.string l'[q].s,.int .i64 l'[q].n])).run prog w=.ok (Gz l[q] l'[q]) w:=fun w=>P8 (k:=9998) _ _ _ _ _ _ w;generalize Gz l[q] l'[q]=b at*;replace hN:=Wx hN;replace hM:=Wx hM;generalize l[q].k=k at*;generalize l[q].s=s at*;generalize l[q].n=n at*;generalize l'[q].k=k' at*;generalize l'[q].s=s' at*;generalize l'[q].n=n' at*;go_wp2;refine AO (S:=fun _ v=>v=wr.drew) rfl (by kernel_rfl) rfl ?_;iterate 9((apply Ab.z rfl;intro L w1 _ _ _ z hK;have hS:=z.s;(subst hS);go_simp;exact hK (rfl);rfl))
  refine Ab.nil fun w4 Bb=>?_;subst Bb;cases b
  ·go_wp2;go_ret;exact⟨Bj (hM.out (by trivial)),hb.drew⟩
  ·go_wp2;go_roundw;exact⟨q+1,by omega,by go_num,Wx (hN.out (by trivial)),hb.drew⟩;simp[intOf];omega
theorem Cy{α:Type}{l l':List α}{q:Nat}(h:l.take q=l'.take q)(h1:q<l.length)(h2:q<l'.length)(e:l[q]=l'[q]):l.take (q+1)=l'.take (q+1):=by
 rw[List.take_succ_eq_append_getElem h1,List.take_succ_eq_append_getElem h2,h,e]
theorem Cz{α:Type}{l l':List α}(h:l.take l.length=l'.take l.length)(e:l.length=l'.length):l=l':=by grind
theorem Y4{s t:ByteArray}(h:(s.toList==t.toList)=true):s=t:=Ic h
theorem neI{a b:Int}(h:(a !=b)=false):a=b:=by simpa using h
theorem Y5{a b:Nat}(h:((a:Int) !=(b:Int))=false):a=b:=by grind
structure HdI(x y:Is):Prop where
 o:x.op=y.op
 d:x.d=y.d
 n:x.n=y.n
 a:x.as=y.as
 f:x.fr.length=y.fr.length
 v:x.ob.length=y.ob.length
structure jV(x y:Fr):Prop where
 f:x.f=y.f
 b:x.b=y.b
 i:x.i=y.i
 v:x.vs.length=y.vs.length
theorem HdI.eq{x y:Is}(h:HdI x y)(hf:x.fr=y.fr)(hv:x.ob=y.ob):x=y:=by grind [cases Is,cases HdI]
theorem jV.eq{x y:Fr}(h:jV x y)(hv:x.vs=y.vs):x=y:=by grind [cases Fr,cases jV]
theorem zH{x y:Vt}(h1:x.c=y.c)(h2:x.vs=y.vs):x=y:=by grind [cases Vt]
theorem Un(h0:AA6 w0 w){x y:Is}(hv:Pv w0 v x u1 u2 u3)(hv':Pv w0 v' y y1 y2 y3):Calls prog 240 #[v,v'] w fun e w'=>IC (x=y) e/\AA6 w w':=by
 obtain⟨rfl,-,ha,hf,ho⟩:=hv;obtain⟨rfl,-,ha',hf',ho'⟩:=hv';have hA:=fun W (hW:AA6 w0 W)=>Od hW ha ha';obtain⟨p1,k1,rfl⟩:=ha.slice;obtain⟨q1,l1,rfl⟩:=ha'.slice;obtain⟨p2,k2,rfl,-,hn2,hf⟩:=hf;obtain⟨q2,l2,rfl,-,hm2,hf'⟩:=hf';obtain⟨p3,k3,rfl,-,QY,ho⟩:=ho;obtain⟨q3,l3,rfl,-,vG,ho'⟩:=ho';clear ha ha';have hb1:=AJ w (.cells #[.int .i64 x.op,.string x.d,.string x.n,.slice p1 x.as.length k1,.slice p2 x.fr.length k2,.slice p3 x.ob.length k3] 133);have hb2:=hb1.alloc hb1.size (.cells #[.int .i64 y.op,.string y.d,.string y.n,.slice q1 y.as.length l1,.slice q2 y.fr.length l2,.slice q3 y.ob.length l3] 133);have hX:=(Ae.alloc w [.int .i64 x.op,.string x.d,.string x.n,.slice p1 x.as.length k1,.slice p2 x.fr.length k2,.slice p3 x.ob.length k3] 133).al (.cells #[.int .i64 y.op,.string y.d,.string y.n,.slice q1 y.as.length l1,.slice q2 y.fr.length l2,.slice q3 y.ob.length l3] 133);have hY:=Ae.alloc (w.alloc (.cells #[.int .i64 x.op,.string x.d,.string x.n,.slice p1 x.as.length k1,.slice p2 x.fr.length k2,.slice p3 x.ob.length k3] 133)) [.int .i64 y.op,.string y.d,.string y.n,.slice q1 y.as.length l1,.slice q2 y.fr.length l2,.slice q3 y.ob.length l3] 133;have z1:(w.alloc (.cells #[.int .i64 x.op,.string x.d,.string x.n,.slice p1 x.as.length k1,.slice p2 x.fr.length k2,.slice p3 x.ob.length k3] 133)).heap.size=w.heap.size+1:=by simp
 rw[z1]at hY;clear hb1 z1;go_enter func240,ntmps240;go_upto_region 1 with fail;generalize Cr:(w.alloc _).alloc _=W at*;clear Cr;go_cut[54]from 10 to 53 (fun v wx=>∃r:Bool,v=.bool r/\(r=false->HdI x y)/\(r=true->x≠y)/\AA6 W wx)
 ·have hA1:=hA _ (AB h0 hb2);obtain⟨a0,a1,a2,a3⟩:=hX.c4;obtain⟨b0,b1,b2,b3⟩:=hY.c4;clear hf hf' ho ho' hA hn2 hm2 QY vG
  cases e1:((x.op:Int) !=y.op)with
  |true=>(go_wp2_with fail;go_meet;(case rel=>exact⟨_,rfl,(fun h=>by cases h),(fun _=>(fun e=>by rw[e]at e1;simp at e1)),(AL)⟩))
  |false=>
  cases e2:(x.d.toList==y.d.toList)with
  |false=>(go_wp2_with fail;go_meet;(case rel=>exact⟨_,rfl,(fun h=>by cases h),(fun _=>(fun e=>by rw[e]at e2;simp at e2)),(AL)⟩))
  |true=>
  cases e3:(x.n.toList==y.n.toList)with
  |false=>(go_wp2_with fail;go_meet;(case rel=>exact⟨_,rfl,(fun h=>by cases h),(fun _=>(fun e=>by rw[e]at e3;simp at e3)),(AL)⟩))
  |true=>
  go_wp2_with fail;refine hA1.mono ?_;rintro e w1 ⟨⟨r,rfl,hr,hr'⟩,hb3⟩;replace hr:=Wx hr;replace hr':=Wx hr';clear hA1;cases r
  ·(go_wp2_with fail;go_meet;(case rel=>exact⟨_,rfl,(fun h=>by cases h),(fun _=>(fun e=>hr'.out (by trivial) (by rw[e]))),(hb3)⟩))
  have hX1:=hX.nx hb3;have nG:=hY.nx hb3;obtain⟨-,-,-,-,a4,a5⟩:=hX1.c6;obtain⟨-,-,-,-,b4,b5⟩:=nG.c6;clear hX hY
  cases e5:((x.fr.length:Int) !=(y.fr.length:Int))with
  |true=>(go_wp2_with fail;go_meet;(case rel=>exact⟨_,rfl,(fun h=>by cases h),(fun _=>(fun e=>by rw[e]at e5;simp at e5)),(hb3)⟩))
  |false=>
  cases e6:((x.ob.length:Int) !=(y.ob.length:Int))with
  |true=>(go_wp2_with fail;go_meet;(case rel=>exact⟨_,rfl,(fun h=>by cases h),(fun _=>(fun e=>by rw[e]at e6;simp at e6)),(hb3)⟩))
  |false=>
  have hH:HdI x y:=⟨neI e1,Y4 e2,Y4 e3,hr.out (by trivial),Y5 e5,Y5 e6⟩;go_wp2;go_meet;exact⟨_,rfl,(fun _=>hH),(fun h=>by cases h),hb3⟩
 obtain⟨r,rfl,hr,hr',hb3⟩:=hcut;obtain⟨w1,rfl⟩:=again wc;have hb4:=AB hb2 hb3;replace hX:=hX.nx hb3;replace hY:=hY.nx hb3;clear hb2 hb3;cases r;rotate_left
 ·have hne:=Wx (hr' rfl);clear hr hr' hf hf' ho ho' hA;(go_wp2_with fail;go_ret;exact⟨Bj (hne.out),(hb4)⟩)
 have hH:=hr rfl;clear hr hr';have hfl:=Wx hH.f;have hvl:=Wx hH.v;go_wp2;go_loopw[5] (fun i wr=>∃q:Nat,q<=x.fr.length/\i=.int .i64 (q:Int)/\Hid (x.fr.take q=y.fr.take q)/\AA6 w1 wr) (fun i _=>x.fr.length-(intOf i).toNat);exact⟨0,AY,rfl,Wx (by simp),AL⟩;obtain⟨q,hq,rfl,hT,hb⟩:=hrel;have hX:=hX.nx hb;have hY:=hY.nx hb;obtain⟨-,-,-,-,x4,x5⟩:=hX.c6;obtain⟨-,-,-,-,y4,y5⟩:=hY.c6;have hb5:=AB hb4 hb;by_cases hend:q=x.fr.length
 ·subst hend;have hFF:x.fr=y.fr:=Cz hT.out hfl.out;replace hFF:=Wx hFF;clear hf hf' hb hb4 hT;go_wp2;clear x4 y4 x5 y5;obtain⟨wo,rfl⟩:=again wr;go_loopw[9] (fun i wr=>∃q:Nat,q<=x.ob.length/\i=.int .i64 (q:Int)/\Hid (x.ob.take q=y.ob.take q)/\AA6 wo wr) (fun i _=>x.ob.length-(intOf i).toNat);exact⟨0,AY,rfl,Wx (by simp),AL⟩;obtain⟨q,hq,rfl,hT,hb⟩:=hrel;have hX:=hX.nx hb;have hY:=hY.nx hb;have x5:=hX.c 5 _ rfl;have y5:=hY.c 5 _ rfl;have hb6:=AB hb5 hb;clear hX hY;by_cases hend:q=x.ob.length
  ·subst hend;have TK:x=y:=hH.eq hFF.out (Cz hT.out hvl.out);replace TK:=Wx TK;clear ho ho' hb hb5 hT hA;go_wp2;go_ret;exact⟨Ir TK.out,hb6⟩
  ·have hlt:q<x.ob.length:=(by omega);have A8:(q:Int)<x.ob.length:=(by omega);have hlt':q<y.ob.length:=(by have:=hvl.out;omega);have JJ:(q:Int)<y.ob.length:=(by omega);obtain⟨a,rfl,⟨c0,-⟩,m,c1,r⟩:=ho q x.ob[q] (by simp[hlt]);obtain⟨a',rfl,⟨d0,-⟩,m',d1,r'⟩:=ho' q y.ob[q] (by simp[hlt']);have c0:=AA (AB h0 hb6) c0;have c1:=AA (AB h0 hb6) c1;have d0:=AA (AB h0 hb6) d0;have d1:=AA (AB h0 hb6) d1;have hS:=fun W (hW:AA6 wr W)=>Od (AB (AB h0 hb6) hW) r r';have hN:x.ob[q].c=y.ob[q].c->x.ob[q].vs=y.ob[q].vs->x.ob.take (q+1)=y.ob.take (q+1):=fun h1 h2=>Cy hT.out hlt hlt' (zH h1 h2);have hM1:x.ob[q].c≠y.ob[q].c->x≠y:=fun h e=>by
    subst e;exact h rfl
   have hM2:x.ob[q].vs≠y.ob[q].vs->x≠y:=fun h e=>by
    subst e;exact h rfl
   obtain⟨g,j,rfl⟩:=r.slice;obtain⟨g',j',rfl⟩:=r'.slice;clear ho ho' r r' hA hT;generalize x.ob[q].c=s at*;generalize x.ob[q].vs=vs at*;generalize y.ob[q].c=s' at*;generalize y.ob[q].vs=vs' at*;replace hN:=Wx hN;replace hM1:=Wx hM1;replace hM2:=Wx hM2;have BJ:=(Below.refl wr.heap.size wr).drew
   cases e1:(s.toList==s'.toList)with
   |false=>
    go_wp2;refine AO (S:=fun _ v=>AA6 wr v) rfl (by kernel_rfl) BJ ?_;(iterate 29(first|(apply Ab.z rfl;intro L w1 _ _ _ z hK;(have x5:=AA z.s x5;have y5:=AA z.s y5;have c0:=AA z.s c0;have d0:=AA z.s d0;have c1:=AA z.s c1;have d1:=AA z.s d1);go_simp;exact hK (z.s);rfl)|(refine Ab.skip rfl (fun L w1 hS hi=>(hS)) ?_;(try simp only[pE]))));refine Ab.nil fun w4 Bb=>?_;have Bp:=AB hb6 Bb;have hne:=Wx (hM1.out fun e=>by rw[e]at e1;simp at e1);clear BJ c0 c1 d0 d1 x5 y5 Bb
    (go_wp2_with fail;go_ret;exact⟨Bj (hne.out),(Bp)⟩)
   |true=>
    have qD:=Wx (Y4 e1);by_cases e2:vs=vs'
    ·have hS1:∀W,AA6 wr W->Calls prog 247 #[.slice g vs.length j,.slice g' vs'.length j'] W fun e w'=>e=.returned (.bool true)/\AA6 W w':=fun W hW=>(hS W hW).mono fun _ _ h=>⟨h.1.yes e2,h.2⟩;have hN1:=Wx (hN.out qD.out e2);clear hS hN hM1 hM2 e2;go_wp2;refine AO (S:=fun _ v=>AA6 wr v) rfl (by kernel_rfl) BJ ?_;(iterate 29(first|(apply Ab.z rfl;intro L w1 _ _ _ z hK;(have x5:=AA z.s x5;have y5:=AA z.s y5;have c0:=AA z.s c0;have d0:=AA z.s d0;have c1:=AA z.s c1;have d1:=AA z.s d1);go_simp;exact hK (z.s);rfl)|(apply Ab.y rfl;intro L w1 _ _ z hK;go_simp;go_wp2_with((refine(hS1 _ z.s).mono ?_;rintro e w2 ⟨rfl,hb⟩));(try simp only[pE]);exact hK.out _ (AB z.s hb);rfl)));refine Ab.nil fun w4 Bb=>?_;have Bp:=AB hb Bb;clear BJ hS1 c0 c1 d0 d1 x5 y5 Bb;go_wp2;go_roundw;exact⟨q+1,by omega,by go_num,hN1,Bp⟩;simp[intOf];omega
    ·have hS1:∀W,AA6 wr W->Calls prog 247 #[.slice g vs.length j,.slice g' vs'.length j'] W fun e w'=>e=.returned (.bool false)/\AA6 W w':=fun W hW=>(hS W hW).mono fun _ _ h=>⟨h.1.no e2,h.2⟩;have hne:=Wx (hM2.out e2);clear hS hN hM1 hM2 e2;go_wp2;refine AO (S:=fun _ v=>AA6 wr v) rfl (by kernel_rfl) BJ ?_;(iterate 29(first|(apply Ab.z rfl;intro L w1 _ _ _ z hK;(have x5:=AA z.s x5;have y5:=AA z.s y5;have c0:=AA z.s c0;have d0:=AA z.s d0;have c1:=AA z.s c1;have d1:=AA z.s d1);go_simp;exact hK (z.s);rfl)|(apply Ab.y rfl;intro L w1 _ _ z hK;go_simp;go_wp2_with((refine(hS1 _ z.s).mono ?_;rintro e w2 ⟨rfl,hb⟩));(try simp only[pE]);exact hK.out _ (AB z.s hb);rfl)));refine Ab.nil fun w4 Bb=>?_;have Bp:=AB hb6 Bb;clear BJ hS1 c0 c1 d0 d1 x5 y5 Bb;(go_wp2_with fail;go_ret;exact⟨Bj (hne.out),(Bp)⟩)
 ·have hlt:q<x.fr.length:=by omega
  have A8:(q:Int)<x.fr.length:=by omega
  have hlt':q<y.fr.length:=by have:=hfl.out;omega
  have JJ:(q:Int)<y.fr.length:=by omega
  obtain⟨a,rfl,⟨c0,-⟩,⟨c1,-⟩,c2,m,c3,r⟩:=hf q x.fr[q] (by simp[hlt]);obtain⟨a',rfl,⟨d0,-⟩,⟨d1,-⟩,d2,m',d3,r'⟩:=hf' q y.fr[q] (by simp[hlt']);have c0:=AA (AB h0 hb5) c0;have c1:=AA (AB h0 hb5) c1;have c2:=AA (AB h0 hb5) c2;have c3:=AA (AB h0 hb5) c3;have d0:=AA (AB h0 hb5) d0;have d1:=AA (AB h0 hb5) d1;have d2:=AA (AB h0 hb5) d2;have d3:=AA (AB h0 hb5) d3;have hN:x.fr[q]=y.fr[q]->x.fr.take (q+1)=y.fr.take (q+1):=fun h=>Cy hT.out hlt hlt' h;have hM:x.fr[q]≠y.fr[q]->x≠y:=fun h e=>by
   subst e;exact h rfl
  clear ho ho' hf hf' hA hX hY hT hH;generalize x.fr[q]=m1 at*;generalize y.fr[q]=m2 at*;replace hN:=Wx hN;replace hM:=Wx hM;obtain⟨p7,k7,rfl,-,hn7,r⟩:=r;obtain⟨q7,l7,rfl,-,WM,r'⟩:=r';have hb6:=AJ wr (.cells #[.string m1.f,.string m1.b,.int .i64 m1.i,.slice p7 m1.vs.length k7] 232);have BJ:=hb6.alloc hb6.size (.cells #[.string m2.f,.string m2.b,.int .i64 m2.i,.slice q7 m2.vs.length l7] 232);have hP:=(Ae.alloc wr [.string m1.f,.string m1.b,.int .i64 m1.i,.slice p7 m1.vs.length k7] 232).al (.cells #[.string m2.f,.string m2.b,.int .i64 m2.i,.slice q7 m2.vs.length l7] 232);have hQ:=Ae.alloc (wr.alloc (.cells #[.string m1.f,.string m1.b,.int .i64 m1.i,.slice p7 m1.vs.length k7] 232)) [.string m2.f,.string m2.b,.int .i64 m2.i,.slice q7 m2.vs.length l7] 232;have z2:(wr.alloc (.cells #[.string m1.f,.string m1.b,.int .i64 m1.i,.slice p7 m1.vs.length k7] 232)).heap.size=wr.heap.size+1:=by simp
  rw[z2]at hQ;have x4':=fun o=>AA (AJ wr o) x4;have y4':=fun o=>AA (AJ wr o) y4;have d0':=fun o=>AA (AJ wr o) d0;have d1':=fun o=>AA (AJ wr o) d1;have d2':=fun o=>AA (AJ wr o) d2;have d3':=fun o=>AA (AJ wr o) d3;clear hb6 z2;go_upto_region 8 with fail;generalize Cr:(wr.alloc _).alloc _=W2 at*;go_cut[99]from 72 to 98 (fun v wx=>∃r:Bool,v=.bool r/\(r=false->jV m1 m2)/\(r=true->m1≠m2)/\wx=W2)
  ·obtain⟨a0,a1,a2,a3⟩:=hP.c4;obtain⟨b0,b1,b2,b3⟩:=hQ.c4
   cases e1:(m1.f.toList==m2.f.toList)with
   |false=>(go_wp2_with fail;go_meet;(case rel=>exact⟨_,rfl,(fun h=>by cases h),(fun _=>(fun e=>by rw[e]at e1;simp at e1)),(rfl)⟩))
   |true=>
   cases e2:(m1.b.toList==m2.b.toList)with
   |false=>(go_wp2_with fail;go_meet;(case rel=>exact⟨_,rfl,(fun h=>by cases h),(fun _=>(fun e=>by rw[e]at e2;simp at e2)),(rfl)⟩))
   |true=>
   cases e3:((m1.i:Int) !=m2.i)with
   |true=>(go_wp2_with fail;go_meet;(case rel=>exact⟨_,rfl,(fun h=>by cases h),(fun _=>(fun e=>by rw[e]at e3;simp at e3)),(rfl)⟩))
   |false=>
   cases e4:((m1.vs.length:Int) !=(m2.vs.length:Int))with
   |true=>(go_wp2_with fail;go_meet;(case rel=>exact⟨_,rfl,(fun h=>by cases h),(fun _=>(fun e=>by rw[e]at e4;simp at e4)),(rfl)⟩))
   |false=>
   have hH2:jV m1 m2:=⟨Y4 e1,Y4 e2,neI e3,Y5 e4⟩;go_wp2;go_meet;exact⟨_,rfl,(fun _=>hH2),(fun h=>by cases h),rfl⟩
  obtain⟨r0,rfl,hr,hr',rfl⟩:=hcut;obtain⟨W,rfl⟩:=again wc;have hbW:=AB hb BJ;have J9:=AB hb5 BJ;cases r0;rotate_left
  ·have hne:=Wx (hM.out (hr' rfl));(go_wp2_with fail;go_ret;exact⟨Bj (hne.out),(J9)⟩)
  have hH2:=hr rfl;have hml:=Wx hH2.v;go_wp2;obtain⟨wo,rfl⟩:=again wr;go_loopw[8] (fun i wr=>∃q:Nat,q<=m1.vs.length/\i=.int .i64 (q:Int)/\Hid (m1.vs.take q=m2.vs.take q)/\AA6 W wr) (fun i _=>m1.vs.length-(intOf i).toNat);exact⟨0,AY,rfl,Wx (by simp),AL⟩;obtain⟨j,hj,rfl,hT,Bp⟩:=hrel;have hP:=hP.nx Bp;have hQ:=hQ.nx Bp;have x3:=hP.c 3 _ rfl;have y3:=hQ.c 3 _ rfl;by_cases hend:j=m1.vs.length
  ·subst hend;have hN1:=Wx (hN.out (hH2.eq (Cz hT.out hml.out)));have hbZ:=AB hbW Bp;go_wp2;go_roundw;exact⟨q+1,by omega,by go_num,hN1,hbZ⟩;simp[intOf];omega
  ·have hlt:j<m1.vs.length:=(by omega);have A8:(j:Int)<m1.vs.length:=(by omega);have hlt':j<m2.vs.length:=(by have:=hml.out;omega);have JJ:(j:Int)<m2.vs.length:=(by omega);obtain⟨b,rfl,⟨c0,-⟩,c1,⟨c2,-⟩,c3⟩:=r j m1.vs[j] (by simp[hlt]);obtain⟨b',rfl,⟨d0,-⟩,d1,⟨d2,-⟩,d3⟩:=r' j m2.vs[j] (by simp[hlt']);have hk:=AB h0 (AB J9 Bp);have c0:=AA hk c0;have c1:=AA hk c1;have c2:=AA hk c2;have c3:=AA hk c3;have d0:=AA hk d0;have d1:=AA hk d1;have d2:=AA hk d2;have d3:=AA hk d3;have hN1:Qv m1.vs[j] m2.vs[j]=true->m1.vs.take (j+1)=m2.vs.take (j+1):=fun h=>Cy hT.out hlt hlt' (lq h);have hM1:Qv m1.vs[j] m2.vs[j]=false->m1≠m2:=fun h e=>by
    subst e;rw[Ye]at h;cases h
   have hE:∀w,(Op.equalIn 10000 234 (.agg #[.string m1.vs[j].n,.int .i64 m1.vs[j].a.k,.string m1.vs[j].a.s,.int .i64 m1.vs[j].a.n]) (.agg #[.string m2.vs[j].n,.int .i64 m2.vs[j].a.k,.string m2.vs[j].a.s,.int .i64 m2.vs[j].a.n])).run prog w=.ok (Qv m1.vs[j] m2.vs[j]) w:=fun w=>AAm _ _ _ _ _ _ _ _ w;generalize Qv m1.vs[j] m2.vs[j]=bb at*;replace hN1:=Wx hN1;replace hM1:=Wx hM1;generalize m1.vs[j].n=t1 at*;generalize m1.vs[j].a.k=t2 at*;generalize m1.vs[j].a.s=t3 at*;generalize m1.vs[j].a.n=t4 at*;generalize m2.vs[j].n=t1' at*;generalize m2.vs[j].a.k=t2' at*;generalize m2.vs[j].a.s=t3' at*;generalize m2.vs[j].a.n=t4' at*;go_wp2;refine AO (S:=fun _ v=>v=wr.drew) rfl (by kernel_rfl) rfl ?_;(iterate 11((apply Ab.z rfl;intro L w1 _ _ _ z hK;have hS:=z.s;(subst hS);go_simp;exact hK (rfl);rfl)));refine Ab.nil fun w4 Bb=>?_;subst Bb;have Bp:=Bp.drew;have hbf:=AB J9 Bp;cases bb
   ·have hne:=Wx (hM.out (hM1.out (by trivial)));(go_wp2_with fail;go_ret;exact⟨Bj (hne.out),(hbf)⟩)
   ·go_wp2;go_roundw;exact⟨j+1,by omega,by go_num,Wx (hN1.out (by trivial)),Bp⟩;simp[intOf];omega
structure HdB(x y:Bk):Prop where
 n:x.n=y.n
 p:x.ps.length=y.ps.length
 c:x.cs.length=y.cs.length
 k:x.e.k=y.e.k
 a:x.e.a=y.e.a
 m:x.e.n=y.e.n
 t:x.e.to.length=y.e.to.length
theorem HdB.eq{y:Bk}(h:HdB x y)(h1:x.e.to=y.e.to)(h2:x.ps=y.ps)(h3:x.cs=y.cs):x=y:=by
 obtain⟨a1,a2,a3,a4,a5,a6,a7⟩:=x;obtain⟨b1,b2,b3,b4,b5,b6,b7⟩:=y;grind [cases Bk,cases HdB]
theorem AAK{x y:Ph}(h1:x.d=y.d)(h2:x.is=y.is):x=y:=by grind [cases Ph]
theorem Uo(h0:AA6 w0 w){y:Bk}(hv:Qw w0 v x u1 u2 u3)(hv':Qw w0 v' y y1 y2 y3):Calls prog 219 #[v,v'] w fun e w'=>IC (x=y) e/\AA6 w w':=by
 obtain⟨rfl,-,hp,hc,ht⟩:=hv;obtain⟨rfl,-,hp',hc',ht'⟩:=hv';obtain⟨p1,k1,rfl,-,hn1,hp⟩:=hp;obtain⟨q1,l1,rfl,-,hm1,hp'⟩:=hp';obtain⟨p2,k2,rfl,-,hn2,hc⟩:=hc;obtain⟨q2,l2,rfl,-,hm2,hc'⟩:=hc';obtain⟨p3,k3,rfl,-,QY,ht⟩:=ht;obtain⟨q3,l3,rfl,-,vG,ht'⟩:=ht';have hb1:=AJ w (.cells #[.string x.n,.slice p1 x.ps.length k1,.slice p2 x.cs.length k2,.int .i64 x.e.k,.int .i64 x.e.a.k,.string x.e.a.s,.int .i64 x.e.a.n,.slice p3 x.e.to.length k3,.int .i64 x.e.n] 82);have hb2:=hb1.alloc hb1.size (.cells #[.string y.n,.slice q1 y.ps.length l1,.slice q2 y.cs.length l2,.int .i64 y.e.k,.int .i64 y.e.a.k,.string y.e.a.s,.int .i64 y.e.a.n,.slice q3 y.e.to.length l3,.int .i64 y.e.n] 82);have hX:=(Ae.alloc w [.string x.n,.slice p1 x.ps.length k1,.slice p2 x.cs.length k2,.int .i64 x.e.k,.int .i64 x.e.a.k,.string x.e.a.s,.int .i64 x.e.a.n,.slice p3 x.e.to.length k3,.int .i64 x.e.n] 82).al (.cells #[.string y.n,.slice q1 y.ps.length l1,.slice q2 y.cs.length l2,.int .i64 y.e.k,.int .i64 y.e.a.k,.string y.e.a.s,.int .i64 y.e.a.n,.slice q3 y.e.to.length l3,.int .i64 y.e.n] 82);have hY:=Ae.alloc (w.alloc (.cells #[.string x.n,.slice p1 x.ps.length k1,.slice p2 x.cs.length k2,.int .i64 x.e.k,.int .i64 x.e.a.k,.string x.e.a.s,.int .i64 x.e.a.n,.slice p3 x.e.to.length k3,.int .i64 x.e.n] 82)) [.string y.n,.slice q1 y.ps.length l1,.slice q2 y.cs.length l2,.int .i64 y.e.k,.int .i64 y.e.a.k,.string y.e.a.s,.int .i64 y.e.a.n,.slice q3 y.e.to.length l3,.int .i64 y.e.n] 82;have z1:(w.alloc (.cells #[.string x.n,.slice p1 x.ps.length k1,.slice p2 x.cs.length k2,.int .i64 x.e.k,.int .i64 x.e.a.k,.string x.e.a.s,.int .i64 x.e.a.n,.slice p3 x.e.to.length k3,.int .i64 x.e.n] 82)).heap.size=w.heap.size+1:=by simp
 rw[z1]at hY;clear hb1 z1;go_enter func219,ntmps219;go_upto_region 1 with fail;generalize Cr:(w.alloc _).alloc _=W at*;clear Cr;go_cut[69]from 9 to 68 (fun v wx=>∃r:Bool,v=.bool r/\(r=false->HdB x y)/\(r=true->x≠y)/\wx=W)
 ·obtain⟨a0,a1,a2,a3,a4,a5,a6,a7,a8⟩:=hX.c9;obtain⟨b0,b1,b2,b3,b4,b5,b6,b7,b8⟩:=hY.c9;clear hX hY hp hp' hc hc' ht ht' hn1 hn2 QY hm1 hm2 vG
  cases e1:(x.n.toList==y.n.toList)with
  |false=>(go_wp2_with fail;go_meet;(case rel=>exact⟨_,rfl,(fun h=>by cases h),(fun _=>(fun e=>by rw[e]at e1;simp at e1)),(rfl)⟩))
  |true=>
  cases e2:((x.ps.length:Int) !=(y.ps.length:Int))with
  |true=>(go_wp2_with fail;go_meet;(case rel=>exact⟨_,rfl,(fun h=>by cases h),(fun _=>(fun e=>by rw[e]at e2;simp at e2)),(rfl)⟩))
  |false=>
  cases e3:((x.cs.length:Int) !=(y.cs.length:Int))with
  |true=>(go_wp2_with fail;go_meet;(case rel=>exact⟨_,rfl,(fun h=>by cases h),(fun _=>(fun e=>by rw[e]at e3;simp at e3)),(rfl)⟩))
  |false=>
  cases e4:((x.e.k:Int) !=y.e.k)with
  |true=>(go_wp2_with fail;go_meet;(case rel=>exact⟨_,rfl,(fun h=>by cases h),(fun _=>(fun e=>by rw[e]at e4;simp at e4)),(rfl)⟩))
  |false=>
  have hE:∀w,(Op.equalIn 10000 77 (.agg #[.int .i64 x.e.a.k,.string x.e.a.s,.int .i64 x.e.a.n]) (.agg #[.int .i64 y.e.a.k,.string y.e.a.s,.int .i64 y.e.a.n])).run prog w=.ok (Gz x.e.a y.e.a) w:=fun w=>P8 (k:=9998) _ _ _ _ _ _ w;have hEt:Gz x.e.a y.e.a=true->x.e.a=y.e.a:=Lp;have hEf:Gz x.e.a y.e.a=false->x≠y:=fun h e=>by
   rw[e,PG]at h;cases h
  generalize Gz x.e.a y.e.a=bb at*;replace hEt:=Wx hEt;replace hEf:=Wx hEf;cases bb
  ·(go_wp2_with fail;go_meet;(case rel=>exact⟨_,rfl,(fun h=>by cases h),(fun _=>(hEf.out (by trivial))),(rfl)⟩))
  cases e6:((x.e.n:Int) !=y.e.n)with
  |true=>(go_wp2_with fail;go_meet;(case rel=>exact⟨_,rfl,(fun h=>by cases h),(fun _=>(fun e=>by rw[e]at e6;simp at e6)),(rfl)⟩))
  |false=>
  cases e7:((x.e.to.length:Int) !=(y.e.to.length:Int))with
  |true=>(go_wp2_with fail;go_meet;(case rel=>exact⟨_,rfl,(fun h=>by cases h),(fun _=>(fun e=>by rw[e]at e7;simp at e7)),(rfl)⟩))
  |false=>
  have hH:HdB x y:=⟨Y4 e1,Y5 e2,Y5 e3,neI e4,hEt.out (by trivial),neI e6,Y5 e7⟩;go_wp2;go_meet;exact⟨_,rfl,(fun _=>hH),(fun h=>by cases h),rfl⟩
 obtain⟨r,rfl,hr,hr',rfl⟩:=hcut;obtain⟨W,rfl⟩:=again wc;cases r;rotate_left
 ·have hne:=Wx (hr' rfl);clear hr hr' hp hp' hc hc' ht ht';(go_wp2_with fail;go_ret;exact⟨Bj (hne.out),(hb2)⟩)
 have hH:=hr rfl;clear hr hr';have hpl:=Wx hH.p;have hcl:=Wx hH.c;have htl:=Wx hH.t;go_wp2;go_loopw[5] (fun i wr=>∃q:Nat,q<=x.e.to.length/\i=.int .i64 (q:Int)/\Hid (x.e.to.take q=y.e.to.take q)/\AA6 W wr) (fun i _=>x.e.to.length-(intOf i).toNat);exact⟨0,AY,rfl,Wx (by simp),AL⟩;obtain⟨q,hq,rfl,hT,hb⟩:=hrel;replace hX:=hX.nx hb;replace hY:=hY.nx hb;have x7:=hX.c 7 _ rfl;have y7:=hY.c 7 _ rfl;by_cases hend:q=x.e.to.length
 ·subst hend;have hTo:x.e.to=y.e.to:=Cz hT.out htl.out;replace hTo:=Wx hTo;clear ht ht' hT;have hb3:=AB hb2 hb;clear hb;go_wp2;clear x7 y7;obtain⟨wo,rfl⟩:=again wr;go_loopw[6] (fun i wr=>∃q:Nat,q<=x.ps.length/\i=.int .i64 (q:Int)/\Hid (x.ps.take q=y.ps.take q)/\AA6 wo wr) (fun i _=>x.ps.length-(intOf i).toNat);exact⟨0,AY,rfl,Wx (by simp),AL⟩;obtain⟨q,hq,rfl,hT,hb⟩:=hrel;replace hX:=hX.nx hb;replace hY:=hY.nx hb;have x1:=hX.c 1 _ rfl;have y1:=hY.c 1 _ rfl;have hb4:=AB hb3 hb;by_cases hend:q=x.ps.length
  ·subst hend;have hPs:x.ps=y.ps:=Cz hT.out hpl.out;replace hPs:=Wx hPs;clear hp hp' hb hb3 hT;go_wp2;clear x1 y1;obtain⟨wp,rfl⟩:=again wr;go_loopw[8] (fun i wr=>∃q:Nat,q<=x.cs.length/\i=.int .i64 (q:Int)/\Hid (x.cs.take q=y.cs.take q)/\AA6 wp wr) (fun i _=>x.cs.length-(intOf i).toNat);exact⟨0,AY,rfl,Wx (by simp),AL⟩;obtain⟨q,hq,rfl,hT,hb⟩:=hrel;replace hX:=hX.nx hb;replace hY:=hY.nx hb;have x2:=hX.c 2 _ rfl;have y2:=hY.c 2 _ rfl;have hb5:=AB hb4 hb;clear hX hY;by_cases hend:q=x.cs.length
   ·subst hend;have TK:x=y:=hH.eq hTo.out hPs.out (Cz hT.out hcl.out);replace TK:=Wx TK;clear hc hc' hb hb4 hT;go_wp2;go_ret;exact⟨Ir TK.out,hb5⟩
   ·have hlt:q<x.cs.length:=(by omega);have A8:(q:Int)<x.cs.length:=(by omega);have hlt':q<y.cs.length:=(by have:=hcl.out;omega);have JJ:(q:Int)<y.cs.length:=(by omega);obtain⟨b,rfl,hA⟩:=hc q x.cs[q] (by simp[hlt]);obtain⟨b',rfl,hA'⟩:=hc' q y.cs[q] (by simp[hlt']);clear hc hc';obtain⟨t1,t2,t3,hI,c0,c1,c2,c3,c4,c5⟩:=hA.val;obtain⟨s1,s2,s3,hI',d0,d1,d2,d3,d4,d5⟩:=hA'.val;have hk:=AB h0 hb5;have hS:=fun W (hW:AA6 wr W)=>Un (AB hk hW) hI hI';have hN:x.cs[q]=y.cs[q]->x.cs.take (q+1)=y.cs.take (q+1):=fun h=>Cy hT.out hlt hlt' h;have hM:x.cs[q]≠y.cs[q]->x≠y:=fun h e=>by
     subst e;exact h rfl
    clear hI hI' hA hA' hT;have c0:=AA hk c0;have c1:=AA hk c1;have c2:=AA hk c2;have c3:=AA hk c3;have c4:=AA hk c4;have c5:=AA hk c5;have d0:=AA hk d0;have d1:=AA hk d1;have d2:=AA hk d2;have d3:=AA hk d3;have d4:=AA hk d4;have d5:=AA hk d5;generalize x.cs[q]=m1 at*;generalize y.cs[q]=m2 at*;have BJ:=(Below.refl wr.heap.size wr).drew;clear hk;by_cases hm:m1=m2
    ·have hS1:∀W,AA6 wr W->Calls prog 240 #[.agg #[.int .i64 m1.op,.string m1.d,.string m1.n,t1,t2,t3],.agg #[.int .i64 m2.op,.string m2.d,.string m2.n,s1,s2,s3]] W fun e w'=>e=.returned (.bool true)/\AA6 W w':=fun W hW=>(hS W hW).mono fun _ _ h=>⟨h.1.yes hm,h.2⟩;have hN1:=Wx (hN hm);clear hS hN hM hm;go_wp2;refine AO (S:=fun _ v=>AA6 wr v) rfl (by kernel_rfl) BJ ?_;(iterate 12(first|(apply Ab.z rfl;intro L w1 _ _ _ z hK;(have x2:=AA z.s x2;have y2:=AA z.s y2;have c0:=AA z.s c0;have d0:=AA z.s d0;have c1:=AA z.s c1;have d1:=AA z.s d1;have c2:=AA z.s c2;have d2:=AA z.s d2;have c3:=AA z.s c3;have d3:=AA z.s d3;have c4:=AA z.s c4;have d4:=AA z.s d4;have c5:=AA z.s c5;have d5:=AA z.s d5);go_simp;exact hK (z.s);rfl)|(apply Ab.y rfl;intro L w1 _ _ z hK;go_simp;go_wp2_with((refine(hS1 _ z.s).mono ?_;rintro e w2 ⟨rfl,hb⟩));(try simp only[pE]);exact hK.out _ (AB z.s hb);rfl)));refine Ab.nil fun w4 Bb=>?_;have Bp:=AB hb Bb;clear BJ hS1 c0 c1 c2 c3 c4 c5 d0 d1 d2 d3 d4 d5 x2 y2;go_wp2;go_roundw;exact⟨q+1,by omega,by go_num,hN1,Bp⟩;simp[intOf];omega
    ·have hS1:∀W,AA6 wr W->Calls prog 240 #[.agg #[.int .i64 m1.op,.string m1.d,.string m1.n,t1,t2,t3],.agg #[.int .i64 m2.op,.string m2.d,.string m2.n,s1,s2,s3]] W fun e w'=>e=.returned (.bool false)/\AA6 W w':=fun W hW=>(hS W hW).mono fun _ _ h=>⟨h.1.no hm,h.2⟩;have hne:=Wx (hM hm);clear hS hN hM hm;go_wp2;refine AO (S:=fun _ v=>AA6 wr v) rfl (by kernel_rfl) BJ ?_;(iterate 12(first|(apply Ab.z rfl;intro L w1 _ _ _ z hK;(have x2:=AA z.s x2;have y2:=AA z.s y2;have c0:=AA z.s c0;have d0:=AA z.s d0;have c1:=AA z.s c1;have d1:=AA z.s d1;have c2:=AA z.s c2;have d2:=AA z.s d2;have c3:=AA z.s c3;have d3:=AA z.s d3;have c4:=AA z.s c4;have d4:=AA z.s d4;have c5:=AA z.s c5;have d5:=AA z.s d5);go_simp;exact hK (z.s);rfl)|(apply Ab.y rfl;intro L w1 _ _ z hK;go_simp;go_wp2_with((refine(hS1 _ z.s).mono ?_;rintro e w2 ⟨rfl,hb⟩));(try simp only[pE]);exact hK.out _ (AB z.s hb);rfl)));refine Ab.nil fun w4 Bb=>?_;have Bp:=AB hb5 Bb;clear BJ hS1 c0 c1 c2 c3 c4 c5 d0 d1 d2 d3 d4 d5 x2 y2;(go_wp2_with fail;go_ret;exact⟨Bj (hne.out),(Bp)⟩)
  ·have hlt:q<x.ps.length:=(by omega);have A8:(q:Int)<x.ps.length:=(by omega);have hlt':q<y.ps.length:=(by have:=hpl.out;omega);have JJ:(q:Int)<y.ps.length:=(by omega);obtain⟨b,rfl,⟨c0,-⟩,m,c1,r⟩:=hp q x.ps[q] (by simp[hlt]);obtain⟨b',rfl,⟨d0,-⟩,m',d1,r'⟩:=hp' q y.ps[q] (by simp[hlt']);have c0:=AA (AB h0 hb4) c0;have c1:=AA (AB h0 hb4) c1;have d0:=AA (AB h0 hb4) d0;have d1:=AA (AB h0 hb4) d1;have hN:x.ps[q]=y.ps[q]->x.ps.take (q+1)=y.ps.take (q+1):=fun h=>Cy hT.out hlt hlt' h;have hM:x.ps[q]≠y.ps[q]->x≠y:=fun h e=>by
    subst e;exact h rfl
   clear hp hp' hc hc' hb3 hT hH;generalize x.ps[q]=m1 at*;generalize y.ps[q]=m2 at*;replace hN:=Wx hN;replace hM:=Wx hM;obtain⟨p7,k7,rfl,-,hn7,r⟩:=r;obtain⟨q7,l7,rfl,-,WM,r'⟩:=r';go_upto_region 11 with fail;go_cut[127]from 98 to 126 (fun v wx=>∃r:Bool,v=.bool r/\(r=false->m1.d=m2.d/\m1.is.length=m2.is.length)/\(r=true->m1≠m2)/\AA6 wr wx)
   ·have hbd:=(Below.refl wr.heap.size wr).drew
    cases e1:(m1.d.toList==m2.d.toList)with
    |false=>
     go_wp2;refine AO (S:=fun _ v=>AA6 wr v) rfl (by kernel_rfl) hbd ?_;(iterate 30(first|(apply Ab.z rfl;intro L w1 _ _ _ z hK;(have x1:=AA z.s x1;have y1:=AA z.s y1;have c0:=AA z.s c0;have d0:=AA z.s d0;have c1:=AA z.s c1;have d1:=AA z.s d1);go_simp;exact hK (z.s);rfl)|(refine Ab.skip rfl (fun L w1 hS hi=>(hS)) ?_;(try simp only[pE]))));refine Ab.nil fun w4 Bb=>?_
     (go_wp2_with fail;go_meet;(case rel=>exact⟨_,rfl,(fun h=>by cases h),(fun _=>(fun e=>by rw[e]at e1;simp at e1)),(Bb)⟩))
    |true=>
    cases e2:((m1.is.length:Int) !=(m2.is.length:Int))with
    |true=>
     go_wp2;refine AO (S:=fun _ v=>AA6 wr v) rfl (by kernel_rfl) hbd ?_;(iterate 30(first|(apply Ab.z rfl;intro L w1 _ _ _ z hK;(have x1:=AA z.s x1;have y1:=AA z.s y1;have c0:=AA z.s c0;have d0:=AA z.s d0;have c1:=AA z.s c1;have d1:=AA z.s d1);go_simp;exact hK (z.s);rfl)|(refine Ab.skip rfl (fun L w1 hS hi=>(hS)) ?_;(try simp only[pE]))));refine Ab.nil fun w4 Bb=>?_
     (go_wp2_with fail;go_meet;(case rel=>exact⟨_,rfl,(fun h=>by cases h),(fun _=>(fun e=>by rw[e]at e2;simp at e2)),(Bb)⟩))
    |false=>
     go_wp2;refine AO (S:=fun _ v=>AA6 wr v) rfl (by kernel_rfl) hbd ?_;(iterate 30(first|(apply Ab.z rfl;intro L w1 _ _ _ z hK;(have x1:=AA z.s x1;have y1:=AA z.s y1;have c0:=AA z.s c0;have d0:=AA z.s d0;have c1:=AA z.s c1;have d1:=AA z.s d1);go_simp;exact hK (z.s);rfl)|(refine Ab.skip rfl (fun L w1 hS hi=>(hS)) ?_;(try simp only[pE]))));refine Ab.nil fun w4 Bb=>?_;go_wp2;go_meet;exact⟨_,rfl,(fun _=>⟨Y4 e1,Y5 e2⟩),(fun h=>by cases h),Bb⟩
   obtain⟨r0,rfl,hr,hr',hbc⟩:=hcut;obtain⟨wv,rfl⟩:=again wc;replace x1:=AA hbc x1;replace y1:=AA hbc y1;replace c1:=AA hbc c1;replace d1:=AA hbc d1;have hbv:=AB hb hbc;have qx:=AB hb4 hbc;cases r0;rotate_left
   ·have hne:=Wx (hM.out (hr' rfl));(go_wp2_with fail;go_ret;exact⟨Bj (hne.out),(qx)⟩)
   obtain⟨hdd,hil⟩:=hr rfl;replace hdd:=Wx hdd;replace hil:=Wx hil;go_wp2;obtain⟨wz,rfl⟩:=again wr;go_loopw[7] (fun i wr=>∃q:Nat,q<=m1.is.length/\i=.int .i64 (q:Int)/\Hid (m1.is.take q=m2.is.take q)/\AA6 wv wr) (fun i _=>m1.is.length-(intOf i).toNat);exact⟨0,AY,rfl,Wx (by simp),AL⟩;obtain⟨j,hj,rfl,hT,hb6⟩:=hrel;have x1:=AA hb6 x1;have y1:=AA hb6 y1;have c1:=AA hb6 c1;have d1:=AA hb6 d1;by_cases hend:j=m1.is.length
   ·subst hend;have hN1:=Wx (hN.out (AAK hdd.out (Cz hT.out hil.out)));have hbZ:=AB hbv hb6;go_wp2;go_roundw;exact⟨q+1,by omega,by go_num,hN1,hbZ⟩;simp[intOf];omega
   ·have hlt:j<m1.is.length:=(by omega);have A8:(j:Int)<m1.is.length:=(by omega);have hlt':j<m2.is.length:=(by have:=hil.out;omega);have JJ:(j:Int)<m2.is.length:=(by omega);obtain⟨f,rfl,⟨f0,-⟩,f1,⟨f2,-⟩,f3⟩:=r j m1.is[j] (by simp[hlt]);obtain⟨f',rfl,⟨g0,-⟩,g1,⟨g2,-⟩,g3⟩:=r' j m2.is[j] (by simp[hlt']);have hk:=AB h0 (AB qx hb6);have f0:=AA hk f0;have f1:=AA hk f1;have f2:=AA hk f2;have f3:=AA hk f3;have g0:=AA hk g0;have g1:=AA hk g1;have g2:=AA hk g2;have g3:=AA hk g3;have hN1:Qt m1.is[j] m2.is[j]=true->m1.is.take (j+1)=m2.is.take (j+1):=fun h=>Cy hT.out hlt hlt' (lY h);have hM1:Qt m1.is[j] m2.is[j]=false->m1≠m2:=fun h e=>by
     subst e;rw[Yc]at h;cases h
    have hE:∀w,(Op.equalIn 10000 213 (.agg #[.string m1.is[j].b,.int .i64 m1.is[j].a.k,.string m1.is[j].a.s,.int .i64 m1.is[j].a.n]) (.agg #[.string m2.is[j].b,.int .i64 m2.is[j].a.k,.string m2.is[j].a.s,.int .i64 m2.is[j].a.n])).run prog w=.ok (Qt m1.is[j] m2.is[j]) w:=fun w=>tV _ _ _ _ _ _ _ _ w;generalize Qt m1.is[j] m2.is[j]=bb at*;have hbf:=AB qx hb6;replace hN1:=Wx hN1;replace hM1:=Wx hM1;generalize m1.is[j].b=t1 at*;generalize m1.is[j].a.k=t2 at*;generalize m1.is[j].a.s=t3 at*;generalize m1.is[j].a.n=t4 at*;generalize m2.is[j].b=t1' at*;generalize m2.is[j].a.k=t2' at*;generalize m2.is[j].a.s=t3' at*;generalize m2.is[j].a.n=t4' at*;go_wp2;refine AO (S:=fun _ v=>v=wr.drew) rfl (by kernel_rfl) rfl ?_;(iterate 19((apply Ab.z rfl;intro L w1 _ _ _ z hK;have hS:=z.s;(subst hS);go_simp;exact hK (rfl);rfl)));refine Ab.nil fun w4 Bb=>?_;subst Bb;have Bp:=hb6.drew;have hbg:=hbf.drew;cases bb
    ·have hne:=Wx (hM.out (hM1.out (by trivial)));(go_wp2_with fail;go_ret;exact⟨Bj (hne.out),(hbg)⟩)
    ·go_wp2;go_roundw;exact⟨j+1,by omega,by go_num,Wx (hN1.out (by trivial)),Bp⟩;simp[intOf];omega
 ·have hlt:q<x.e.to.length:=by omega
  have A8:(q:Int)<x.e.to.length:=by omega
  have hlt':q<y.e.to.length:=by have:=htl.out;omega
  have JJ:(q:Int)<y.e.to.length:=by omega
  obtain⟨b,rfl,c0,-⟩:=ht q x.e.to[q] (by simp[hlt]);obtain⟨b',rfl,d0,-⟩:=ht' q y.e.to[q] (by simp[hlt']);have hbf:=AB hb2 hb;have c0:=AA (AB h0 hbf) c0;have d0:=AA (AB h0 hbf) d0;have hN:x.e.to[q]=y.e.to[q]->x.e.to.take (q+1)=y.e.to.take (q+1):=fun h=>Cy hT.out hlt hlt' h;have hM:x.e.to[q]≠y.e.to[q]->x≠y:=fun h e=>by
   subst e;exact h rfl
  rw[Nat.mul_one]at c0 d0;generalize x.e.to[q]=s at*;generalize y.e.to[q]=s' at*;replace hN:=Wx hN;replace hM:=Wx hM
  cases e1:(s.toList==s'.toList)with
  |false=>
   go_wp2;refine AO (S:=fun _ v=>v=wr.drew) rfl (by kernel_rfl) rfl ?_;(iterate 13((apply Ab.z rfl;intro L w1 _ _ _ z hK;have hS:=z.s;(subst hS);go_simp;exact hK (rfl);rfl)));refine Ab.nil fun w4 Bb=>?_;subst Bb;have hne:=Wx (hM.out fun e=>by rw[e]at e1;simp at e1);have hbg:=hbf.drew
   (go_wp2_with fail;go_ret;exact⟨Bj (hne.out),(hbg)⟩)
  |true=>
   have hN1:=Wx (hN.out (Y4 e1));go_wp2;refine AO (S:=fun _ v=>v=wr.drew) rfl (by kernel_rfl) rfl ?_;(iterate 13((apply Ab.z rfl;intro L w1 _ _ _ z hK;have hS:=z.s;(subst hS);go_simp;exact hK (rfl);rfl)));refine Ab.nil fun w4 Bb=>?_;subst Bb;have Bp:=hb.drew;go_wp2;go_roundw;exact⟨q+1,by omega,by go_num,hN1,Bp⟩;simp[intOf];omega
structure HdF(x y:Fn):Prop where
 n:x.n=y.n
 r:x.r=y.r
 p:x.ps=y.ps
 v:x.vs=y.vs
 b:x.bs.length=y.bs.length
theorem HdF.eq{x y:Fn}(h:HdF x y)(h1:x.bs=y.bs):x=y:=by grind [cases Fn,cases HdF]
structure HdP(x y:Pg):Prop where
 s:x.ssa=y.ssa
 c:x.cs.length=y.cs.length
 g:x.gs=y.gs
 m:x.xs.length=y.xs.length
 f:x.fs.length=y.fs.length
theorem HdP.eq{x y:Pg}(h:HdP x y)(h1:x.cs=y.cs)(h2:x.xs=y.xs)(h3:x.fs=y.fs):x=y:=by grind [cases Pg,cases HdP]
theorem AAr{x y:Cl}(h1:x.n=y.n)(h2:x.fs=y.fs):x=y:=by grind [cases Cl]
theorem Xn(h0:AA6 w0 w){x y:Fn}(hv:EL w0 v x u1 u2 u3)(hv':EL w0 v' y y1 y2 y3):Calls prog 177 #[v,v'] w fun e w'=>IC (x=y) e/\AA6 w w':=by
 obtain⟨rfl,-,hp,hc,ht⟩:=hv;obtain⟨rfl,-,hp',hc',ht'⟩:=hv';have hA:=fun W (hW:AA6 w0 W)=>I5 hW hp hp';have hB:=fun W (hW:AA6 w0 W)=>I5 hW hc hc';obtain⟨p1,k1,rfl⟩:=hp.slice;obtain⟨q1,l1,rfl⟩:=hp'.slice;obtain⟨p2,k2,rfl⟩:=hc.slice;obtain⟨q2,l2,rfl⟩:=hc'.slice;obtain⟨p3,k3,rfl,-,QY,ht⟩:=ht;obtain⟨q3,l3,rfl,-,vG,ht'⟩:=ht';have hb1:=AJ w (.cells #[.string x.n,.string x.r,.slice p1 x.ps.length k1,.slice p2 x.vs.length k2,.slice p3 x.bs.length k3] 66);have hb2:=hb1.alloc hb1.size (.cells #[.string y.n,.string y.r,.slice q1 y.ps.length l1,.slice q2 y.vs.length l2,.slice q3 y.bs.length l3] 66);have hX:=(Ae.alloc w [.string x.n,.string x.r,.slice p1 x.ps.length k1,.slice p2 x.vs.length k2,.slice p3 x.bs.length k3] 66).al (.cells #[.string y.n,.string y.r,.slice q1 y.ps.length l1,.slice q2 y.vs.length l2,.slice q3 y.bs.length l3] 66);have hY:=Ae.alloc (w.alloc (.cells #[.string x.n,.string x.r,.slice p1 x.ps.length k1,.slice p2 x.vs.length k2,.slice p3 x.bs.length k3] 66)) [.string y.n,.string y.r,.slice q1 y.ps.length l1,.slice q2 y.vs.length l2,.slice q3 y.bs.length l3] 66;have z1:(w.alloc (.cells #[.string x.n,.string x.r,.slice p1 x.ps.length k1,.slice p2 x.vs.length k2,.slice p3 x.bs.length k3] 66)).heap.size=w.heap.size+1:=by simp
 rw[z1]at hY;go_enter func177,ntmps177;go_upto_region 1 with fail;generalize Cr:(w.alloc _).alloc _=W at*;go_cut[42]from 6 to 41 (fun v wx=>∃r:Bool,v=.bool r/\(r=false->HdF x y)/\(r=true->x≠y)/\AA6 W wx)
 ·have hA1:=hA _ (AB h0 hb2);have hB1:=fun W' (hW:AA6 W W')=>hB W' (AB (AB h0 hb2) hW);obtain⟨a0,a1,a2⟩:=hX.c3;obtain⟨b0,b1,b2⟩:=hY.c3
  cases e1:(x.n.toList==y.n.toList)with
  |false=>(go_wp2_with fail;go_meet;(case rel=>exact⟨_,rfl,(fun h=>by cases h),(fun _=>(fun e=>by rw[e]at e1;simp at e1)),(AL)⟩))
  |true=>
  cases e2:(x.r.toList==y.r.toList)with
  |false=>(go_wp2_with fail;go_meet;(case rel=>exact⟨_,rfl,(fun h=>by cases h),(fun _=>(fun e=>by rw[e]at e2;simp at e2)),(AL)⟩))
  |true=>
  go_wp2_with fail;refine hA1.mono ?_;rintro e w1 ⟨⟨r,rfl,hr,hr'⟩,hb3⟩;replace hr:=Wx hr;replace hr':=Wx hr';cases r
  ·(go_wp2_with fail;go_meet;(case rel=>exact⟨_,rfl,(fun h=>by cases h),(fun _=>(fun e=>hr'.out (by trivial) (by rw[e]))),(hb3)⟩))
  have hB2:=hB1 _ hb3;have hX1:=hX.nx hb3;have nG:=hY.nx hb3;have a3:=hX1.c 3 _ rfl;have b3:=nG.c 3 _ rfl;go_wp2_with fail;refine hB2.mono ?_;rintro e w2 ⟨⟨r,rfl,hs,hs'⟩,hb4⟩;replace hs:=Wx hs;replace hs':=Wx hs';clear hB2;have hb5:=AB hb3 hb4;cases r
  ·(go_wp2_with fail;go_meet;(case rel=>exact⟨_,rfl,(fun h=>by cases h),(fun _=>(fun e=>hs'.out (by trivial) (by rw[e]))),(hb5)⟩))
  have hX2:=hX1.nx hb4;have hY2:=nG.nx hb4;have a4:=hX2.c 4 _ rfl;have b4:=hY2.c 4 _ rfl;clear hX1 nG
  cases e5:((x.bs.length:Int) !=(y.bs.length:Int))with
  |true=>(go_wp2_with fail;go_meet;(case rel=>exact⟨_,rfl,(fun h=>by cases h),(fun _=>(fun e=>by rw[e]at e5;simp at e5)),(hb5)⟩))
  |false=>
  have hH:HdF x y:=⟨Y4 e1,Y4 e2,hr.out (by trivial),hs.out (by trivial),Y5 e5⟩;go_wp2;go_meet;exact⟨_,rfl,(fun _=>hH),(fun h=>by cases h),hb5⟩
 obtain⟨r,rfl,hr,hr',hb3⟩:=hcut;obtain⟨w1,rfl⟩:=again wc;have hb5:=AB hb2 hb3;replace hX:=hX.nx hb3;replace hY:=hY.nx hb3;clear hb2 hb3 hA hB;cases r;rotate_left
 ·have hne:=Wx (hr' rfl);clear hr hr' ht ht';(go_wp2_with fail;go_ret;exact⟨Bj (hne.out),(hb5)⟩)
 have hH:=hr rfl;have hbl:=Wx hH.b;go_wp2;go_loopw[5] (fun i wr=>∃q:Nat,q<=x.bs.length/\i=.int .i64 (q:Int)/\Hid (x.bs.take q=y.bs.take q)/\AA6 w1 wr) (fun i _=>x.bs.length-(intOf i).toNat);exact⟨0,AY,rfl,Wx (by simp),AL⟩;obtain⟨q,hq,rfl,hT,hb⟩:=hrel;replace hX:=hX.nx hb;replace hY:=hY.nx hb;have x4:=hX.c 4 _ rfl;have y4:=hY.c 4 _ rfl;have hb6:=AB hb5 hb;by_cases hend:q=x.bs.length
 ·subst hend;have TK:x=y:=hH.eq (Cz hT.out hbl.out);replace TK:=Wx TK;go_wp2;go_ret;exact⟨Ir TK.out,hb6⟩
 ·have hlt:q<x.bs.length:=by omega
  have A8:(q:Int)<x.bs.length:=by omega
  have hlt':q<y.bs.length:=by have:=hbl.out;omega
  have JJ:(q:Int)<y.bs.length:=by omega
  obtain⟨b,rfl,hI0⟩:=ht q x.bs[q] (by simp[hlt]);obtain⟨b',rfl,jN⟩:=ht' q y.bs[q] (by simp[hlt']);obtain⟨t1,t2,t3,hI,c0,c1,c2,c3,c4,c5,c6,c7,c8⟩:=hI0.val;obtain⟨s1,s2,s3,hI',d0,d1,d2,d3,d4,d5,d6,d7,d8⟩:=jN.val;have hk:=AB h0 hb6;have hS:=fun W (hW:AA6 wr W)=>Uo (AB hk hW) hI hI';have hN:x.bs[q]=y.bs[q]->x.bs.take (q+1)=y.bs.take (q+1):=fun h=>Cy hT.out hlt hlt' h;have hM:x.bs[q]≠y.bs[q]->x≠y:=fun h e=>by
   subst e;exact h rfl
  have c0:=AA hk c0;have c1:=AA hk c1;have c2:=AA hk c2;have c3:=AA hk c3;have c4:=AA hk c4;have c5:=AA hk c5;have c6:=AA hk c6;have c7:=AA hk c7;have c8:=AA hk c8;have d0:=AA hk d0;have d1:=AA hk d1;have d2:=AA hk d2;have d3:=AA hk d3;have d4:=AA hk d4;have d5:=AA hk d5;have d6:=AA hk d6;have d7:=AA hk d7;have d8:=AA hk d8;generalize x.bs[q]=m1 at*;generalize y.bs[q]=m2 at*;have BJ:=(Below.refl wr.heap.size wr).drew;clear hk;by_cases hm:m1=m2
  ·have hS1:∀W,AA6 wr W->Calls prog 219 #[.agg #[.string m1.n,t1,t2,.int .i64 m1.e.k,.int .i64 m1.e.a.k,.string m1.e.a.s,.int .i64 m1.e.a.n,t3,.int .i64 m1.e.n],.agg #[.string m2.n,s1,s2,.int .i64 m2.e.k,.int .i64 m2.e.a.k,.string m2.e.a.s,.int .i64 m2.e.a.n,s3,.int .i64 m2.e.n]] W fun e w'=>e=.returned (.bool true)/\AA6 W w':=fun W hW=>(hS W hW).mono fun _ _ h=>⟨h.1.yes hm,h.2⟩;have hN1:=Wx (hN hm);clear hS hN hM hm;go_wp2;refine AO (S:=fun _ v=>AA6 wr v) rfl (by kernel_rfl) BJ ?_;(iterate 12(first|(apply Ab.z rfl;intro L w1 _ _ _ z hK;(have x4:=AA z.s x4;have y4:=AA z.s y4;have c0:=AA z.s c0;have d0:=AA z.s d0;have c1:=AA z.s c1;have d1:=AA z.s d1;have c2:=AA z.s c2;have d2:=AA z.s d2;have c3:=AA z.s c3;have d3:=AA z.s d3;have c4:=AA z.s c4;have d4:=AA z.s d4;have c5:=AA z.s c5;have d5:=AA z.s d5;have c6:=AA z.s c6;have d6:=AA z.s d6;have c7:=AA z.s c7;have d7:=AA z.s d7;have c8:=AA z.s c8;have d8:=AA z.s d8);go_simp;exact hK (z.s);rfl)|(apply Ab.y rfl;intro L w1 _ _ z hK;go_simp;go_wp2_with((refine(hS1 _ z.s).mono ?_;rintro e w2 ⟨rfl,hb⟩));(try simp only[pE]);exact hK.out _ (AB z.s hb);rfl)));refine Ab.nil fun w4 Bb=>?_;have Bp:=AB hb Bb;go_wp2;go_roundw;exact⟨q+1,by omega,by go_num,hN1,Bp⟩;simp[intOf];omega
  ·have hS1:∀W,AA6 wr W->Calls prog 219 #[.agg #[.string m1.n,t1,t2,.int .i64 m1.e.k,.int .i64 m1.e.a.k,.string m1.e.a.s,.int .i64 m1.e.a.n,t3,.int .i64 m1.e.n],.agg #[.string m2.n,s1,s2,.int .i64 m2.e.k,.int .i64 m2.e.a.k,.string m2.e.a.s,.int .i64 m2.e.a.n,s3,.int .i64 m2.e.n]] W fun e w'=>e=.returned (.bool false)/\AA6 W w':=fun W hW=>(hS W hW).mono fun _ _ h=>⟨h.1.no hm,h.2⟩;have hne:=Wx (hM hm);go_wp2;refine AO (S:=fun _ v=>AA6 wr v) rfl (by kernel_rfl) BJ ?_;(iterate 12(first|(apply Ab.z rfl;intro L w1 _ _ _ z hK;(have x4:=AA z.s x4;have y4:=AA z.s y4;have c0:=AA z.s c0;have d0:=AA z.s d0;have c1:=AA z.s c1;have d1:=AA z.s d1;have c2:=AA z.s c2;have d2:=AA z.s d2;have c3:=AA z.s c3;have d3:=AA z.s d3;have c4:=AA z.s c4;have d4:=AA z.s d4;have c5:=AA z.s c5;have d5:=AA z.s d5;have c6:=AA z.s c6;have d6:=AA z.s d6;have c7:=AA z.s c7;have d7:=AA z.s d7;have c8:=AA z.s c8;have d8:=AA z.s d8);go_simp;exact hK (z.s);rfl)|(apply Ab.y rfl;intro L w1 _ _ z hK;go_simp;go_wp2_with((refine(hS1 _ z.s).mono ?_;rintro e w2 ⟨rfl,hb⟩));(try simp only[pE]);exact hK.out _ (AB z.s hb);rfl)));refine Ab.nil fun w4 Bb=>?_;have Bp:=AB hb6 Bb;(go_wp2_with fail;go_ret;exact⟨Bj (hne.out),(Bp)⟩)
theorem Xm(h0:AA6 w0 w){x y:Pg}{u4:Value}(hv:Cj w0 v x u1 u2 u3 u4){y4:Value}(hv':Cj w0 v' y y1 y2 y3 y4):Calls prog 124 #[v,v'] w fun e w'=>IC (x=y) e/\AA6 w w':=by
 obtain⟨rfl,hc,hg,hx,hf⟩:=hv;obtain⟨rfl,hc',hg',hx',hf'⟩:=hv';have hA:=fun W (hW:AA6 w0 W)=>I5 hW hg hg';obtain⟨p1,k1,rfl,-,hn1,hc⟩:=hc;obtain⟨q1,l1,rfl,-,hm1,hc'⟩:=hc';obtain⟨p2,k2,rfl⟩:=hg.slice;obtain⟨q2,l2,rfl⟩:=hg'.slice;obtain⟨p3,k3,rfl,-,QY,hx⟩:=hx;obtain⟨q3,l3,rfl,-,vG,hx'⟩:=hx';obtain⟨p4,k4,rfl,-,iH,hf⟩:=hf;obtain⟨q4,l4,rfl,-,hm4,hf'⟩:=hf';clear hg hg';have hb1:=AJ w (.cells #[.bool x.ssa,.slice p1 x.cs.length k1,.slice p2 x.gs.length k2,.slice p3 x.xs.length k3,.slice p4 x.fs.length k4] 27);have hb2:=hb1.alloc hb1.size (.cells #[.bool y.ssa,.slice q1 y.cs.length l1,.slice q2 y.gs.length l2,.slice q3 y.xs.length l3,.slice q4 y.fs.length l4] 27);have hX:=(Ae.alloc w [.bool x.ssa,.slice p1 x.cs.length k1,.slice p2 x.gs.length k2,.slice p3 x.xs.length k3,.slice p4 x.fs.length k4] 27).al (.cells #[.bool y.ssa,.slice q1 y.cs.length l1,.slice q2 y.gs.length l2,.slice q3 y.xs.length l3,.slice q4 y.fs.length l4] 27);have hY:=Ae.alloc (w.alloc (.cells #[.bool x.ssa,.slice p1 x.cs.length k1,.slice p2 x.gs.length k2,.slice p3 x.xs.length k3,.slice p4 x.fs.length k4] 27)) [.bool y.ssa,.slice q1 y.cs.length l1,.slice q2 y.gs.length l2,.slice q3 y.xs.length l3,.slice q4 y.fs.length l4] 27;have z1:(w.alloc (.cells #[.bool x.ssa,.slice p1 x.cs.length k1,.slice p2 x.gs.length k2,.slice p3 x.xs.length k3,.slice p4 x.fs.length k4] 27)).heap.size=w.heap.size+1:=by simp
 rw[z1]at hY;clear hb1 z1;obtain⟨sx,hsx⟩:∃sx,sx=x.ssa:=⟨_,rfl⟩;obtain⟨sy,hsy⟩:∃sy,sy=y.ssa:=⟨_,rfl⟩;rw[<-hsx,<-hsy]at hb2 hX hY⊢;replace hsx:=Wx hsx;replace hsy:=Wx hsy;go_enter func124,ntmps124;go_upto_region 1 with fail;generalize Cr:(w.alloc _).alloc _=W at*;clear Cr;go_cut[47]from 8 to 46 (fun v wx=>∃r:Bool,v=.bool r/\(r=false->HdP x y)/\(r=true->x≠y)/\AA6 W wx)
 ·have hA1:=hA _ (AB h0 hb2);obtain⟨a0,a1,a2⟩:=hX.c3;obtain⟨b0,b1,b2⟩:=hY.c3;clear hc hc' hx hx' hf hf' hA hn1 hm1 QY vG iH hm4;by_cases hs:sx=sy;rotate_left
  ·cases sx<;>cases sy<;>first|exact absurd rfl hs|((go_wp2_with fail;go_meet;(case rel=>exact⟨_,rfl,(fun h=>by cases h),(fun _=>(fun e=>by have h1:=hsx.out;have h2:=hsy.out;rw[e,<-h2]at h1;cases h1)),(AL)⟩)))
  subst hs;have qD:=Wx (hsx.out.symm.trans hsy.out)
  cases e2:((x.cs.length:Int) !=(y.cs.length:Int))with
  |true=>(go_wp2_with fail;go_meet;(case rel=>exact⟨_,rfl,(fun h=>by cases h),(fun _=>(fun e=>by rw[e]at e2;simp at e2)),(AL)⟩))
  |false=>
  go_wp2_with fail;refine hA1.mono ?_;rintro e w1 ⟨⟨r,rfl,hr,hr'⟩,hb3⟩;replace hr:=Wx hr;replace hr':=Wx hr';clear hA1;cases r
  ·(go_wp2_with fail;go_meet;(case rel=>exact⟨_,rfl,(fun h=>by cases h),(fun _=>(fun e=>hr'.out (by trivial) (by rw[e]))),(hb3)⟩))
  have hX1:=hX.nx hb3;have nG:=hY.nx hb3;obtain⟨-,-,-,a3,a4⟩:=hX1.c5;obtain⟨-,-,-,b3,b4⟩:=nG.c5;clear hX hY
  cases e5:((x.xs.length:Int) !=(y.xs.length:Int))with
  |true=>(go_wp2_with fail;go_meet;(case rel=>exact⟨_,rfl,(fun h=>by cases h),(fun _=>(fun e=>by rw[e]at e5;simp at e5)),(hb3)⟩))
  |false=>
  cases e6:((x.fs.length:Int) !=(y.fs.length:Int))with
  |true=>(go_wp2_with fail;go_meet;(case rel=>exact⟨_,rfl,(fun h=>by cases h),(fun _=>(fun e=>by rw[e]at e6;simp at e6)),(hb3)⟩))
  |false=>
  have hH:HdP x y:=⟨qD.out,Y5 e2,hr.out (by trivial),Y5 e5,Y5 e6⟩;go_wp2;go_meet;exact⟨_,rfl,(fun _=>hH),(fun h=>by cases h),hb3⟩
 obtain⟨r,rfl,hr,hr',hb3⟩:=hcut;obtain⟨w1,rfl⟩:=again wc;have hb5:=AB hb2 hb3;replace hX:=hX.nx hb3;replace hY:=hY.nx hb3;clear hb2 hb3 hA;cases r;rotate_left
 ·have hne:=Wx (hr' rfl);clear hr hr' hc hc' hx hx' hf hf';(go_wp2_with fail;go_ret;exact⟨Bj (hne.out),(hb5)⟩)
 have hH:=hr rfl;clear hr hr';have hcl:=Wx hH.c;have hxl:=Wx hH.m;have hfl:=Wx hH.f;go_wp2;go_loopw[5] (fun i wr=>∃q:Nat,q<=x.cs.length/\i=.int .i64 (q:Int)/\Hid (x.cs.take q=y.cs.take q)/\AA6 w1 wr) (fun i _=>x.cs.length-(intOf i).toNat);exact⟨0,AY,rfl,Wx (by simp),AL⟩;obtain⟨q,hq,rfl,hT,hb⟩:=hrel;replace hX:=hX.nx hb;replace hY:=hY.nx hb;have x1:=hX.c 1 _ rfl;have y1:=hY.c 1 _ rfl;have hb6:=AB hb5 hb;by_cases hend:q=x.cs.length
 ·subst hend;have hCC:x.cs=y.cs:=Cz hT.out hcl.out;replace hCC:=Wx hCC;clear hc hc' hb hb5 hT;go_wp2;clear x1 y1;obtain⟨wo,rfl⟩:=again wr;go_loopw[6] (fun i wr=>∃q:Nat,q<=x.xs.length/\i=.int .i64 (q:Int)/\Hid (x.xs.take q=y.xs.take q)/\AA6 wo wr) (fun i _=>x.xs.length-(intOf i).toNat);exact⟨0,AY,rfl,Wx (by simp),AL⟩;obtain⟨q,hq,rfl,hT,hb⟩:=hrel;replace hX:=hX.nx hb;replace hY:=hY.nx hb;have x3:=hX.c 3 _ rfl;have y3:=hY.c 3 _ rfl;have BJ:=AB hb6 hb;by_cases hend:q=x.xs.length
  ·subst hend;have hXX:x.xs=y.xs:=Cz hT.out hxl.out;replace hXX:=Wx hXX;clear hx hx' hb hb6 hT;go_wp2;clear x3 y3;obtain⟨wp,rfl⟩:=again wr;go_loopw[7] (fun i wr=>∃q:Nat,q<=x.fs.length/\i=.int .i64 (q:Int)/\Hid (x.fs.take q=y.fs.take q)/\AA6 wp wr) (fun i _=>x.fs.length-(intOf i).toNat);exact⟨0,AY,rfl,Wx (by simp),AL⟩;obtain⟨q,hq,rfl,hT,hb⟩:=hrel;replace hX:=hX.nx hb;replace hY:=hY.nx hb;have x4:=hX.c 4 _ rfl;have y4:=hY.c 4 _ rfl;have Bp:=AB BJ hb;clear hX hY;by_cases hend:q=x.fs.length
   ·subst hend;have TK:x=y:=hH.eq hCC.out hXX.out (Cz hT.out hfl.out);replace TK:=Wx TK;clear hf hf' hb BJ hT;go_wp2;go_ret;exact⟨Ir TK.out,Bp⟩
   ·have hlt:q<x.fs.length:=(by omega);have A8:(q:Int)<x.fs.length:=(by omega);have hlt':q<y.fs.length:=(by have:=hfl.out;omega);have JJ:(q:Int)<y.fs.length:=(by omega);obtain⟨b,rfl,hI0⟩:=hf q x.fs[q] (by simp[hlt]);obtain⟨b',rfl,jN⟩:=hf' q y.fs[q] (by simp[hlt']);clear hf hf';obtain⟨t1,t2,t3,hI,c0,c1,c2,c3,c4⟩:=hI0.val;obtain⟨s1,s2,s3,hI',d0,d1,d2,d3,d4⟩:=jN.val;have hk:=AB h0 Bp;have hS:=fun W (hW:AA6 wr W)=>Xn (AB hk hW) hI hI';have hN:x.fs[q]=y.fs[q]->x.fs.take (q+1)=y.fs.take (q+1):=fun h=>Cy hT.out hlt hlt' h;have hM:x.fs[q]≠y.fs[q]->x≠y:=fun h e=>by
     subst e;exact h rfl
    clear hI hI' hI0 jN hT hH;have c0:=AA hk c0;have c1:=AA hk c1;have c2:=AA hk c2;have c3:=AA hk c3;have c4:=AA hk c4;have d0:=AA hk d0;have d1:=AA hk d1;have d2:=AA hk d2;have d3:=AA hk d3;have d4:=AA hk d4;generalize x.fs[q]=m1 at*;generalize y.fs[q]=m2 at*;have J9:=(Below.refl wr.heap.size wr).drew;clear hk;by_cases hm:m1=m2
    ·have hS1:∀W,AA6 wr W->Calls prog 177 #[.agg #[.string m1.n,.string m1.r,t1,t2,t3],.agg #[.string m2.n,.string m2.r,s1,s2,s3]] W fun e w'=>e=.returned (.bool true)/\AA6 W w':=fun W hW=>(hS W hW).mono fun _ _ h=>⟨h.1.yes hm,h.2⟩;have hN1:=Wx (hN hm);clear hS hN hM hm;go_wp2;refine AO (S:=fun _ v=>AA6 wr v) rfl (by kernel_rfl) J9 ?_;(iterate 12(first|(apply Ab.z rfl;intro L w1 _ _ _ z hK;(have x4:=AA z.s x4;have y4:=AA z.s y4;have c0:=AA z.s c0;have d0:=AA z.s d0;have c1:=AA z.s c1;have d1:=AA z.s d1;have c2:=AA z.s c2;have d2:=AA z.s d2;have c3:=AA z.s c3;have d3:=AA z.s d3;have c4:=AA z.s c4;have d4:=AA z.s d4);go_simp;exact hK (z.s);rfl)|(apply Ab.y rfl;intro L w1 _ _ z hK;go_simp;go_wp2_with((refine(hS1 _ z.s).mono ?_;rintro e w2 ⟨rfl,hb⟩));(try simp only[pE]);exact hK.out _ (AB z.s hb);rfl)));refine Ab.nil fun w4 Bb=>?_;have hbz:=AB hb Bb;clear J9 hS1 c0 c1 c2 c3 c4 d0 d1 d2 d3 d4 x4 y4;go_wp2;go_roundw;exact⟨q+1,by omega,by go_num,hN1,hbz⟩;simp[intOf];omega
    ·have hS1:∀W,AA6 wr W->Calls prog 177 #[.agg #[.string m1.n,.string m1.r,t1,t2,t3],.agg #[.string m2.n,.string m2.r,s1,s2,s3]] W fun e w'=>e=.returned (.bool false)/\AA6 W w':=fun W hW=>(hS W hW).mono fun _ _ h=>⟨h.1.no hm,h.2⟩;have hne:=Wx (hM hm);clear hS hN hM hm;go_wp2;refine AO (S:=fun _ v=>AA6 wr v) rfl (by kernel_rfl) J9 ?_;(iterate 12(first|(apply Ab.z rfl;intro L w1 _ _ _ z hK;(have x4:=AA z.s x4;have y4:=AA z.s y4;have c0:=AA z.s c0;have d0:=AA z.s d0;have c1:=AA z.s c1;have d1:=AA z.s d1;have c2:=AA z.s c2;have d2:=AA z.s d2;have c3:=AA z.s c3;have d3:=AA z.s d3;have c4:=AA z.s c4;have d4:=AA z.s d4);go_simp;exact hK (z.s);rfl)|(apply Ab.y rfl;intro L w1 _ _ z hK;go_simp;go_wp2_with((refine(hS1 _ z.s).mono ?_;rintro e w2 ⟨rfl,hb⟩));(try simp only[pE]);exact hK.out _ (AB z.s hb);rfl)));refine Ab.nil fun w4 Bb=>?_;have hbz:=AB Bp Bb;clear J9 hS1 c0 c1 c2 c3 c4 d0 d1 d2 d3 d4 x4 y4;(go_wp2_with fail;go_ret;exact⟨Bj (hne.out),(hbz)⟩)
  ·have hlt:q<x.xs.length:=(by omega);have A8:(q:Int)<x.xs.length:=(by omega);have hlt':q<y.xs.length:=(by have:=hxl.out;omega);have JJ:(q:Int)<y.xs.length:=(by omega);obtain⟨a,rfl,⟨c0,-⟩,c1⟩:=hx q x.xs[q] (by simp[hlt]);obtain⟨a',rfl,⟨d0,-⟩,d1⟩:=hx' q y.xs[q] (by simp[hlt']);have hk:=AB h0 BJ;have c0:=AA hk c0;have c1:=AA hk c1;have d0:=AA hk d0;have d1:=AA hk d1;have hN:Qu x.xs[q] y.xs[q]=true->x.xs.take (q+1)=y.xs.take (q+1):=fun h=>Cy hT.out hlt hlt' (lZ h);have hM:Qu x.xs[q] y.xs[q]=false->x≠y:=fun h e=>by
    subst e;rw[Yd]at h;cases h
   have hE:∀w,(Op.equalIn 10000 155 (.agg #[.string x.xs[q].n,.int .i64 x.xs[q].k]) (.agg #[.string y.xs[q].n,.int .i64 y.xs[q].k])).run prog w=.ok (Qu x.xs[q] y.xs[q]) w:=fun w=>AAk _ _ _ _ w;generalize Qu x.xs[q] y.xs[q]=bb at*;clear hx hx' hf hf' hT hk hX hY hb6 hH;replace hN:=Wx hN;replace hM:=Wx hM;generalize x.xs[q].n=s at*;generalize x.xs[q].k=t at*;generalize y.xs[q].n=s' at*;generalize y.xs[q].k=t' at*;go_wp2;refine AO (S:=fun _ v=>v=wr.drew) rfl (by kernel_rfl) rfl ?_;(iterate 11((apply Ab.z rfl;intro L w1 _ _ _ z hK;have hS:=z.s;(subst hS);go_simp;exact hK (rfl);rfl)));refine Ab.nil fun w4 Bb=>?_;subst Bb;have Bp:=hb.drew;have hbz:=BJ.drew;clear c0 c1 d0 d1 x3 y3 hE;cases bb
   ·have hne:=Wx (hM.out (by trivial));(go_wp2_with fail;go_ret;exact⟨Bj (hne.out),(hbz)⟩)
   ·go_wp2;go_roundw;exact⟨q+1,by omega,by go_num,Wx (hN.out (by trivial)),Bp⟩;simp[intOf];omega
 ·have hlt:q<x.cs.length:=by omega
  have A8:(q:Int)<x.cs.length:=by omega
  have hlt':q<y.cs.length:=by have:=hcl.out;omega
  have JJ:(q:Int)<y.cs.length:=by omega
  obtain⟨a,rfl,⟨c0,-⟩,m,c1,r⟩:=hc q x.cs[q] (by simp[hlt]);obtain⟨a',rfl,⟨d0,-⟩,m',d1,r'⟩:=hc' q y.cs[q] (by simp[hlt']);have hk:=AB h0 hb6;have c0:=AA hk c0;have c1:=AA hk c1;have d0:=AA hk d0;have d1:=AA hk d1;have hS:=fun W (hW:AA6 wr W)=>I5 (AB hk hW) r r';have hN:x.cs[q].n=y.cs[q].n->x.cs[q].fs=y.cs[q].fs->x.cs.take (q+1)=y.cs.take (q+1):=fun h1 h2=>Cy hT.out hlt hlt' (AAr h1 h2);have hM1:x.cs[q].n≠y.cs[q].n->x≠y:=fun h e=>by
   subst e;exact h rfl
  have hM2:x.cs[q].fs≠y.cs[q].fs->x≠y:=fun h e=>by
   subst e;exact h rfl
  obtain⟨g,j,rfl⟩:=r.slice;obtain⟨g',j',rfl⟩:=r'.slice;clear hc hc' hx hx' hf hf' r r' hT hX hY hk hH;generalize x.cs[q].n=s at*;generalize x.cs[q].fs=vs at*;generalize y.cs[q].n=s' at*;generalize y.cs[q].fs=vs' at*;replace hN:=Wx hN;replace hM1:=Wx hM1;replace hM2:=Wx hM2;have BJ:=(Below.refl wr.heap.size wr).drew
  cases e1:(s.toList==s'.toList)with
  |false=>
   go_wp2;refine AO (S:=fun _ v=>AA6 wr v) rfl (by kernel_rfl) BJ ?_;(iterate 29(first|(apply Ab.z rfl;intro L w1 _ _ _ z hK;(have x1:=AA z.s x1;have y1:=AA z.s y1;have c0:=AA z.s c0;have d0:=AA z.s d0;have c1:=AA z.s c1;have d1:=AA z.s d1);go_simp;exact hK (z.s);rfl)|(refine Ab.skip rfl (fun L w1 hS hi=>(hS)) ?_;(try simp only[pE]))));refine Ab.nil fun w4 Bb=>?_;have Bp:=AB hb6 Bb;have hne:=Wx (hM1.out fun e=>by rw[e]at e1;simp at e1);clear BJ c0 c1 d0 d1 x1 y1 Bb
   (go_wp2_with fail;go_ret;exact⟨Bj (hne.out),(Bp)⟩)
  |true=>
   have qD:=Wx (Y4 e1);by_cases e2:vs=vs'
   ·have hS1:∀W,AA6 wr W->Calls prog 176 #[.slice g vs.length j,.slice g' vs'.length j'] W fun e w'=>e=.returned (.bool true)/\AA6 W w':=fun W hW=>(hS W hW).mono fun _ _ h=>⟨h.1.yes e2,h.2⟩;have hN1:=Wx (hN.out qD.out e2);clear hS hN hM1 hM2 e2;go_wp2;refine AO (S:=fun _ v=>AA6 wr v) rfl (by kernel_rfl) BJ ?_;(iterate 29(first|(apply Ab.z rfl;intro L w1 _ _ _ z hK;(have x1:=AA z.s x1;have y1:=AA z.s y1;have c0:=AA z.s c0;have d0:=AA z.s d0;have c1:=AA z.s c1;have d1:=AA z.s d1);go_simp;exact hK (z.s);rfl)|(apply Ab.y rfl;intro L w1 _ _ z hK;go_simp;go_wp2_with((refine(hS1 _ z.s).mono ?_;rintro e w2 ⟨rfl,hb⟩));(try simp only[pE]);exact hK.out _ (AB z.s hb);rfl)));refine Ab.nil fun w4 Bb=>?_;have Bp:=AB hb Bb;clear BJ hS1 c0 c1 d0 d1 x1 y1 Bb;go_wp2;go_roundw;exact⟨q+1,by omega,by go_num,hN1,Bp⟩;simp[intOf];omega
   ·have hS1:∀W,AA6 wr W->Calls prog 176 #[.slice g vs.length j,.slice g' vs'.length j'] W fun e w'=>e=.returned (.bool false)/\AA6 W w':=fun W hW=>(hS W hW).mono fun _ _ h=>⟨h.1.no e2,h.2⟩;have hne:=Wx (hM2.out e2);clear hS hN hM1 hM2 e2;go_wp2;refine AO (S:=fun _ v=>AA6 wr v) rfl (by kernel_rfl) BJ ?_;(iterate 29(first|(apply Ab.z rfl;intro L w1 _ _ _ z hK;(have x1:=AA z.s x1;have y1:=AA z.s y1;have c0:=AA z.s c0;have d0:=AA z.s d0;have c1:=AA z.s c1;have d1:=AA z.s d1);go_simp;exact hK (z.s);rfl)|(apply Ab.y rfl;intro L w1 _ _ z hK;go_simp;go_wp2_with((refine(hS1 _ z.s).mono ?_;rintro e w2 ⟨rfl,hb⟩));(try simp only[pE]);exact hK.out _ (AB z.s hb);rfl)));refine Ab.nil fun w4 Bb=>?_;have Bp:=AB hb6 Bb;clear BJ hS1 c0 c1 d0 d1 x1 y1 Bb;(go_wp2_with fail;go_ret;exact⟨Bj (hne.out),(Bp)⟩)
section
open Word Num Dp
theorem Uj(h0:AA6 w0 w)(hW:Words w0){p:Pg}{vp u4:Value}(hp:Cj w0 vp p u1 u2 u3 u4)(hr:Ky p)(hf:Q0 p):Calls prog 67 #[vp] w fun e w'=>(∃b:Bool,e=.returned (.bool b)/\(b=true->WH 5000000 p))/\AA6 w w':=by
 have hL:=fun W (hb:AA6 w0 W)=>YC hb hW hp hr hf;have hpp:=hp;obtain⟨rfl,hc,hg,hx,hfs⟩:=hp;obtain⟨p1,k1,rfl⟩:=hc.slice;obtain⟨p2,k2,rfl⟩:=hg.slice;obtain⟨p3,k3,rfl⟩:=hx.slice;obtain⟨p4,k4,rfl⟩:=hfs.slice;have hb1:=AJ w (.cells #[.bool p.ssa,.slice p1 p.cs.length k1,.slice p2 p.gs.length k2,.slice p3 p.xs.length k3,.slice p4 p.fs.length k4] 27);have hX:=Ae.alloc w [.bool p.ssa,.slice p1 p.cs.length k1,.slice p2 p.gs.length k2,.slice p3 p.xs.length k3,.slice p4 p.fs.length k4] 27;have hL1:=hL _ (AB h0 hb1);generalize p.cs.length=n1 at*;generalize p.gs.length=n2 at*;generalize p.xs.length=n3 at*;generalize p.fs.length=n4 at*;obtain⟨sa,hsa⟩:∃sa,sa=p.ssa:=⟨_,rfl⟩;rw[<-hsa]at hb1 hX hL1 hpp⊢;replace hsa:=Wx hsa;go_enter func67,ntmps67;go_wp2_with fail;refine hL1.mono ?_;rintro e w1 ⟨⟨s,rfl,hs⟩,hb2⟩;have hb3:=AB hb1 hb2;have hP:=Xv s hs (hW.kp (AB h0 hb3));replace hX:=hX.nx hb2;go_wp2_with fail;refine hP.mono ?_;rintro e w2 ⟨⟨v,n,why,rfl,⟨b,q1,q2,q3,q4,m1,c1,m2,c2,m3,c3,m4,c4,rfl⟩,hq⟩,hb4⟩;have hb5:=AB hb3 hb4;replace hX:=hX.nx hb4;have hb6:=AJ w2 (.cells #[.bool b,.slice q1 m1 c1,.slice q2 m2 c2,.slice q3 m3 c3,.slice q4 m4 c4] 27);have hY:=Ae.alloc w2 [.bool b,.slice q1 m1 c1,.slice q2 m2 c2,.slice q3 m3 c3,.slice q4 m4 c4] 27;have Ng:=hX.nx hb6;have BJ:=AB hb5 hb6;replace hq:=Wx hq;go_upto_region 2 with fail;generalize Cr:w2.alloc _=W at*;obtain⟨y0,y1,y2,y3,y4⟩:=hY.c5;obtain⟨x0,x1,x2,x3,x4⟩:=Ng.c5
 cases VK:(why==0)with
 |false=>
  go_wp2;go_ret
  exact⟨⟨_,rfl,fun h=>by cases h⟩,BJ⟩
 |true=>
  have hw0:why=0:=by simpa using VK
  obtain⟨q,_,_,_,_,hqv,hqq⟩:=hq.out hw0;have hS:=Xm (Below.refl W.heap.size W) (hpp.kp (AB h0 BJ)) (hqv.kp hb6);replace hqq:=Wx hqq;replace hw0:=Wx hw0;go_wp2_with fail;refine hS.mono ?_;rintro e w4 ⟨⟨r,rfl,hr1,-⟩,Bp⟩;replace hr1:=Wx hr1;go_wp2;go_ret;exact⟨⟨_,rfl,fun h=>by rw[hr1.out h];exact hqq.out⟩,AB BJ Bp⟩
end
def iU(s:ByteArray)(i:Is):Bool:= !(s.toList==[])&& (i.d.toList==s.toList)
def Q8(b:Bk)(n:Nat)(s:ByteArray):Bool:=(b.cs.take n).any (iU s)
def Zq(e:Ending):Prop:=∃b:Bool,e=.returned (.bool b)
theorem Ra(h0:AA6 w0 w)(hv:Qw w0 v x u1 u2 u3){n:Nat}(hn:n<=x.cs.length)(s:ByteArray):Calls prog 223 #[v,.int .i64 (n:Int),.string s] w fun e w'=>e=.returned (.bool (Q8 x n s))/\AA6 w w':=by
 obtain⟨rfl,-,hp,hc,ht⟩:=hv;obtain⟨p1,k1,rfl⟩:=hp.slice;obtain⟨p2,k2,rfl,-,⟨hn2,-⟩,hc⟩:=hc;obtain⟨p3,k3,rfl⟩:=ht.slice;clear hp ht;have hb1:=AJ w (.cells #[.string x.n,.slice p1 x.ps.length k1,.slice p2 x.cs.length k2,.int .i64 x.e.k,.int .i64 x.e.a.k,.string x.e.a.s,.int .i64 x.e.a.n,.slice p3 x.e.to.length k3,.int .i64 x.e.n] 82);have hX:=Ae.alloc w [.string x.n,.slice p1 x.ps.length k1,.slice p2 x.cs.length k2,.int .i64 x.e.k,.int .i64 x.e.a.k,.string x.e.a.s,.int .i64 x.e.a.n,.slice p3 x.e.to.length k3,.int .i64 x.e.n] 82;have x2:=hX.c 2 _ rfl;clear hX;obtain⟨R,hR⟩:∃R,R=Q8 x n s:=⟨_,rfl⟩;rw[<-hR];unfold Q8 at hR;have hln:(x.cs.take n).length=n:=by simp;omega
 have hR0:R=((x.cs.take n).drop 0).any (iU s):=by rw[List.drop_zero];exact hR
 replace hR0:=Wx hR0;replace hln:=Wx hln;clear hR;have hnI:(n:Int)<=x.cs.length:=by omega
 go_enter func223,ntmps223;go_wp2;generalize Cr:w.alloc _=W at*;go_loopw[7] (fun i wr=>∃q:Nat,q<=n/\i=.int .i64 (q:Int)/\Hid (R=((x.cs.take n).drop q).any (iU s))/\wr=W) (fun i _=>n-(intOf i).toNat);exact⟨0,AY,rfl,hR0,rfl⟩;obtain⟨q,hq,rfl,hR,rfl⟩:=hrel;by_cases hend:q=n
 ·subst hend;have hR:=hR.out;rw[List.drop_of_length_le (by rw[hln.out];omega)]at hR;obtain rfl:R=false:=hR;go_wp2;go_ret;exact⟨rfl,hb1⟩
 ·have hlt:q<n:=by omega
  have A8:(q:Int)<n:=by omega
  have hlx:q<x.cs.length:=by omega
  have AJY:(q:Int)<x.cs.length:=by omega
  have hR:=hR.out;rw[List.drop_eq_getElem_cons (by rw[hln.out];exact hlt),List.any_cons,List.getElem_take]at hR;obtain⟨a,rfl,-,⟨d1,-⟩,-⟩:=hc q x.cs[q] (by simp[hlx]);replace d1:=AA (AB h0 hb1) d1;have hP:iU s x.cs[q]=(!(s.toList==[])&& (x.cs[q].d.toList==s.toList)):=rfl;rw[hP]at hR;clear hP;generalize x.cs[q].d=d at*;clear hc
  cases e1:(s.toList==[])with
  |true=>
   rw[e1,Bool.not_true,Bool.false_and,Bool.false_or]at hR;replace hR:=Wx hR;go_wp2;go_roundw;exact⟨q+1,hlt,by go_num,hR,trivial⟩
   simp[intOf];omega
  |false=>
   cases e2:(d.toList==s.toList)with
   |true=>
    rw[e1,e2]at hR;obtain rfl:R=true:=(by simpa using hR);obtain rfl:d=s:=Ic e2;clear e2 hR;go_wp2;go_ret
    exact⟨rfl,hb1⟩
   |false=>
    rw[e1,e2,Bool.and_false,Bool.false_or]at hR;replace hR:=Wx hR;go_wp2;go_roundw;exact⟨q+1,hlt,by go_num,hR,trivial⟩;simp[intOf];omega
theorem Xw(h0:AA6 w0 w){f:Fn}(hv:EL w0 v f u1 u2 u3)(s:ByteArray):Calls prog 242 #[v,.string s] w fun e w'=>Zq e/\AA6 w w':=by
 obtain⟨rfl,-,hp,hc,ht⟩:=hv;obtain⟨p1,k1,rfl,-,⟨hn2,-⟩,hp⟩:=hp;obtain⟨p2,k2,rfl⟩:=hc.slice;obtain⟨p3,k3,rfl⟩:=ht.slice;have hb1:=AJ w (.cells #[.string f.n,.string f.r,.slice p1 f.ps.length k1,.slice p2 f.vs.length k2,.slice p3 f.bs.length k3] 66);have hX:=Ae.alloc w [.string f.n,.string f.r,.slice p1 f.ps.length k1,.slice p2 f.vs.length k2,.slice p3 f.bs.length k3] 66;have x2:=hX.c 2 _ rfl;go_enter func242,ntmps242;go_wp2;generalize Cr:w.alloc _=W at*;go_loopw[5] (fun i wr=>∃q:Nat,q<=f.ps.length/\i=.int .i64 (q:Int)/\wr=W) (fun i _=>f.ps.length-(intOf i).toNat);exact⟨0,AY,rfl,rfl⟩;obtain⟨q,hq,rfl,rfl⟩:=hrel;by_cases hend:q=f.ps.length
 ·subst hend;go_wp2;go_ret;exact⟨⟨_,rfl⟩,hb1⟩
 ·have hlt:q<f.ps.length:=by omega
  have A8:(q:Int)<f.ps.length:=by omega
  obtain⟨a,rfl,⟨d1,-⟩,-⟩:=hp q f.ps[q] (by simp[hlt]);replace d1:=AA (AB h0 hb1) d1;generalize f.ps[q].n=d at*
  cases e2:(d.toList==s.toList)with
  |true=>
   go_wp2;go_ret
   exact⟨⟨_,rfl⟩,hb1⟩
  |false=>
   go_wp2;go_roundw;exact⟨q+1,by omega,by go_num,trivial⟩;simp[intOf];omega
theorem Vp(h0:AA6 w0 w)(hv:Qw w0 v x u1 u2 u3)(s:ByteArray):Calls prog 243 #[v,.string s] w fun e w'=>Zq e/\AA6 w w':=by
 obtain⟨rfl,-,hp,hc,ht⟩:=hv;obtain⟨p1,k1,rfl,-,⟨hn2,-⟩,hp⟩:=hp;obtain⟨p2,k2,rfl⟩:=hc.slice;obtain⟨p3,k3,rfl⟩:=ht.slice;have hb1:=AJ w (.cells #[.string x.n,.slice p1 x.ps.length k1,.slice p2 x.cs.length k2,.int .i64 x.e.k,.int .i64 x.e.a.k,.string x.e.a.s,.int .i64 x.e.a.n,.slice p3 x.e.to.length k3,.int .i64 x.e.n] 82);have hX:=Ae.alloc w [.string x.n,.slice p1 x.ps.length k1,.slice p2 x.cs.length k2,.int .i64 x.e.k,.int .i64 x.e.a.k,.string x.e.a.s,.int .i64 x.e.a.n,.slice p3 x.e.to.length k3,.int .i64 x.e.n] 82;have x1:=hX.c 1 _ rfl;go_enter func243,ntmps243;go_wp2;generalize Cr:w.alloc _=W at*;go_loopw[5] (fun i wr=>∃q:Nat,q<=x.ps.length/\i=.int .i64 (q:Int)/\wr=W) (fun i _=>x.ps.length-(intOf i).toNat);exact⟨0,AY,rfl,rfl⟩;obtain⟨q,hq,rfl,rfl⟩:=hrel;by_cases hend:q=x.ps.length
 ·subst hend;go_wp2;go_ret;exact⟨⟨_,rfl⟩,hb1⟩
 ·have hlt:q<x.ps.length:=by omega
  have A8:(q:Int)<x.ps.length:=by omega
  obtain⟨a,rfl,⟨d1,-⟩,-⟩:=hp q x.ps[q] (by simp[hlt]);replace d1:=AA (AB h0 hb1) d1;generalize x.ps[q].d=d at*
  cases e2:(d.toList==s.toList)with
  |true=>
   go_wp2;go_ret
   exact⟨⟨_,rfl⟩,hb1⟩
  |false=>
   go_wp2;go_roundw;exact⟨q+1,by omega,by go_num,trivial⟩;simp[intOf];omega
end Go.Proofs.YtlffomedflegdaaGreatDoor
