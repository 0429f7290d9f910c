/- Part 35 of 49 of the proof: Pb, Qa, Qb. -/
import Derived.Deep.CutBlock
import Derived.Test.YtlffomedflegdaaGreatDoorPz00
import Derived.Test.YtlffomedflegdaaGreatDoorPz28
import Derived.Test.YtlffomedflegdaaGreatDoorPz34
set_option linter.all false
set_option maxHeartbeats 16000000
set_option maxRecDepth 100000
namespace Go.Proofs.YtlffomedflegdaaGreatDoor
open Go.Proofs.Tryz
open Go.RowKit
variable {P:Prop}{v v':Value}{w w0:World}
section
open Word Num Dp
theorem GA{fn:Func}{p t u:Tmp}{ty:TypeId}(h:fn.results=#[.cell p ty,.tmp t,.tmp u])(tmps:Array Value)(P:Program)(w:World):(results fn tmps).run P w=((asAddr (tmps.getD p undef)).run P w).andThen fun a w₁=>((loadVar ty a).run P w₁).andThen fun v w₂=> .ok (.tuple #[v,tmps.getD t undef,tmps.getD u undef]) w₂:=by
 simp only[results,h];simp
structure FI(W:World)(p i:Nat)(zp cp:List Value)(L:Nat->Bool)(w:World):Prop where
 b:Below p W w
 k:∀r:Nat,r≠p->w.heap[r]? =W.heap[r]?
 x:Ae w p (if L i=true then cp else zp)
section
variable {W w w' : World} {p i : Nat} {zp cp : List Value} {L : Nat -> Bool}
theorem FI.start(b:Below p W w)(k:∀r:Nat,w.heap[r]? =W.heap[r]?)(hx:Ae w p zp):FI W p i zp cp (fun _=>false) w:=⟨b,fun r _=>k r,hx⟩
theorem FI.keep(h:FI W p i zp cp L w){m:Nat}(h1:(i==m)=false):FI W p i zp cp (upd L m) w:=⟨h.b,h.k,by rw[upd_ne h1];exact h.x⟩
theorem FI.cell(h:FI W p i zp cp L w){a:Addr}(hc:W.cell? a=some v)(h1:a.block≠p):w.cell? a=some v:=by
 rw[World.cell?_of_block (w:=W) (w':=w) (a:=a) (h.k a.block h1)];exact hc
theorem FI.px(h:FI W p i zp cp L w)(hi:L i=false):Ae w p zp:=by have:=h.x;rw[hi]at this;exact this
theorem FI.fill(h:FI W p i zp cp L w)(hb:Below p w w')(hk:∀r:Nat,r≠p->w'.heap[r]? =w.heap[r]?)(hx:Ae w' p cp):FI W p i zp cp (upd L i) w':=
 ⟨h.b.trans hb,fun r h1=>(hk r h1).trans (h.k r h1),by rw[Cc];exact hx⟩
theorem FI.done(h:FI W p i zp cp L w)(hi:L i=true):Ae w p cp:=by
 have h1:=h.x;grind
end
def oO(w':World)(e:Ending):Prop:=∃(v:Value) (n why:Int),e=.returned (.tuple #[v,.int .i64 n,.int .i64 why])/\
 (∃(b:Bool) (p1 p2 p3 p4:Option Addr) (n1 c1 n2 c2 n3 c3 n4 c4:Nat),v=.agg #[.bool b,.slice p1 n1 c1,.slice p2 n2 c2,.slice p3 n3 c3,.slice p4 n4 c4])/\
 (why=0->∃(q:Pg) (u1 u2 u3 u4:Value),Cj w' v q u1 u2 u3 u4/\WH 5000000 q)
theorem Mq{w':World}{n why:Int}(h:why≠0):oO w' (.returned (.tuple #[.agg #[.bool false,.slice none 0 0,.slice none 0 0,.slice none 0 0,.slice none 0 0],.int .i64 n,.int .i64 why])):=
 ⟨_,_,_,rfl,⟨_,_,_,_,_,_,_,_,_,_,_,_,_,rfl⟩,fun e=>absurd e h⟩
theorem kD(w:World):Ct (w.alloc (Obj.cells #[.bool false,.slice none 0 0,.slice none 0 0,.slice none 0 0,.slice none 0 0,.int .i64 0,.int .i64 0] 247)) w.heap.size (w.alloc (Obj.cells #[.bool false,.slice none 0 0,.slice none 0 0,.slice none 0 0,.slice none 0 0,.int .i64 0,.int .i64 0] 247)).heap.size w.heap.size ⟨false,[],[],[],[]⟩ 0 0 0:=
 have hx:=Ae.alloc w [.bool false,.slice none 0 0,.slice none 0 0,.slice none 0 0,.slice none 0 0,.int .i64 0,.int .i64 0] 247
 ⟨⟨AQ,by simp,AQ,_,Af.of (AP.ca (l:=[.cell (.bool false),.row 153 2 [],.row 71 2 [],.row 155 2 [],.row 66 5 []]) (AP.cc (hx.c 0 _ rfl) rfl (AP.cr (l:=[]) (hx.c 1 _ rfl) AZ.nil (AP.cr (l:=[]) (hx.c 2 _ rfl) AZ.nil (AP.cr (l:=[]) (hx.c 3 _ rfl) AZ.nil (AP.cr (l:=[]) (hx.c 4 _ rfl) AZ.nil AP.cn))))) (AP.cc (hx.c 5 _ rfl) rfl (AP.cc (hx.c 6 _ rfl) rfl AP.cn))),by simp,by simp⟩,
  ⟨_,heap_alloc_new w _⟩,⟨Rw.nil,Rw.nil,Rw.nil,Rw.nil⟩,⟨⟨by decide,by decide⟩,(fun h=>absurd h (by decide)),(fun h=>absurd h (by decide)),(fun h=>absurd h (by decide)),fun h=>absurd h (by decide)⟩,by decide,⟨by decide,by decide⟩⟩
theorem Ct.prog{w':World}{B N R:Nat}{q:Pg}{wh lg:Int}{k:Nat}(h:Ct w B N R q wh lg k)(hk:∀b,B<=b->w'.heap[b]? =w.heap[b]?):∃u1 u2 u3 u4,w.cell? ⟨R,0,none⟩=some (.bool q.ssa)/\w.cell? ⟨R,1,none⟩=some u1/\w.cell? ⟨R,2,none⟩=some u2/\w.cell? ⟨R,3,none⟩=some u3/\w.cell? ⟨R,4,none⟩=some u4/\Cj w' (.agg #[.bool q.ssa,u1,u2,u3,u4]) q u1 u2 u3 u4:=by
 obtain⟨fp,hL,-,-⟩:=h.own.t
 have hL':=hL.far (w1:=w') fun b hb=>hk b (by
  rcases hb with rfl|hb
  ·exact h.own.ge
  ·exact(hL.fp b hb).1)
 unfold IL at hL';obtain⟨_,_,h1,-⟩:=hL'.l.hd;obtain⟨u1,u2,u3,u4,c0,c1,c2,c3,c4,hv⟩:=vP (h.qq.o (AX h.kk (by decide))) h1;simp only[Nat.zero_add]at c1 c2 c3 c4;have e:∀i,w'.cell? ⟨R,i,none⟩=w.cell? ⟨R,i,none⟩:=fun i=>World.cell?_of_block (w:=w) (w':=w') (a:=⟨R,i,none⟩) (hk R h.own.ge);grind
theorem sM{rb:Nat}{b:Bool}{t:TypeId}(h:w.heap[rb]? =some (.cells #[.bool b,.slice none 0 0,.slice none 0 0,.slice none 0 0,.slice none 0 0] t (0,0))){a:Addr}{n:Int}(hc:w.cell? a=some (.int .i64 n)):a.block≠rb:=fun e=>by
 unfold World.cell? at hc;rw[e,h]at hc;dsimp only at hc;split at hc
 ·cases hc
 ·have:=Array.mem_of_getElem? hc;simp at this
theorem Xv(s:ByteArray)(hs:s.size<=1000000)(hW:Words w):Calls prog 122 #[.string s] w fun e w'=>oO w' e/\AA6 w w':=by
 have hal:=AJ w (.cells #[.bool false,.slice none 0 0,.slice none 0 0,.slice none 0 0,.slice none 0 0] 27);have hX:=Ae.alloc w [.bool false,.slice none 0 0,.slice none 0 0,.slice none 0 0,.slice none 0 0] 27;have hW1:=hW.kp hal;have hH:=heap_alloc_new w (.cells #[.bool false,.slice none 0 0,.slice none 0 0,.slice none 0 0,.slice none 0 0] 27);go_enter func122,ntmps122;go_upto_region 1 with fail;obtain⟨rb,hrb⟩:∃rb,w.heap.size=rb:=⟨_,rfl⟩;rw[hrb]at hal hX hH⊢;generalize Cr:w.alloc _=W1 at*;have hS:=Uc s hs W1;go_wp2_with fail;refine hS.mono ?_;rintro e w2 ⟨hb2,v,n,why,rfl,hy⟩;have hX2:=hX.nx hb2;have hW2:=hW1.kp hb2;have hlt2:=hX2.lt;have hH2:=(hb2.block rb hX.lt).trans hH;have hb:=hal.trans (hb2.mono (Nat.le_of_lt hX.lt))
 cases VK:(why !=0)with
 |true=>
  have hne:why≠0:=by simpa using VK
  obtain⟨x0,x1,x2,x3,x4⟩:=hX2.c5;obtain⟨f0,f1,f2,f3,f4⟩:=hX2.f5;have hbe:=hb.trans (Ay (Nat.le_refl rb) [.bool false,.slice none 0 0,.slice none 0 0,.slice none 0 0,.slice none 0 0] 0 w2);replace hne:=hidden hne;go_wp2;((try simp only[Exit.inBlock,Exit.then]);refine bodyPost_ret_by (v:=(.tuple #[.agg #[.bool false,.slice none 0 0,.slice none 0 0,.slice none 0 0,.slice none 0 0],.int .i64 n,.int .i64 why])) ((GA rfl _ _ _).trans (by go_simp;try rfl)) rfl ?_)
  exact⟨Mq hne.out,ABD hrb hbe⟩
 |false=>
 obtain rfl:why=0:=by simpa using VK
 obtain⟨L,hL,hLn,hLx⟩:=hy rfl;obtain⟨p,c,rfl⟩:=hL.slice;have hR:=kD w2;have hal:=AJ w2 (.cells #[.bool false,.slice none 0 0,.slice none 0 0,.slice none 0 0,.slice none 0 0,.int .i64 0,.int .i64 0] 247);go_wp2;generalize Cr:w2.alloc _=W3 at*;go_loopw[7,9] (fun y i wr=>∃(j:Nat) (y0:Int) (N:Nat) (q:Pg) (wh lg:Int),j<=L.length/\i=.int .i64 (j:Int)/\y=.int .i64 y0/\Ct wr w2.heap.size N w2.heap.size q wh lg (2*j)/\AA6 w2 wr) (fun _ i _=>L.length-(intOf i).toNat);exact⟨0,_,_,_,_,_,AY,rfl,rfl,hR,hal⟩;obtain⟨j,y0,N,q,wh,lg,hj,rfl,rfl,hR,hbr⟩:=hrel;have hXr:=hX2.below hlt2 hbr;have hb4:=hb.trans (hbr.mono (Nat.le_of_lt hlt2));by_cases hend:j=L.length
 ·subst hend;have hO:=Ey hR;obtain⟨x0,x1,x2,x3,x4⟩:=hXr.c5;obtain⟨f0,f1,f2,f3,f4⟩:=hXr.f5;go_wp2_with fail;refine hO.mono ?_;rintro e w5 ⟨⟨b,rfl,-⟩,rfl⟩;cases b
  ·have hbe:=hb4.trans (Ay (Nat.le_refl rb) [.bool false,.slice none 0 0,.slice none 0 0,.slice none 0 0,.slice none 0 0] 0 wr);go_wp2;((try simp only[Exit.inBlock,Exit.then]);refine bodyPost_ret_by (v:=(.tuple #[.agg #[.bool false,.slice none 0 0,.slice none 0 0,.slice none 0 0,.slice none 0 0],.int .i64 0,.int .i64 3])) ((GA rfl _ _ _).trans (by go_simp;try rfl)) rfl ?_);exact⟨Mq (by decide),ABD hrb hbe⟩
  ·obtain⟨v1,v2,v3,v4,c0,c1,c2,c3,c4,hv⟩:=hR.prog (w':=wr) fun _ _=>rfl;obtain⟨_,hv1,hv2,hv3,hv4⟩:=hv;obtain⟨p1,k1,rfl⟩:=hv1.slice;obtain⟨p2,k2,rfl⟩:=hv2.slice;obtain⟨p3,k3,rfl⟩:=hv3.slice;obtain⟨p4,k4,rfl⟩:=hv4.slice;have hbe:=hb4.trans (Ay (Nat.le_refl rb) [.bool q.ssa,.slice p1 q.cs.length k1,.slice p2 q.gs.length k2,.slice p3 q.xs.length k3,.slice p4 q.fs.length k4] 0 wr);obtain⟨u1,u2,u3,u4,d0,d1,d2,d3,d4,hu⟩:=hR.prog (w':=BZ wr rb 0 [.bool q.ssa,.slice p1 q.cs.length k1,.slice p2 q.gs.length k2,.slice p3 q.xs.length k3,.slice p4 q.fs.length k4]) fun b hb=>Bu (by omega) _ _ _;obtain rfl:u1=.slice p1 q.cs.length k1:=(by rw[c1]at d1;exact(Option.some.inj d1).symm);obtain rfl:u2=.slice p2 q.gs.length k2:=(by rw[c2]at d2;exact(Option.some.inj d2).symm);obtain rfl:u3=.slice p3 q.xs.length k3:=(by rw[c3]at d3;exact(Option.some.inj d3).symm);obtain rfl:u4=.slice p4 q.fs.length k4:=(by rw[c4]at d4;exact(Option.some.inj d4).symm);have hq:WH 5000000 q:=WH.up hR.kk hR.qq;go_wp2;((try simp only[Exit.inBlock,Exit.then]);refine bodyPost_ret_by (v:=(.tuple #[.agg #[.bool q.ssa,.slice p1 q.cs.length k1,.slice p2 q.gs.length k2,.slice p3 q.xs.length k3,.slice p4 q.fs.length k4],.int .i64 0,.int .i64 0])) ((GA rfl _ _ _).trans (by go_simp;try rfl)) rfl ?_);exact⟨⟨_,_,_,rfl,⟨_,_,_,_,_,_,_,_,_,_,_,_,_,rfl⟩,fun _=>⟨q,_,_,_,_,hu,hq⟩⟩,ABD hrb hbe⟩
 ·have hlt:j<L.length:=by omega
  have A8:(j:Int)<L.length:=by omega
  obtain⟨_,_,e,-,⟨hn1,-⟩,hat⟩:=hL;obtain⟨rfl,-,rfl⟩:=Value.slice.inj e;obtain⟨a,rfl,g0,u,g1,hu⟩:=hat j L[j] (by simp[hlt]);obtain⟨hx1,hx2⟩:=hLx L[j] (List.getElem_mem hlt);have AEc:∀fi,Calls prog 168 #[.pointer (some ⟨w2.heap.size,0,none⟩),u,.bool fi] wr fun e w'=>Wy w2.heap.size w2.heap.size (2*j+1) e w'/\Below w2.heap.size wr w':=fun fi=>
   dh hbr hW2 hR (AQ) (by omega) hu hx2 (List.length_pos_iff.2 hx1) fi
  have hna:=sM hH2 g0;have g2:=g0;replace g0:=AA hbr g0;replace g1:=AA hbr g1;generalize L[j].n=ln at*;go_wp2_with fail;refine(AEc _).mono ?_;rintro e w5 ⟨⟨why,rfl,hy⟩,hb5⟩;have jG:AA6 w2 w5:=hbr.trans hb5
  cases VK:(why !=0)with
  |true=>
   have hne:why≠0:=(by simpa using VK);have WO:=hX2.below hlt2 jG;have hb5:=hb.trans (jG.mono (Nat.le_of_lt hlt2));replace g2:=AA jG g2;replace hne:=hidden hne;go_wp2_with fail;refine AO (S:=FI w5 rb 7 [.bool false,.slice none 0 0,.slice none 0 0,.slice none 0 0,.slice none 0 0] [.bool false,.slice none 0 0,.slice none 0 0,.slice none 0 0,.slice none 0 0]) rfl (by kernel_rfl) (FI.start Ac (fun _=>rfl) WO.drew) ?_;(iterate 7((apply Ab.z rfl;intro L w1 _ _ _ z hK;(have e0:=z.s.cell g2 hna);go_simp;exact hK (z.s.keep rfl);rfl)));(refine Ab.step (a1:=?_) rfl (fun L w1 K' Q' hS hi hR hd hK=>?_) ?_ ?_;rotate_left)
   ·have hx:=hS.px hi;obtain⟨k0,k1,k2,k3,k4⟩:=hx.c5;obtain⟨z0,z1,z2,z3,z4⟩:=hx.f5;go_simp;exact hK.out _ (hS.fill (Ay (AQ) [.bool false,.slice none 0 0,.slice none 0 0,.slice none 0 0,.slice none 0 0] 0 w1) (fun r hr=>Bu hr [.bool false,.slice none 0 0,.slice none 0 0,.slice none 0 0,.slice none 0 0] 0 w1) (CK [.bool false,.slice none 0 0,.slice none 0 0,.slice none 0 0,.slice none 0 0] _ 0 w1 hx rfl))
   ·rfl
   (iterate 2((apply Ab.z rfl;intro L w1 _ _ _ z hK;go_simp;exact hK (z.s.keep rfl);rfl)));refine Ab.nil fun w6 hS=>?_;have Ng:=hS.done rfl;have hbe:=hb5.trans hS.b;obtain⟨x0,x1,x2,x3,x4⟩:=Ng.c5;go_wp2;((try simp only[Exit.inBlock,Exit.then]);refine bodyPost_ret_by (v:=(.tuple #[.agg #[.bool false,.slice none 0 0,.slice none 0 0,.slice none 0 0,.slice none 0 0],.int .i64 ln,.int .i64 why])) ((GA rfl _ _ _).trans (by go_simp;try rfl)) rfl ?_)
   exact⟨Mq hne.out,ABD hrb hbe⟩
  |false=>
   obtain rfl:why=0:=(by simpa using VK);obtain⟨N5,q5,wh5,lg5,CS⟩:=hy rfl;go_wp2;go_roundw;exact⟨j+1,_,_,_,_,_,hlt,by go_num,rfl,by rw[show 2*(j+1)=2*j+1+1 by omega];exact CS,jG⟩;simp[intOf];omega
end
def IC(P:Prop)(e:Ending):Prop:=∃b:Bool,e=.returned (.bool b)/\(b=true->P)/\(b=false->¬P)
theorem IC.yes{e:Ending}(h:IC P e)(p:P):e=.returned (.bool true):=by grind [IC]
theorem IC.no{e:Ending}(h:IC P e)(p:¬P):e=.returned (.bool false):=by grind [IC]
theorem Ir(p:P):IC P (.returned (.bool true)):=by grind [IC]
theorem Bj(p:¬P):IC P (.returned (.bool false)):=by grind [IC]
theorem Ic{s t:ByteArray}(h:(s.toList==t.toList)=true):s=t:=by
 have h:=eq_of_beq h;rw[ByteArray.toList_eq,ByteArray.toList_eq]at h;exact ByteArray.ext (Array.toList_inj.1 h)
def Qs(x y:Vr):Bool:=x.n.toList==y.n.toList&&x.t.toList==y.t.toList
def Qu(x y:Ex):Bool:=x.n.toList==y.n.toList&&x.k==y.k
def Gz(x y:Ag):Bool:=x.k==y.k&& (x.s.toList==y.s.toList&&x.n==y.n)
def Qv(x y:Bd):Bool:=x.n.toList==y.n.toList&&Gz x.a y.a
def Qt(x y:TH):Bool:=x.b.toList==y.b.toList&&Gz x.a y.a
theorem Yb(x:Vr):Qs x x=true:=by simp[Qs,Gz]
theorem lX{x y:Vr}(h:Qs x y=true):x=y:=by grind [Qs,Ic,cases Vr]
theorem Yd(x:Ex):Qu x x=true:=by simp[Qu,Gz]
theorem lZ{x y:Ex}(h:Qu x y=true):x=y:=by grind [Qu,Ic,cases Ex]
theorem PG(x:Ag):Gz x x=true:=by simp[Gz,Gz]
theorem Lp{x y:Ag}(h:Gz x y=true):x=y:=by grind [Gz,Ic,cases Ag]
theorem Ye(x:Bd):Qv x x=true:=by simp[Qv,Gz]
theorem lq{x y:Bd}(h:Qv x y=true):x=y:=by grind [Qv,Ic,Lp,cases Bd]
theorem Yc(x:TH):Qt x x=true:=by simp[Qt,Gz]
theorem lY{x y:TH}(h:Qt x y=true):x=y:=by grind [Qt,Ic,Lp,cases TH]
theorem AAl(s t s' t':ByteArray)(w:World):(Op.equalIn 10000 71 (.agg #[.string s,.string t]) (.agg #[.string s',.string t'])).run prog w=.ok (s.toList==s'.toList&&t.toList==t'.toList) w:=by
 have u9:=underlying9;have a9:=Tryz.isAgg9;have z9:=Tryz.sizeOf9;have hS:prog.underlying 71=some (.struct (prog.fieldsOf 71)):=by kernel_rfl
 have hp:prog.stoodInHeld 71=false:=by kernel_rfl
 rw[show(10000:Nat)=9999+1 from rfl,run_equalIn_agg w 9999 71 _ _ hS hp];simp only[Program.fieldsOf,underlying71];cases h1:(s.toList==s'.toList)<;>cases h2:(t.toList==t'.toList)<;>go_simp
theorem AAk(s s':ByteArray)(k k':Int)(w:World):(Op.equalIn 10000 155 (.agg #[.string s,.int .i64 k]) (.agg #[.string s',.int .i64 k'])).run prog w=.ok (s.toList==s'.toList&&k==k') w:=by
 have u9:=underlying9;have a9:=Tryz.isAgg9;have z9:=Tryz.sizeOf9;have u3:=underlying3;have a3:=Tryz.isAgg3;have z3:=Tryz.sizeOf3;have hS:prog.underlying 155=some (.struct (prog.fieldsOf 155)):=by kernel_rfl
 have hp:prog.stoodInHeld 155=false:=by kernel_rfl
 rw[show(10000:Nat)=9999+1 from rfl,run_equalIn_agg w 9999 155 _ _ hS hp];simp only[Program.fieldsOf,underlying155];cases h1:(s.toList==s'.toList)<;>cases h2:(k==k')<;>go_simp
theorem P8{k:Nat}(a b a' b':Int)(s s':ByteArray)(w:World):(Op.equalIn (k+1+1) 77 (.agg #[.int .i64 a,.string s,.int .i64 b]) (.agg #[.int .i64 a',.string s',.int .i64 b'])).run prog w=.ok (a==a'&& (s.toList==s'.toList&&b==b')) w:=by
 have u3:=underlying3;have u9:=underlying9;have u2:=underlying2;have a3:=Tryz.isAgg3;have z3:=Tryz.sizeOf3;have a9:=Tryz.isAgg9;have z9:=Tryz.sizeOf9;have a2:=Tryz.isAgg2;have z2:=Tryz.sizeOf2;have hS:prog.underlying 77=some (.struct (prog.fieldsOf 77)):=by kernel_rfl
 have hp:prog.stoodInHeld 77=false:=by kernel_rfl
 rw[run_equalIn_agg w (k+1) 77 _ _ hS hp];simp only[Program.fieldsOf,underlying77];cases h1:(a==a')<;>cases h2:(s.toList==s'.toList)<;>cases h3:(b==b')<;>go_simp
theorem AAm(n n':ByteArray)(a b a' b':Int)(s s':ByteArray)(w:World):(Op.equalIn 10000 234 (.agg #[.string n,.int .i64 a,.string s,.int .i64 b]) (.agg #[.string n',.int .i64 a',.string s',.int .i64 b'])).run prog w=.ok (n.toList==n'.toList&& (a==a'&& (s.toList==s'.toList&&b==b'))) w:=by
 have hE:=fun w=>P8 (k:=9997) a b a' b' s s' w;have u9:=underlying9;have a9:=Tryz.isAgg9;have z9:=Tryz.sizeOf9;have a2:=Tryz.isAgg77;have z2:=Tryz.sizeOf77;have hS:prog.underlying 234=some (.struct (prog.fieldsOf 234)):=by kernel_rfl
 have hp:prog.stoodInHeld 234=false:=by kernel_rfl
 rw[show(10000:Nat)=9999+1 from rfl,run_equalIn_agg w 9999 234 _ _ hS hp];simp only[Program.fieldsOf,underlying234];generalize(a==a'&& (s.toList==s'.toList&&b==b'))=c at*;cases h1:(n.toList==n'.toList)<;>cases c<;>go_simp
theorem tV(n n':ByteArray)(a b a' b':Int)(s s':ByteArray)(w:World):(Op.equalIn 10000 213 (.agg #[.string n,.int .i64 a,.string s,.int .i64 b]) (.agg #[.string n',.int .i64 a',.string s',.int .i64 b'])).run prog w=.ok (n.toList==n'.toList&& (a==a'&& (s.toList==s'.toList&&b==b'))) w:=by
 have hE:=fun w=>P8 (k:=9997) a b a' b' s s' w;have u9:=underlying9;have a9:=Tryz.isAgg9;have z9:=Tryz.sizeOf9;have a2:=Tryz.isAgg77;have z2:=Tryz.sizeOf77;have hS:prog.underlying 213=some (.struct (prog.fieldsOf 213)):=by kernel_rfl
 have hp:prog.stoodInHeld 213=false:=by kernel_rfl
 rw[show(10000:Nat)=9999+1 from rfl,run_equalIn_agg w 9999 213 _ _ hS hp];simp only[Program.fieldsOf,underlying213];generalize(a==a'&& (s.toList==s'.toList&&b==b'))=c at*;cases h1:(n.toList==n'.toList)<;>cases c<;>go_simp
theorem I5(h0:AA6 w0 w){l l':List Vr}(hl:Row IU 2 w0 v l)(hl':Row IU 2 w0 v' l'):Calls prog 176 #[v,v'] w fun e w'=>IC (l=l') e/\AA6 w w':=by
 obtain⟨p,cu,rfl,-,hn,hl⟩:=hl;obtain⟨p',Nh,rfl,-,-,hl'⟩:=hl'
 cases hlen:((l.length:Int) !=(l'.length:Int))with
 |true=>
  go_enter func176,ntmps176;go_wp2;go_ret
  exact⟨Bj fun e=>by rw[e]at hlen;simp at hlen,AL⟩
 |false=>
 have hle:l.length=l'.length:=by
  have:(l.length:Int)=l'.length:=by simpa using hlen
  omega
 rw[<-hle];replace hle:=hidden hle;go_enter func176,ntmps176;go_wp2;go_loopw[5] (fun i wr=>∃q:Nat,q<=l.length/\i=.int .i64 (q:Int)/\Hid (l.take q=l'.take q)/\AA6 w wr) (fun i _=>l.length-(intOf i).toNat);exact⟨0,AY,rfl,hidden (by simp),AL⟩;obtain⟨q,hq,rfl,hT,hb⟩:=hrel;by_cases hend:q=l.length
 ·subst hend;have hT:=hT.out;rw[List.take_length,hle.out,List.take_length]at hT;replace hT:=hidden hT;go_wp2;go_ret;exact⟨Ir hT.out,hb⟩
 ·have hlt:q<l.length:=by omega
  have hlt':q<l'.length:=by have:=hle.out;omega
  have A8:(q:Int)<l.length:=by omega
  obtain⟨a,rfl,⟨c0,-⟩,c1,-⟩:=hl q l[q] (by simp[hlt]);obtain⟨a',rfl,⟨d0,-⟩,d1,-⟩:=hl' q l'[q] (by simp[hlt']);have c0:=AA (AB h0 hb) c0;have c1:=AA (AB h0 hb) c1;have d0:=AA (AB h0 hb) d0;have d1:=AA (AB h0 hb) d1;have hN:Qs l[q] l'[q]=true->l.take (q+1)=l'.take (q+1):=fun h=>by
   rw[List.take_succ_eq_append_getElem hlt,List.take_succ_eq_append_getElem hlt',hT.out,lX h]
  have hM:Qs l[q] l'[q]=false->l≠l':=fun h e=>by
   subst e;rw[Yb]at h;cases h
  have hE:∀w,(Op.equalIn 10000 71 (.agg #[.string l[q].n,.string l[q].t]) (.agg #[.string l'[q].n,.string l'[q].t])).run prog w=.ok (Qs l[q] l'[q]) w:=fun w=>AAl _ _ _ _ w;generalize Qs l[q] l'[q]=b at*;replace hN:=hidden hN;replace hM:=hidden hM;generalize l[q].n=s at*;generalize l[q].t=t at*;generalize l'[q].n=s' at*;generalize l'[q].t=t' at*;go_wp2_with fail;refine AO (S:=fun _ v=>v=wr.drew) rfl (by kernel_rfl) rfl ?_;iterate 9((apply Ab.z rfl;intro L w1 _ _ _ z hK;have hS:=z.s;(subst hS);go_simp;exact hK (rfl);rfl))
  refine Ab.nil fun w4 Bb=>?_;subst Bb;cases b
  ·go_wp2;go_ret;exact⟨Bj (hM.out (by trivial)),hb.drew⟩
  ·go_wp2;go_roundw;exact⟨q+1,by omega,by go_num,hidden (hN.out (by trivial)),hb.drew⟩;simp[intOf];omega
theorem Od(h0:AA6 w0 w){l l':List Ag}(hl:Row Lg 3 w0 v l)(hl':Row Lg 3 w0 v' l'):Calls prog 247 #[v,v'] w fun e w'=>IC (l=l') e/\AA6 w w':=by
 obtain⟨p,cu,rfl,-,hn,hl⟩:=hl;obtain⟨p',Nh,rfl,-,-,hl'⟩:=hl'
 cases hlen:((l.length:Int) !=(l'.length:Int))with
 |true=>
  go_enter func247,ntmps247;go_wp2;go_ret
  exact⟨Bj fun e=>by rw[e]at hlen;simp at hlen,AL⟩
 |false=>
 have hle:l.length=l'.length:=by
  have:(l.length:Int)=l'.length:=by simpa using hlen
  omega
 rw[<-hle];replace hle:=hidden hle;go_enter func247,ntmps247;go_wp2;go_loopw[5] (fun i wr=>∃q:Nat,q<=l.length/\i=.int .i64 (q:Int)/\Hid (l.take q=l'.take q)/\AA6 w wr) (fun i _=>l.length-(intOf i).toNat);exact⟨0,AY,rfl,hidden (by simp),AL⟩;obtain⟨q,hq,rfl,hT,hb⟩:=hrel;by_cases hend:q=l.length
 ·subst hend;have hT:=hT.out;rw[List.take_length,hle.out,List.take_length]at hT;replace hT:=hidden hT;go_wp2;go_ret;exact⟨Ir hT.out,hb⟩
 ·have hlt:q<l.length:=by omega
  have hlt':q<l'.length:=by have:=hle.out;omega
  have A8:(q:Int)<l.length:=by omega
  obtain⟨a,rfl,c0,⟨c1,-⟩,c2⟩:=hl q l[q] (by simp[hlt]);obtain⟨a',rfl,d0,⟨d1,-⟩,d2⟩:=hl' q l'[q] (by simp[hlt']);have c0:=AA (AB h0 hb) c0;have c1:=AA (AB h0 hb) c1;have c2:=AA (AB h0 hb) c2;have d0:=AA (AB h0 hb) d0;have d1:=AA (AB h0 hb) d1;have d2:=AA (AB h0 hb) d2;have hN:Gz l[q] l'[q]=true->l.take (q+1)=l'.take (q+1):=fun h=>by
   rw[List.take_succ_eq_append_getElem hlt,List.take_succ_eq_append_getElem hlt',hT.out,Lp h]
  have hM:Gz l[q] l'[q]=false->l≠l':=fun h e=>by
   subst e;rw[PG]at h;cases h
  have hE:∀w,(Op.equalIn 10000 77 (.agg #[.int .i64 l[q].k,.string l[q].s,.int .i64 l[q].n]) (.agg #[.int .i64 l'[q].k,.string l'[q].s,.int .i64 l'[q].n])).run prog w=.ok (Gz l[q] l'[q]) w:=fun w=>P8 (k:=9998) _ _ _ _ _ _ w;generalize Gz l[q] l'[q]=b at*;replace hN:=hidden hN;replace hM:=hidden hM;generalize l[q].k=k at*;generalize l[q].s=s at*;generalize l[q].n=n at*;generalize l'[q].k=k' at*;generalize l'[q].s=s' at*;generalize l'[q].n=n' at*;go_wp2_with fail;refine AO (S:=fun _ v=>v=wr.drew) rfl (by kernel_rfl) rfl ?_;iterate 9((apply Ab.z rfl;intro L w1 _ _ _ z hK;have hS:=z.s;(subst hS);go_simp;exact hK (rfl);rfl))
  refine Ab.nil fun w4 Bb=>?_;subst Bb;cases b
  ·go_wp2;go_ret;exact⟨Bj (hM.out (by trivial)),hb.drew⟩
  ·go_wp2;go_roundw;exact⟨q+1,by omega,by go_num,hidden (hN.out (by trivial)),hb.drew⟩;simp[intOf];omega
theorem Cy{α:Type}{l l':List α}{q:Nat}(h:l.take q=l'.take q)(h1:q<l.length)(h2:q<l'.length)(e:l[q]=l'[q]):l.take (q+1)=l'.take (q+1):=by
 rw[List.take_succ_eq_append_getElem h1,List.take_succ_eq_append_getElem h2,h,e]
theorem Cz{α:Type}{l l':List α}(h:l.take l.length=l'.take l.length)(e:l.length=l'.length):l=l':=by grind
theorem Y4{s t:ByteArray}(h:(s.toList==t.toList)=true):s=t:=Ic h
theorem neI{a b:Int}(h:(a !=b)=false):a=b:=by simpa using h
theorem Y5{a b:Nat}(h:((a:Int) !=(b:Int))=false):a=b:=by grind
structure HdI(x y:Is):Prop where
 o:x.op=y.op
 d:x.d=y.d
 n:x.n=y.n
 a:x.as=y.as
 f:x.fr.length=y.fr.length
 v:x.ob.length=y.ob.length
structure jV(x y:Fr):Prop where
 f:x.f=y.f
 b:x.b=y.b
 i:x.i=y.i
 v:x.vs.length=y.vs.length
theorem HdI.eq{x y:Is}(h:HdI x y)(hf:x.fr=y.fr)(hv:x.ob=y.ob):x=y:=by grind [cases Is,cases HdI]
theorem jV.eq{x y:Fr}(h:jV x y)(hv:x.vs=y.vs):x=y:=by grind [cases Fr,cases jV]
theorem zH{x y:Vt}(h1:x.c=y.c)(h2:x.vs=y.vs):x=y:=by grind [cases Vt]
theorem Un(h0:AA6 w0 w){x y:Is}{u1 u2 u3:Value}(hv:Pv w0 v x u1 u2 u3){y1 y2 y3:Value}(hv':Pv w0 v' y y1 y2 y3):Calls prog 240 #[v,v'] w fun e w'=>IC (x=y) e/\AA6 w w':=by
 obtain⟨rfl,-,ha,hf,ho⟩:=hv;obtain⟨rfl,-,ha',hf',ho'⟩:=hv';have hA:=fun W (hW:AA6 w0 W)=>Od hW ha ha';obtain⟨p1,k1,rfl⟩:=ha.slice;obtain⟨q1,l1,rfl⟩:=ha'.slice;obtain⟨p2,k2,rfl,-,hn2,hf⟩:=hf;obtain⟨q2,l2,rfl,-,hm2,hf'⟩:=hf';obtain⟨p3,k3,rfl,-,QY,ho⟩:=ho;obtain⟨q3,l3,rfl,-,vG,ho'⟩:=ho';clear ha ha';have hb1:=AJ w (.cells #[.int .i64 x.op,.string x.d,.string x.n,.slice p1 x.as.length k1,.slice p2 x.fr.length k2,.slice p3 x.ob.length k3] 133);have hb2:=hb1.alloc hb1.size (.cells #[.int .i64 y.op,.string y.d,.string y.n,.slice q1 y.as.length l1,.slice q2 y.fr.length l2,.slice q3 y.ob.length l3] 133);have hX:=(Ae.alloc w [.int .i64 x.op,.string x.d,.string x.n,.slice p1 x.as.length k1,.slice p2 x.fr.length k2,.slice p3 x.ob.length k3] 133).al (.cells #[.int .i64 y.op,.string y.d,.string y.n,.slice q1 y.as.length l1,.slice q2 y.fr.length l2,.slice q3 y.ob.length l3] 133);have hY:=Ae.alloc (w.alloc (.cells #[.int .i64 x.op,.string x.d,.string x.n,.slice p1 x.as.length k1,.slice p2 x.fr.length k2,.slice p3 x.ob.length k3] 133)) [.int .i64 y.op,.string y.d,.string y.n,.slice q1 y.as.length l1,.slice q2 y.fr.length l2,.slice q3 y.ob.length l3] 133;have z1:(w.alloc (.cells #[.int .i64 x.op,.string x.d,.string x.n,.slice p1 x.as.length k1,.slice p2 x.fr.length k2,.slice p3 x.ob.length k3] 133)).heap.size=w.heap.size+1:=by simp
 rw[z1]at hY;clear hb1 z1;go_enter func240,ntmps240;go_upto_region 1 with fail;generalize Cr:(w.alloc _).alloc _=W at*;clear Cr;go_cut[54]from 10 to 53 (fun v wx=>∃r:Bool,v=.bool r/\(r=false->HdI x y)/\(r=true->x≠y)/\AA6 W wx)
 ·have hA1:=hA _ (AB h0 hb2);obtain⟨a0,a1,a2,a3⟩:=hX.c4;obtain⟨b0,b1,b2,b3⟩:=hY.c4;clear hf hf' ho ho' hA hn2 hm2 QY vG
  cases e1:((x.op:Int) !=y.op)with
  |true=>(go_wp2_with fail;go_meet;(case rel=>exact⟨_,rfl,(fun h=>by cases h),(fun _=>(fun e=>by rw[e]at e1;simp at e1)),(AL)⟩))
  |false=>
  cases e2:(x.d.toList==y.d.toList)with
  |false=>(go_wp2_with fail;go_meet;(case rel=>exact⟨_,rfl,(fun h=>by cases h),(fun _=>(fun e=>by rw[e]at e2;simp at e2)),(AL)⟩))
  |true=>
  cases e3:(x.n.toList==y.n.toList)with
  |false=>(go_wp2_with fail;go_meet;(case rel=>exact⟨_,rfl,(fun h=>by cases h),(fun _=>(fun e=>by rw[e]at e3;simp at e3)),(AL)⟩))
  |true=>
  go_wp2_with fail;refine hA1.mono ?_;rintro e w1 ⟨⟨r,rfl,hr,hr'⟩,hb3⟩;replace hr:=hidden hr;replace hr':=hidden hr';clear hA1;cases r
  ·(go_wp2_with fail;go_meet;(case rel=>exact⟨_,rfl,(fun h=>by cases h),(fun _=>(fun e=>hr'.out (by trivial) (by rw[e]))),(hb3)⟩))
  have hX1:=hX.nx hb3;have nG:=hY.nx hb3;obtain⟨-,-,-,-,a4,a5⟩:=hX1.c6;obtain⟨-,-,-,-,b4,b5⟩:=nG.c6;clear hX hY
  cases e5:((x.fr.length:Int) !=(y.fr.length:Int))with
  |true=>(go_wp2_with fail;go_meet;(case rel=>exact⟨_,rfl,(fun h=>by cases h),(fun _=>(fun e=>by rw[e]at e5;simp at e5)),(hb3)⟩))
  |false=>
  cases e6:((x.ob.length:Int) !=(y.ob.length:Int))with
  |true=>(go_wp2_with fail;go_meet;(case rel=>exact⟨_,rfl,(fun h=>by cases h),(fun _=>(fun e=>by rw[e]at e6;simp at e6)),(hb3)⟩))
  |false=>
  have hH:HdI x y:=⟨neI e1,Y4 e2,Y4 e3,hr.out (by trivial),Y5 e5,Y5 e6⟩;go_wp2;go_meet;exact⟨_,rfl,(fun _=>hH),(fun h=>by cases h),hb3⟩
 obtain⟨r,rfl,hr,hr',hb3⟩:=hcut;obtain⟨w1,rfl⟩:∃w1:World,w1=wc:=⟨_,rfl⟩;have hb4:=AB hb2 hb3;replace hX:=hX.nx hb3;replace hY:=hY.nx hb3;clear hb2 hb3;cases r;rotate_left
 ·have hne:=hidden (hr' rfl);clear hr hr' hf hf' ho ho' hA;(go_wp2_with fail;go_ret;exact⟨Bj (hne.out),(hb4)⟩)
 have hH:=hr rfl;clear hr hr';have hfl:=hidden hH.f;have hvl:=hidden hH.v;go_wp2;go_loopw[5] (fun i wr=>∃q:Nat,q<=x.fr.length/\i=.int .i64 (q:Int)/\Hid (x.fr.take q=y.fr.take q)/\AA6 w1 wr) (fun i _=>x.fr.length-(intOf i).toNat);exact⟨0,AY,rfl,hidden (by simp),AL⟩;obtain⟨q,hq,rfl,hT,hb⟩:=hrel;have hX:=hX.nx hb;have hY:=hY.nx hb;obtain⟨-,-,-,-,x4,x5⟩:=hX.c6;obtain⟨-,-,-,-,y4,y5⟩:=hY.c6;have hb5:=AB hb4 hb;by_cases hend:q=x.fr.length
 ·subst hend;have hFF:x.fr=y.fr:=Cz hT.out hfl.out;replace hFF:=hidden hFF;clear hf hf' hb hb4 hT;go_wp2;clear x4 y4 x5 y5;obtain⟨wo,rfl⟩:∃wo:World,wo=wr:=⟨_,rfl⟩;go_loopw[9] (fun i wr=>∃q:Nat,q<=x.ob.length/\i=.int .i64 (q:Int)/\Hid (x.ob.take q=y.ob.take q)/\AA6 wo wr) (fun i _=>x.ob.length-(intOf i).toNat);exact⟨0,AY,rfl,hidden (by simp),AL⟩;obtain⟨q,hq,rfl,hT,hb⟩:=hrel;have hX:=hX.nx hb;have hY:=hY.nx hb;have x5:=hX.c 5 _ rfl;have y5:=hY.c 5 _ rfl;have hb6:=AB hb5 hb;clear hX hY;by_cases hend:q=x.ob.length
  ·subst hend;have TK:x=y:=hH.eq hFF.out (Cz hT.out hvl.out);replace TK:=hidden TK;clear ho ho' hb hb5 hT hA;go_wp2;go_ret;exact⟨Ir TK.out,hb6⟩
  ·have hlt:q<x.ob.length:=(by omega);have A8:(q:Int)<x.ob.length:=(by omega);have hlt':q<y.ob.length:=(by have:=hvl.out;omega);have JJ:(q:Int)<y.ob.length:=(by omega);obtain⟨a,rfl,⟨c0,-⟩,m,c1,r⟩:=ho q x.ob[q] (by simp[hlt]);obtain⟨a',rfl,⟨d0,-⟩,m',d1,r'⟩:=ho' q y.ob[q] (by simp[hlt']);have c0:=AA (AB h0 hb6) c0;have c1:=AA (AB h0 hb6) c1;have d0:=AA (AB h0 hb6) d0;have d1:=AA (AB h0 hb6) d1;have hS:=fun W (hW:AA6 wr W)=>Od (AB (AB h0 hb6) hW) r r';have hN:x.ob[q].c=y.ob[q].c->x.ob[q].vs=y.ob[q].vs->x.ob.take (q+1)=y.ob.take (q+1):=fun h1 h2=>Cy hT.out hlt hlt' (zH h1 h2);have hM1:x.ob[q].c≠y.ob[q].c->x≠y:=fun h e=>by
    subst e;exact h rfl
   have hM2:x.ob[q].vs≠y.ob[q].vs->x≠y:=fun h e=>by
    subst e;exact h rfl
   obtain⟨g,j,rfl⟩:=r.slice;obtain⟨g',j',rfl⟩:=r'.slice;clear ho ho' r r' hA hT;generalize x.ob[q].c=s at*;generalize x.ob[q].vs=vs at*;generalize y.ob[q].c=s' at*;generalize y.ob[q].vs=vs' at*;replace hN:=hidden hN;replace hM1:=hidden hM1;replace hM2:=hidden hM2;have BJ:=(Below.refl wr.heap.size wr).drew
   cases e1:(s.toList==s'.toList)with
   |false=>
    go_wp2_with fail;refine AO (S:=fun _ v=>AA6 wr v) rfl (by kernel_rfl) BJ ?_;(iterate 29(first|(apply Ab.z rfl;intro L w1 _ _ _ z hK;(have x5:=AA z.s x5;have y5:=AA z.s y5;have c0:=AA z.s c0;have d0:=AA z.s d0;have c1:=AA z.s c1;have d1:=AA z.s d1);go_simp;exact hK (z.s);rfl)|(refine Ab.skip rfl (fun L w1 hS hi=>(hS)) ?_;(try simp only[pE]))));refine Ab.nil fun w4 Bb=>?_;have Bp:=AB hb6 Bb;have hne:=hidden (hM1.out fun e=>by rw[e]at e1;simp at e1);clear BJ c0 c1 d0 d1 x5 y5 Bb
    (go_wp2_with fail;go_ret;exact⟨Bj (hne.out),(Bp)⟩)
   |true=>
    have qD:=hidden (Y4 e1);by_cases e2:vs=vs'
    ·have hS1:∀W,AA6 wr W->Calls prog 247 #[.slice g vs.length j,.slice g' vs'.length j'] W fun e w'=>e=.returned (.bool true)/\AA6 W w':=fun W hW=>(hS W hW).mono fun _ _ h=>⟨h.1.yes e2,h.2⟩;have hN1:=hidden (hN.out qD.out e2);clear hS hN hM1 hM2 e2;go_wp2_with fail;refine AO (S:=fun _ v=>AA6 wr v) rfl (by kernel_rfl) BJ ?_;(iterate 29(first|(apply Ab.z rfl;intro L w1 _ _ _ z hK;(have x5:=AA z.s x5;have y5:=AA z.s y5;have c0:=AA z.s c0;have d0:=AA z.s d0;have c1:=AA z.s c1;have d1:=AA z.s d1);go_simp;exact hK (z.s);rfl)|(apply Ab.y rfl;intro L w1 _ _ z hK;go_simp;go_wp2_with((refine(hS1 _ z.s).mono ?_;rintro e w2 ⟨rfl,hb⟩));(try simp only[pE]);exact hK.out _ (AB z.s hb);rfl)));refine Ab.nil fun w4 Bb=>?_;have Bp:=AB hb Bb;clear BJ hS1 c0 c1 d0 d1 x5 y5 Bb;go_wp2;go_roundw;exact⟨q+1,by omega,by go_num,hN1,Bp⟩;simp[intOf];omega
    ·have hS1:∀W,AA6 wr W->Calls prog 247 #[.slice g vs.length j,.slice g' vs'.length j'] W fun e w'=>e=.returned (.bool false)/\AA6 W w':=fun W hW=>(hS W hW).mono fun _ _ h=>⟨h.1.no e2,h.2⟩;have hne:=hidden (hM2.out e2);clear hS hN hM1 hM2 e2;go_wp2_with fail;refine AO (S:=fun _ v=>AA6 wr v) rfl (by kernel_rfl) BJ ?_;(iterate 29(first|(apply Ab.z rfl;intro L w1 _ _ _ z hK;(have x5:=AA z.s x5;have y5:=AA z.s y5;have c0:=AA z.s c0;have d0:=AA z.s d0;have c1:=AA z.s c1;have d1:=AA z.s d1);go_simp;exact hK (z.s);rfl)|(apply Ab.y rfl;intro L w1 _ _ z hK;go_simp;go_wp2_with((refine(hS1 _ z.s).mono ?_;rintro e w2 ⟨rfl,hb⟩));(try simp only[pE]);exact hK.out _ (AB z.s hb);rfl)));refine Ab.nil fun w4 Bb=>?_;have Bp:=AB hb6 Bb;clear BJ hS1 c0 c1 d0 d1 x5 y5 Bb;(go_wp2_with fail;go_ret;exact⟨Bj (hne.out),(Bp)⟩)
 ·have hlt:q<x.fr.length:=by omega
  have A8:(q:Int)<x.fr.length:=by omega
  have hlt':q<y.fr.length:=by have:=hfl.out;omega
  have JJ:(q:Int)<y.fr.length:=by omega
  obtain⟨a,rfl,⟨c0,-⟩,⟨c1,-⟩,c2,m,c3,r⟩:=hf q x.fr[q] (by simp[hlt]);obtain⟨a',rfl,⟨d0,-⟩,⟨d1,-⟩,d2,m',d3,r'⟩:=hf' q y.fr[q] (by simp[hlt']);have c0:=AA (AB h0 hb5) c0;have c1:=AA (AB h0 hb5) c1;have c2:=AA (AB h0 hb5) c2;have c3:=AA (AB h0 hb5) c3;have d0:=AA (AB h0 hb5) d0;have d1:=AA (AB h0 hb5) d1;have d2:=AA (AB h0 hb5) d2;have d3:=AA (AB h0 hb5) d3;have hN:x.fr[q]=y.fr[q]->x.fr.take (q+1)=y.fr.take (q+1):=fun h=>Cy hT.out hlt hlt' h;have hM:x.fr[q]≠y.fr[q]->x≠y:=fun h e=>by
   subst e;exact h rfl
  clear ho ho' hf hf' hA hX hY hT hH;generalize x.fr[q]=m1 at*;generalize y.fr[q]=m2 at*;replace hN:=hidden hN;replace hM:=hidden hM;obtain⟨p7,k7,rfl,-,hn7,r⟩:=r;obtain⟨q7,l7,rfl,-,WM,r'⟩:=r';have hb6:=AJ wr (.cells #[.string m1.f,.string m1.b,.int .i64 m1.i,.slice p7 m1.vs.length k7] 232);have BJ:=hb6.alloc hb6.size (.cells #[.string m2.f,.string m2.b,.int .i64 m2.i,.slice q7 m2.vs.length l7] 232);have hP:=(Ae.alloc wr [.string m1.f,.string m1.b,.int .i64 m1.i,.slice p7 m1.vs.length k7] 232).al (.cells #[.string m2.f,.string m2.b,.int .i64 m2.i,.slice q7 m2.vs.length l7] 232);have hQ:=Ae.alloc (wr.alloc (.cells #[.string m1.f,.string m1.b,.int .i64 m1.i,.slice p7 m1.vs.length k7] 232)) [.string m2.f,.string m2.b,.int .i64 m2.i,.slice q7 m2.vs.length l7] 232;have z2:(wr.alloc (.cells #[.string m1.f,.string m1.b,.int .i64 m1.i,.slice p7 m1.vs.length k7] 232)).heap.size=wr.heap.size+1:=by simp
  rw[z2]at hQ;have x4':=fun o=>AA (AJ wr o) x4;have y4':=fun o=>AA (AJ wr o) y4;have d0':=fun o=>AA (AJ wr o) d0;have d1':=fun o=>AA (AJ wr o) d1;have d2':=fun o=>AA (AJ wr o) d2;have d3':=fun o=>AA (AJ wr o) d3;clear hb6 z2;go_upto_region 8 with fail;generalize Cr:(wr.alloc _).alloc _=W2 at*;go_cut[99]from 72 to 98 (fun v wx=>∃r:Bool,v=.bool r/\(r=false->jV m1 m2)/\(r=true->m1≠m2)/\wx=W2)
  ·obtain⟨a0,a1,a2,a3⟩:=hP.c4;obtain⟨b0,b1,b2,b3⟩:=hQ.c4
   cases e1:(m1.f.toList==m2.f.toList)with
   |false=>(go_wp2_with fail;go_meet;(case rel=>exact⟨_,rfl,(fun h=>by cases h),(fun _=>(fun e=>by rw[e]at e1;simp at e1)),(rfl)⟩))
   |true=>
   cases e2:(m1.b.toList==m2.b.toList)with
   |false=>(go_wp2_with fail;go_meet;(case rel=>exact⟨_,rfl,(fun h=>by cases h),(fun _=>(fun e=>by rw[e]at e2;simp at e2)),(rfl)⟩))
   |true=>
   cases e3:((m1.i:Int) !=m2.i)with
   |true=>(go_wp2_with fail;go_meet;(case rel=>exact⟨_,rfl,(fun h=>by cases h),(fun _=>(fun e=>by rw[e]at e3;simp at e3)),(rfl)⟩))
   |false=>
   cases e4:((m1.vs.length:Int) !=(m2.vs.length:Int))with
   |true=>(go_wp2_with fail;go_meet;(case rel=>exact⟨_,rfl,(fun h=>by cases h),(fun _=>(fun e=>by rw[e]at e4;simp at e4)),(rfl)⟩))
   |false=>
   have hH2:jV m1 m2:=⟨Y4 e1,Y4 e2,neI e3,Y5 e4⟩;go_wp2;go_meet;exact⟨_,rfl,(fun _=>hH2),(fun h=>by cases h),rfl⟩
  obtain⟨r0,rfl,hr,hr',rfl⟩:=hcut;obtain⟨W,rfl⟩:∃W:World,W=wc:=⟨_,rfl⟩;have hbW:=AB hb BJ;have J9:=AB hb5 BJ;cases r0;rotate_left
  ·have hne:=hidden (hM.out (hr' rfl));(go_wp2_with fail;go_ret;exact⟨Bj (hne.out),(J9)⟩)
  have hH2:=hr rfl;have hml:=hidden hH2.v;go_wp2;obtain⟨wo,rfl⟩:∃wo:World,wo=wr:=⟨_,rfl⟩;go_loopw[8] (fun i wr=>∃q:Nat,q<=m1.vs.length/\i=.int .i64 (q:Int)/\Hid (m1.vs.take q=m2.vs.take q)/\AA6 W wr) (fun i _=>m1.vs.length-(intOf i).toNat);exact⟨0,AY,rfl,hidden (by simp),AL⟩;obtain⟨j,hj,rfl,hT,Bp⟩:=hrel;have hP:=hP.nx Bp;have hQ:=hQ.nx Bp;have x3:=hP.c 3 _ rfl;have y3:=hQ.c 3 _ rfl;by_cases hend:j=m1.vs.length
  ·subst hend;have hN1:=hidden (hN.out (hH2.eq (Cz hT.out hml.out)));have hbZ:=AB hbW Bp;go_wp2;go_roundw;exact⟨q+1,by omega,by go_num,hN1,hbZ⟩;simp[intOf];omega
  ·have hlt:j<m1.vs.length:=(by omega);have A8:(j:Int)<m1.vs.length:=(by omega);have hlt':j<m2.vs.length:=(by have:=hml.out;omega);have JJ:(j:Int)<m2.vs.length:=(by omega);obtain⟨b,rfl,⟨c0,-⟩,c1,⟨c2,-⟩,c3⟩:=r j m1.vs[j] (by simp[hlt]);obtain⟨b',rfl,⟨d0,-⟩,d1,⟨d2,-⟩,d3⟩:=r' j m2.vs[j] (by simp[hlt']);have hk:=AB h0 (AB J9 Bp);have c0:=AA hk c0;have c1:=AA hk c1;have c2:=AA hk c2;have c3:=AA hk c3;have d0:=AA hk d0;have d1:=AA hk d1;have d2:=AA hk d2;have d3:=AA hk d3;have hN1:Qv m1.vs[j] m2.vs[j]=true->m1.vs.take (j+1)=m2.vs.take (j+1):=fun h=>Cy hT.out hlt hlt' (lq h);have hM1:Qv m1.vs[j] m2.vs[j]=false->m1≠m2:=fun h e=>by
    subst e;rw[Ye]at h;cases h
   have hE:∀w,(Op.equalIn 10000 234 (.agg #[.string m1.vs[j].n,.int .i64 m1.vs[j].a.k,.string m1.vs[j].a.s,.int .i64 m1.vs[j].a.n]) (.agg #[.string m2.vs[j].n,.int .i64 m2.vs[j].a.k,.string m2.vs[j].a.s,.int .i64 m2.vs[j].a.n])).run prog w=.ok (Qv m1.vs[j] m2.vs[j]) w:=fun w=>AAm _ _ _ _ _ _ _ _ w;generalize Qv m1.vs[j] m2.vs[j]=bb at*;replace hN1:=hidden hN1;replace hM1:=hidden hM1;generalize m1.vs[j].n=t1 at*;generalize m1.vs[j].a.k=t2 at*;generalize m1.vs[j].a.s=t3 at*;generalize m1.vs[j].a.n=t4 at*;generalize m2.vs[j].n=t1' at*;generalize m2.vs[j].a.k=t2' at*;generalize m2.vs[j].a.s=t3' at*;generalize m2.vs[j].a.n=t4' at*;go_wp2_with fail;refine AO (S:=fun _ v=>v=wr.drew) rfl (by kernel_rfl) rfl ?_;(iterate 11((apply Ab.z rfl;intro L w1 _ _ _ z hK;have hS:=z.s;(subst hS);go_simp;exact hK (rfl);rfl)));refine Ab.nil fun w4 Bb=>?_;subst Bb;have Bp:=Bp.drew;have hbf:=AB J9 Bp;cases bb
   ·have hne:=hidden (hM.out (hM1.out (by trivial)));(go_wp2_with fail;go_ret;exact⟨Bj (hne.out),(hbf)⟩)
   ·go_wp2;go_roundw;exact⟨j+1,by omega,by go_num,hidden (hN1.out (by trivial)),Bp⟩;simp[intOf];omega
end Go.Proofs.YtlffomedflegdaaGreatDoor
