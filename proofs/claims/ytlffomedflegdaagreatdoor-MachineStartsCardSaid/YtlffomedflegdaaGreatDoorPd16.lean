/- Part 16 of the proof: Pb, Qa, Qb, Qc, Qd. -/
import Derived.Test.YtlffomedflegdaaGreatDoorPd15
set_option linter.all false
set_option maxHeartbeats 16000000
set_option maxRecDepth 100000
namespace Go.Proofs.YtlffomedflegdaaGreatDoor
open Go.Proofs.Tryz
open Go.RowKit
open Go.Value renaming int→cI,string→cS,slice→cY,bool→cE
open Go.IntKind renaming i64→cJ
open Option renaming some→cP,none→cX
open Bool renaming false→cA,true→cC
variable {P:Prop}{u1 u2 u3 v v' y1 y2 y3:Value}{w w0:World}
section
open Word Num Dp
def GA{fn:Func}{p t u:Tmp}{ty:TypeId}(h:fn.results=#[.cell p ty,.tmp t,.tmp u])(tmps:Array Value)(P:Program)(w:World):(results fn tmps).run P w=((asAddr (tmps.getD p undef)).run P w).andThen λa w₁=>((loadVar ty a).run P w₁).andThen λv w₂=> .ok (.tuple #[v,tmps.getD t undef,tmps.getD u undef]) w₂:=by
 simp only[results,h];simp
structure FI(W:World)(p i:Nat)(zp cp:List Value)(L:Nat->Bool)(w:World):Prop where
 b:Below p W w
 k:∀r:Nat,r≠p->w.heap[r]? =W.heap[r]?
 x:Ae w p (if L i=cC then cp else zp)
section
variable {W w w' : World} {p i : Nat} {zp cp : List Value} {L : Nat -> Bool}
def FI.start(b:Below p W w)(k:∀r:Nat,w.heap[r]? =W.heap[r]?)(hx:Ae w p zp):FI W p i zp cp (λ_=>cA) w:=⟨b,λr _=>k r,hx⟩
def FI.keep(h:FI W p i zp cp L w){m:Nat}(h1:(i==m)=cA):FI W p i zp cp (upd L m) w:=⟨h.b,h.k,by rw[upd_ne h1];exact h.x⟩
theorem FI.cell(h:FI W p i zp cp L w){a:Addr}(hc:W.cell? a=cP v)(h1:a.block≠p):w.cell? a=cP v:=by
 rw[World.cell?_of_block (w:=W) (w':=w) (a:=a) (h.k a.block h1)];exact hc
def FI.px(h:FI W p i zp cp L w)(hi:L i=cA):Ae w p zp:=by have:=h.x;rw[hi]at this;exact this
def FI.fill(h:FI W p i zp cp L w)(hb:Below p w w')(hk:∀r:Nat,r≠p->w'.heap[r]? =w.heap[r]?)(hx:Ae w' p cp):FI W p i zp cp (upd L i) w':=
 ⟨h.b.trans hb,λr h1=>(hk r h1).trans (h.k r h1),by rw[Cc];exact hx⟩
theorem FI.done(h:FI W p i zp cp L w)(hi:L i=cC):Ae w p cp:=by
 have h1:=h.x;grind
end
def oO(w':World)(e:Ending):Prop:=∃(v:Value) (n why:Int),e=.returned (.tuple #[v,cI cJ n,cI cJ why])/\
 (∃(b:Bool) (p1 p2 p3 p4:Option Addr) (n1 c1 n2 c2 n3 c3 n4 c4:Nat),v=.agg #[cE b,cY p1 n1 c1,cY p2 n2 c2,cY p3 n3 c3,cY p4 n4 c4])/\
 (why=0->∃(q:Pg) (u1 u2 u3 u4:Value),Cj w' v q u1 u2 u3 u4/\WH 5000000 q)
def Mq{w':World}{n why:Int}(h:why≠0):oO w' (.returned (.tuple #[.agg #[cE cA,cY cX 0 0,cY cX 0 0,cY cX 0 0,cY cX 0 0],cI cJ n,cI cJ why])):=
 ⟨_,_,_,rfl,⟨_,_,_,_,_,_,_,_,_,_,_,_,_,rfl⟩,λe=>absurd e h⟩
def kD(w:World):Ct (w.alloc (Obj.cells #[cE cA,cY cX 0 0,cY cX 0 0,cY cX 0 0,cY cX 0 0,cI cJ 0,cI cJ 0] 247)) w.heap.size (w.alloc (Obj.cells #[cE cA,cY cX 0 0,cY cX 0 0,cY cX 0 0,cY cX 0 0,cI cJ 0,cI cJ 0] 247)).heap.size w.heap.size ⟨cA,[],[],[],[]⟩ 0 0 0:=
 have hx:=Ae.alloc w [cE cA,cY cX 0 0,cY cX 0 0,cY cX 0 0,cY cX 0 0,cI cJ 0,cI cJ 0] 247
 ⟨⟨AQ,by simp,AQ,_,Af.of (AP.ca (l:=[.cell (cE cA),.row 153 2 [],.row 71 2 [],.row 155 2 [],.row 66 5 []]) (AP.cc (hx.c 0 _ rfl) rfl (AP.cr (l:=[]) (hx.c 1 _ rfl) AZ.nil (AP.cr (l:=[]) (hx.c 2 _ rfl) AZ.nil (AP.cr (l:=[]) (hx.c 3 _ rfl) AZ.nil (AP.cr (l:=[]) (hx.c 4 _ rfl) AZ.nil AP.cn))))) (AP.cc (hx.c 5 _ rfl) rfl (AP.cc (hx.c 6 _ rfl) rfl AP.cn))),by simp,by simp⟩,
  ⟨_,heap_alloc_new w _⟩,⟨Rw.nil,Rw.nil,Rw.nil,Rw.nil⟩,⟨⟨by decide,by decide⟩,(λh=>absurd h (by decide)),(λh=>absurd h (by decide)),(λh=>absurd h (by decide)),λh=>absurd h (by decide)⟩,by decide,⟨by decide,by decide⟩⟩
theorem Ct.prog{w':World}{B N R:Nat}{q:Pg}{wh lg:Int}{k:Nat}(h:Ct w B N R q wh lg k)(hk:∀b,B<=b->w'.heap[b]? =w.heap[b]?):∃u1 u2 u3 u4,w.cell? ⟨R,0,cX⟩=cP (cE q.ssa)/\w.cell? ⟨R,1,cX⟩=cP u1/\w.cell? ⟨R,2,cX⟩=cP u2/\w.cell? ⟨R,3,cX⟩=cP u3/\w.cell? ⟨R,4,cX⟩=cP u4/\Cj w' (.agg #[cE q.ssa,u1,u2,u3,u4]) q u1 u2 u3 u4:=by
 obtain⟨fp,hL,-,-⟩:=h.own.t
 have hL':=hL.far (w1:=w') λb hb=>hk b (by
  rcases hb with rfl|hb
  ·exact h.own.ge
  ·exact(hL.fp b hb).1)
 unfold IL at hL';obtain⟨_,_,h1,-⟩:=hL'.l.hd;obtain⟨u1,u2,u3,u4,c0,c1,c2,c3,c4,hv⟩:=vP (h.qq.o (AX h.kk (by decide))) h1;simp only[Nat.zero_add]at c1 c2 c3 c4;have e:∀i,w'.cell? ⟨R,i,cX⟩=w.cell? ⟨R,i,cX⟩:=λi=>World.cell?_of_block (w:=w) (w':=w') (a:=⟨R,i,cX⟩) (hk R h.own.ge);grind
def sM{rb:Nat}{b:Bool}{t:TypeId}(h:w.heap[rb]? =cP (.cells #[cE b,cY cX 0 0,cY cX 0 0,cY cX 0 0,cY cX 0 0] t (0,0))){a:Addr}{n:Int}(hc:w.cell? a=cP (cI cJ n)):a.block≠rb:=λe=>by
 unfold World.cell? at hc;rw[e,h]at hc;dsimp only at hc;split at hc
 ·cases hc
 ·have:=Array.mem_of_getElem? hc;simp at this
theorem Xv(s:ByteArray)(hs:s.size<=1000000)(hW:Words w):Calls prog 122 #[cS s] w λe w'=>oO w' e/\AA6 w w':=by
 have hal:=AJ w (.cells #[cE cA,cY cX 0 0,cY cX 0 0,cY cX 0 0,cY cX 0 0] 27);have hX:=Ae.alloc w [cE cA,cY cX 0 0,cY cX 0 0,cY cX 0 0,cY cX 0 0] 27;have hW1:=hW.kp hal;have hH:=heap_alloc_new w (.cells #[cE cA,cY cX 0 0,cY cX 0 0,cY cX 0 0,cY cX 0 0] 27);go_enter func122,ntmps122;go_upto_region 1 with fail;obtain⟨rb,hrb⟩:∃rb,w.heap.size=rb:=⟨_,rfl⟩;rw[hrb]at hal hX hH⊢;generalize Cr:w.alloc _=W1 at*;have hS:=Uc s hs W1;go_wp2_with fail;refine hS.mono ?_;rintro e w2 ⟨hb2,v,n,why,rfl,hy⟩;have hX2:=hX.nx hb2;have hW2:=hW1.kp hb2;have hlt2:=hX2.lt;have hH2:=(hb2.block rb hX.lt).trans hH;have hb:=hal.trans (hb2.mono (Nat.le_of_lt hX.lt))
 cases VK:(why !=0)with
 |true=>
  have hne:why≠0:=by simpa using VK
  obtain⟨x0,x1,x2,x3,x4⟩:=hX2.c5;obtain⟨f0,f1,f2,f3,f4⟩:=hX2.f5;have hbe:=hb.trans (Ay (Nat.le_refl rb) [cE cA,cY cX 0 0,cY cX 0 0,cY cX 0 0,cY cX 0 0] 0 w2);replace hne:=Wx hne;go_wp2;((try simp only[Exit.inBlock,Exit.then]);refine bodyPost_ret_by (v:=(.tuple #[.agg #[cE cA,cY cX 0 0,cY cX 0 0,cY cX 0 0,cY cX 0 0],cI cJ n,cI cJ why])) ((GA rfl _ _ _).trans (by go_simp;try rfl)) rfl ?_)
  exact⟨Mq hne.out,ABD hrb hbe⟩
 |false=>
 obtain rfl:why=0:=by simpa using VK
 obtain⟨L,hL,hLn,hLx⟩:=hy rfl;obtain⟨p,c,rfl⟩:=hL.slice;have hR:=kD w2;go_wp2;generalize Cr:w2.alloc _=W3 at*;obtain⟨hal,-⟩:=ng Cr;go_loopw[7,9] (λy i wr=>∃(j:Nat) (y0:Int) (N:Nat) (q:Pg) (wh lg:Int),j<=L.length/\i=cI cJ (j:Int)/\y=cI cJ y0/\Ct wr w2.heap.size N w2.heap.size q wh lg (2*j)/\AA6 w2 wr) (λ_ i _=>L.length-(intOf i).toNat);exact⟨0,_,_,_,_,_,AY,rfl,rfl,hR,hal⟩;obtain⟨j,y0,N,q,wh,lg,hj,rfl,rfl,hR,hbr⟩:=hrel;have hXr:=hX2.below hlt2 hbr;have hb4:=hb.trans (hbr.mono (Nat.le_of_lt hlt2));by_cases hend:j=L.length
 ·subst hend;have hO:=Ey hR;obtain⟨x0,x1,x2,x3,x4⟩:=hXr.c5;obtain⟨f0,f1,f2,f3,f4⟩:=hXr.f5;go_wp2_with fail;refine hO.mono ?_;rintro e w5 ⟨⟨b,rfl,-⟩,rfl⟩;cases b
  ·have hbe:=hb4.trans (Ay (Nat.le_refl rb) [cE cA,cY cX 0 0,cY cX 0 0,cY cX 0 0,cY cX 0 0] 0 wr);go_wp2;((try simp only[Exit.inBlock,Exit.then]);refine bodyPost_ret_by (v:=(.tuple #[.agg #[cE cA,cY cX 0 0,cY cX 0 0,cY cX 0 0,cY cX 0 0],cI cJ 0,cI cJ 3])) ((GA rfl _ _ _).trans (by go_simp;try rfl)) rfl ?_);exact⟨Mq (by decide),ABD hrb hbe⟩
  ·obtain⟨v1,v2,v3,v4,c0,c1,c2,c3,c4,hv⟩:=hR.prog (w':=wr) λ_ _=>rfl;obtain⟨_,hv1,hv2,hv3,hv4⟩:=hv;obtain⟨p1,k1,rfl⟩:=hv1.slice;obtain⟨p2,k2,rfl⟩:=hv2.slice;obtain⟨p3,k3,rfl⟩:=hv3.slice;obtain⟨p4,k4,rfl⟩:=hv4.slice;have hbe:=hb4.trans (Ay (Nat.le_refl rb) [cE q.ssa,cY p1 q.cs.length k1,cY p2 q.gs.length k2,cY p3 q.xs.length k3,cY p4 q.fs.length k4] 0 wr);obtain⟨u1,u2,u3,u4,d0,d1,d2,d3,d4,hu⟩:=hR.prog (w':=BZ wr rb 0 [cE q.ssa,cY p1 q.cs.length k1,cY p2 q.gs.length k2,cY p3 q.xs.length k3,cY p4 q.fs.length k4]) λb hb=>Bu (by omega) _ _ _;obtain rfl:u1=cY p1 q.cs.length k1:=(by rw[c1]at d1;exact(Option.some.inj d1).symm);obtain rfl:u2=cY p2 q.gs.length k2:=(by rw[c2]at d2;exact(Option.some.inj d2).symm);obtain rfl:u3=cY p3 q.xs.length k3:=(by rw[c3]at d3;exact(Option.some.inj d3).symm);obtain rfl:u4=cY p4 q.fs.length k4:=(by rw[c4]at d4;exact(Option.some.inj d4).symm);have hq:WH 5000000 q:=WH.up hR.kk hR.qq;go_wp2;((try simp only[Exit.inBlock,Exit.then]);refine bodyPost_ret_by (v:=(.tuple #[.agg #[cE q.ssa,cY p1 q.cs.length k1,cY p2 q.gs.length k2,cY p3 q.xs.length k3,cY p4 q.fs.length k4],cI cJ 0,cI cJ 0])) ((GA rfl _ _ _).trans (by go_simp;try rfl)) rfl ?_);exact⟨⟨_,_,_,rfl,⟨_,_,_,_,_,_,_,_,_,_,_,_,_,rfl⟩,λ_=>⟨q,_,_,_,_,hu,hq⟩⟩,ABD hrb hbe⟩
 ·have hlt:j<L.length:=by omega
  have A8:(j:Int)<L.length:=by omega
  obtain⟨_,_,e,-,⟨hn1,-⟩,hat⟩:=hL;obtain⟨rfl,-,rfl⟩:=Value.slice.inj e;obtain⟨a,rfl,g0,u,g1,hu⟩:=hat j L[j] (by simp[hlt]);obtain⟨hx1,hx2⟩:=hLx L[j] (List.getElem_mem hlt);have AEc:∀fi,Calls prog 168 #[.pointer (cP ⟨w2.heap.size,0,cX⟩),u,cE fi] wr λe w'=>Wy w2.heap.size w2.heap.size (2*j+1) e w'/\Below w2.heap.size wr w':=λfi=>
   dh hbr hW2 hR (AQ) (by omega) hu hx2 (List.length_pos_iff.2 hx1) fi
  have hna:=sM hH2 g0;have g2:=g0;replace g0:=AA hbr g0;replace g1:=AA hbr g1;generalize L[j].n=ln at*;go_wp2_with fail;refine(AEc _).mono ?_;rintro e w5 ⟨⟨why,rfl,hy⟩,hb5⟩;have jG:AA6 w2 w5:=hbr.trans hb5
  cases VK:(why !=0)with
  |true=>
   have hne:why≠0:=(by simpa using VK);have WO:=hX2.below hlt2 jG;have hb5:=hb.trans (jG.mono (Nat.le_of_lt hlt2));replace g2:=AA jG g2;replace hne:=Wx hne;go_wp2;refine ALQ (S:=FI w5 rb 7 [cE cA,cY cX 0 0,cY cX 0 0,cY cX 0 0,cY cX 0 0] [cE cA,cY cX 0 0,cY cX 0 0,cY cX 0 0,cY cX 0 0]) (FI.start Ac (λ_=>rfl) WO.drew) ?_;(iterate 7((refine Ab.f (λz=>z.s.keep rfl) (λz=>z.s.cell g2 hna) ?_)));(refine Ab.step (a1:=?_) rfl (λL w1 K' Q' hS hi hR hd hK=>?_) ?_ ?_;rotate_left)
   ·have hx:=hS.px hi;obtain⟨k0,k1,k2,k3,k4⟩:=hx.c5;obtain⟨z0,z1,z2,z3,z4⟩:=hx.f5;go_simp;exact hK.out _ (hS.fill (Ay (AQ) [cE cA,cY cX 0 0,cY cX 0 0,cY cX 0 0,cY cX 0 0] 0 w1) (λr hr=>Bu hr [cE cA,cY cX 0 0,cY cX 0 0,cY cX 0 0,cY cX 0 0] 0 w1) (CK [cE cA,cY cX 0 0,cY cX 0 0,cY cX 0 0,cY cX 0 0] _ 0 w1 hx rfl))
   ·rfl
   (iterate 2((refine Ab.q (λz=>z.s.keep rfl) ?_)));refine Ab.nil λw6 hS=>?_;have Ng:=hS.done rfl;have hbe:=hb5.trans hS.b;obtain⟨x0,x1,x2,x3,x4⟩:=Ng.c5;go_wp2;((try simp only[Exit.inBlock,Exit.then]);refine bodyPost_ret_by (v:=(.tuple #[.agg #[cE cA,cY cX 0 0,cY cX 0 0,cY cX 0 0,cY cX 0 0],cI cJ ln,cI cJ why])) ((GA rfl _ _ _).trans (by go_simp;try rfl)) rfl ?_)
   exact⟨Mq hne.out,ABD hrb hbe⟩
  |false=>
   obtain rfl:why=0:=(by simpa using VK);obtain⟨N5,q5,wh5,lg5,CS⟩:=hy rfl;go_wp2;go_roundw;exact⟨j+1,_,_,_,_,_,hlt,by go_num,rfl,by rw[show 2*(j+1)=2*j+1+1 by omega];exact CS,jG⟩;simp[intOf];omega
end
def IC(P:Prop)(e:Ending):Prop:=∃b:Bool,e=.returned (cE b)/\(b=cC->P)/\(b=cA->¬P)
theorem IC.yes{e:Ending}(h:IC P e)(p:P):e=.returned (cE cC):=by grind [IC]
theorem IC.no{e:Ending}(h:IC P e)(p:¬P):e=.returned (cE cA):=by grind [IC]
theorem Ir(p:P):IC P (.returned (cE cC)):=by grind [IC]
theorem Bj(p:¬P):IC P (.returned (cE cA)):=by grind [IC]
theorem Ic{s t:ByteArray}(h:(s.toList==t.toList)=cC):s=t:=by
 have h:=eq_of_beq h;rw[ByteArray.toList_eq,ByteArray.toList_eq]at h;exact ByteArray.ext (Array.toList_inj.1 h)
def Qs(x y:Vr):Bool:=x.n.toList==y.n.toList&&x.t.toList==y.t.toList
def Qu(x y:Ex):Bool:=x.n.toList==y.n.toList&&x.k==y.k
def Gz(x y:Ag):Bool:=x.k==y.k&& (x.s.toList==y.s.toList&&x.n==y.n)
def Qv(x y:Bd):Bool:=x.n.toList==y.n.toList&&Gz x.a y.a
def Qt(x y:TH):Bool:=x.b.toList==y.b.toList&&Gz x.a y.a
theorem Yb(x:Vr):Qs x x=cC:=by simp[Qs,Gz]
theorem lX{x y:Vr}(h:Qs x y=cC):x=y:=by grind [Qs,Ic,cases Vr]
theorem Yd(x:Ex):Qu x x=cC:=by simp[Qu,Gz]
theorem lZ{x y:Ex}(h:Qu x y=cC):x=y:=by grind [Qu,Ic,cases Ex]
theorem PG(x:Ag):Gz x x=cC:=by simp[Gz,Gz]
theorem Lp{x y:Ag}(h:Gz x y=cC):x=y:=by grind [Gz,Ic,cases Ag]
theorem Ye(x:Bd):Qv x x=cC:=by simp[Qv,Gz]
theorem lq{x y:Bd}(h:Qv x y=cC):x=y:=by grind [Qv,Ic,Lp,cases Bd]
theorem Yc(x:TH):Qt x x=cC:=by simp[Qt,Gz]
theorem lY{x y:TH}(h:Qt x y=cC):x=y:=by grind [Qt,Ic,Lp,cases TH]
def AAl(s t s' t':ByteArray)(w:World):(Op.equalIn 10000 71 (.agg #[cS s,cS t]) (.agg #[cS s',cS t'])).run prog w=.ok (s.toList==s'.toList&&t.toList==t'.toList) w:=by
 have u9:=underlying9;have a9:=Tryz.isAgg9;have z9:=Tryz.sizeOf9;have hS:prog.underlying 71=cP (.struct (prog.fieldsOf 71)):=by kernel_rfl
 have hp:prog.stoodInHeld 71=cA:=by kernel_rfl
 rw[show(10000:Nat)=9999+1 from rfl,run_equalIn_agg w 9999 71 _ _ hS hp];simp only[Program.fieldsOf,underlying71];cases h1:(s.toList==s'.toList)<;>cases h2:(t.toList==t'.toList)<;>go_simp
theorem AAk(s s':ByteArray)(k k':Int)(w:World):(Op.equalIn 10000 155 (.agg #[cS s,cI cJ k]) (.agg #[cS s',cI cJ k'])).run prog w=.ok (s.toList==s'.toList&&k==k') w:=by
 have u9:=underlying9;have a9:=Tryz.isAgg9;have z9:=Tryz.sizeOf9;have u3:=underlying3;have a3:=Tryz.isAgg3;have z3:=Tryz.sizeOf3;have hS:prog.underlying 155=cP (.struct (prog.fieldsOf 155)):=by kernel_rfl
 have hp:prog.stoodInHeld 155=cA:=by kernel_rfl
 rw[show(10000:Nat)=9999+1 from rfl,run_equalIn_agg w 9999 155 _ _ hS hp];simp only[Program.fieldsOf,underlying155];cases h1:(s.toList==s'.toList)<;>cases h2:(k==k')<;>go_simp
theorem P8{k:Nat}(a b a' b':Int)(s s':ByteArray)(w:World):(Op.equalIn (k+1+1) 77 (.agg #[cI cJ a,cS s,cI cJ b]) (.agg #[cI cJ a',cS s',cI cJ b'])).run prog w=.ok (a==a'&& (s.toList==s'.toList&&b==b')) w:=by
 have u3:=underlying3;have u9:=underlying9;have u2:=underlying2;have a3:=Tryz.isAgg3;have z3:=Tryz.sizeOf3;have a9:=Tryz.isAgg9;have z9:=Tryz.sizeOf9;have a2:=Tryz.isAgg2;have z2:=Tryz.sizeOf2;have hS:prog.underlying 77=cP (.struct (prog.fieldsOf 77)):=by kernel_rfl
 have hp:prog.stoodInHeld 77=cA:=by kernel_rfl
 rw[run_equalIn_agg w (k+1) 77 _ _ hS hp];simp only[Program.fieldsOf,underlying77];cases h1:(a==a')<;>cases h2:(s.toList==s'.toList)<;>cases h3:(b==b')<;>go_simp
def AAm(n n':ByteArray)(a b a' b':Int)(s s':ByteArray)(w:World):(Op.equalIn 10000 234 (.agg #[cS n,cI cJ a,cS s,cI cJ b]) (.agg #[cS n',cI cJ a',cS s',cI cJ b'])).run prog w=.ok (n.toList==n'.toList&& (a==a'&& (s.toList==s'.toList&&b==b'))) w:=by
 have hE:=λw=>P8 (k:=9997) a b a' b' s s' w;have u9:=underlying9;have a9:=Tryz.isAgg9;have z9:=Tryz.sizeOf9;have a2:=Tryz.isAgg77;have z2:=Tryz.sizeOf77;have hS:prog.underlying 234=cP (.struct (prog.fieldsOf 234)):=by kernel_rfl
 have hp:prog.stoodInHeld 234=cA:=by kernel_rfl
 rw[show(10000:Nat)=9999+1 from rfl,run_equalIn_agg w 9999 234 _ _ hS hp];simp only[Program.fieldsOf,underlying234];generalize(a==a'&& (s.toList==s'.toList&&b==b'))=c at*;cases h1:(n.toList==n'.toList)<;>cases c<;>go_simp
def tV(n n':ByteArray)(a b a' b':Int)(s s':ByteArray)(w:World):(Op.equalIn 10000 213 (.agg #[cS n,cI cJ a,cS s,cI cJ b]) (.agg #[cS n',cI cJ a',cS s',cI cJ b'])).run prog w=.ok (n.toList==n'.toList&& (a==a'&& (s.toList==s'.toList&&b==b'))) w:=by
 have hE:=λw=>P8 (k:=9997) a b a' b' s s' w;have u9:=underlying9;have a9:=Tryz.isAgg9;have z9:=Tryz.sizeOf9;have a2:=Tryz.isAgg77;have z2:=Tryz.sizeOf77;have hS:prog.underlying 213=cP (.struct (prog.fieldsOf 213)):=by kernel_rfl
 have hp:prog.stoodInHeld 213=cA:=by kernel_rfl
 rw[show(10000:Nat)=9999+1 from rfl,run_equalIn_agg w 9999 213 _ _ hS hp];simp only[Program.fieldsOf,underlying213];generalize(a==a'&& (s.toList==s'.toList&&b==b'))=c at*;cases h1:(n.toList==n'.toList)<;>cases c<;>go_simp
theorem I5(h0:AA6 w0 w){l l':List Vr}(hl:Row IU 2 w0 v l)(hl':Row IU 2 w0 v' l'):Calls prog 176 #[v,v'] w λe w'=>IC (l=l') e/\AA6 w w':=by
 obtain⟨p,cu,rfl,-,hn,hl⟩:=hl;obtain⟨p',Nh,rfl,-,-,hl'⟩:=hl'
 cases hlen:((l.length:Int) !=(l'.length:Int))with
 |true=>
  go_enter func176,ntmps176;go_wp2;go_ret
  exact⟨Bj λe=>by rw[e]at hlen;simp at hlen,AL⟩
 |false=>
 have hle:l.length=l'.length:=by
  have:(l.length:Int)=l'.length:=by simpa using hlen
  omega
 rw[<-hle];replace hle:=Wx hle;go_enter func176,ntmps176;go_wp2;go_loopw[5] (λi wr=>∃q:Nat,q<=l.length/\i=cI cJ (q:Int)/\Hid (l.take q=l'.take q)/\AA6 w wr) (λi _=>l.length-(intOf i).toNat);exact⟨0,AY,rfl,Wx (by simp),AL⟩;obtain⟨q,hq,rfl,hT,hb⟩:=hrel;by_cases hend:q=l.length
 ·subst hend;have hT:=hT.out;rw[List.take_length,hle.out,List.take_length]at hT;replace hT:=Wx hT;go_wp2;go_ret;exact⟨Ir hT.out,hb⟩
 ·have hlt:q<l.length:=by omega
  have hlt':q<l'.length:=by have:=hle.out;omega
  have A8:(q:Int)<l.length:=by omega
  obtain⟨a,rfl,⟨c0,-⟩,c1,-⟩:=hl q l[q] (by simp[hlt]);obtain⟨a',rfl,⟨d0,-⟩,d1,-⟩:=hl' q l'[q] (by simp[hlt']);have c0:=AA (AB h0 hb) c0;have c1:=AA (AB h0 hb) c1;have d0:=AA (AB h0 hb) d0;have d1:=AA (AB h0 hb) d1;have hN:Qs l[q] l'[q]=cC->l.take (q+1)=l'.take (q+1):=λh=>by
   rw[List.take_succ_eq_append_getElem hlt,List.take_succ_eq_append_getElem hlt',hT.out,lX h]
  have hM:Qs l[q] l'[q]=cA->l≠l':=λh e=>by
   subst e;rw[Yb]at h;cases h
  have hE:∀w,(Op.equalIn 10000 71 (.agg #[cS l[q].n,cS l[q].t]) (.agg #[cS l'[q].n,cS l'[q].t])).run prog w=.ok (Qs l[q] l'[q]) w:=λw=>AAl _ _ _ _ w;generalize Qs l[q] l'[q]=b at*;replace hN:=Wx hN;replace hM:=Wx hM;generalize l[q].n=s at*;generalize l[q].t=t at*;generalize l'[q].n=s' at*;generalize l'[q].t=t' at*;go_wp2;refine ALQ (S:=λ_ v=>v=wr.drew) rfl ?_;iterate 9((apply Ab.z rfl;intro L w1 _ _ _ z hK;have hS:=z.s;(subst hS);go_simp;exact hK (rfl);rfl))
  refine Ab.nil λw4 Bb=>?_;subst Bb;cases b
  ·go_wp2;go_ret;exact⟨Bj (hM.out (by trivial)),hb.drew⟩
  ·go_wp2;go_roundw;exact⟨q+1,by omega,by go_num,Wx (hN.out (by trivial)),hb.drew⟩;simp[intOf];omega
theorem Od(h0:AA6 w0 w){l l':List Ag}(hl:Row Lg 3 w0 v l)(hl':Row Lg 3 w0 v' l'):Calls prog 247 #[v,v'] w λe w'=>IC (l=l') e/\AA6 w w':=by
 obtain⟨p,cu,rfl,-,hn,hl⟩:=hl;obtain⟨p',Nh,rfl,-,-,hl'⟩:=hl'
 cases hlen:((l.length:Int) !=(l'.length:Int))with
 |true=>
  go_enter func247,ntmps247;go_wp2;go_ret
  exact⟨Bj λe=>by rw[e]at hlen;simp at hlen,AL⟩
 |false=>
 have hle:l.length=l'.length:=by
  have:(l.length:Int)=l'.length:=by simpa using hlen
  omega
 rw[<-hle];replace hle:=Wx hle;go_enter func247,ntmps247;go_wp2;go_loopw[5] (λi wr=>∃q:Nat,q<=l.length/\i=cI cJ (q:Int)/\Hid (l.take q=l'.take q)/\AA6 w wr) (λi _=>l.length-(intOf i).toNat);exact⟨0,AY,rfl,Wx (by simp),AL⟩;obtain⟨q,hq,rfl,hT,hb⟩:=hrel;by_cases hend:q=l.length
 ·subst hend;have hT:=hT.out;rw[List.take_length,hle.out,List.take_length]at hT;replace hT:=Wx hT;go_wp2;go_ret;exact⟨Ir hT.out,hb⟩
 ·have hlt:q<l.length:=by omega
  have hlt':q<l'.length:=by have:=hle.out;omega
  have A8:(q:Int)<l.length:=by omega
  obtain⟨a,rfl,c0,⟨c1,-⟩,c2⟩:=hl q l[q] (by simp[hlt]);obtain⟨a',rfl,d0,⟨d1,-⟩,d2⟩:=hl' q l'[q] (by simp[hlt']);have c0:=AA (AB h0 hb) c0;have c1:=AA (AB h0 hb) c1;have c2:=AA (AB h0 hb) c2;have d0:=AA (AB h0 hb) d0;have d1:=AA (AB h0 hb) d1;have d2:=AA (AB h0 hb) d2;have hN:Gz l[q] l'[q]=cC->l.take (q+1)=l'.take (q+1):=λh=>by
   rw[List.take_succ_eq_append_getElem hlt,List.take_succ_eq_append_getElem hlt',hT.out,Lp h]
  have hM:Gz l[q] l'[q]=cA->l≠l':=λh e=>by
   subst e;rw[PG]at h;cases h
  have hE:∀w,(Op.equalIn 10000 77 (.agg #[cI cJ l[q].k,cS l[q].s,cI cJ l[q].n]) (.agg #[cI cJ l'[q].k,cS l'[q].s,cI cJ l'[q].n])).run prog w=.ok (Gz l[q] l'[q]) w:=λw=>P8 (k:=9998) _ _ _ _ _ _ w;generalize Gz l[q] l'[q]=b at*;replace hN:=Wx hN;replace hM:=Wx hM;generalize l[q].k=k at*;generalize l[q].s=s at*;generalize l[q].n=n at*;generalize l'[q].k=k' at*;generalize l'[q].s=s' at*;generalize l'[q].n=n' at*;go_wp2;refine ALQ (S:=λ_ v=>v=wr.drew) rfl ?_;iterate 9((apply Ab.z rfl;intro L w1 _ _ _ z hK;have hS:=z.s;(subst hS);go_simp;exact hK (rfl);rfl))
  refine Ab.nil λw4 Bb=>?_;subst Bb;cases b
  ·go_wp2;go_ret;exact⟨Bj (hM.out (by trivial)),hb.drew⟩
  ·go_wp2;go_roundw;exact⟨q+1,by omega,by go_num,Wx (hN.out (by trivial)),hb.drew⟩;simp[intOf];omega
def Cy{α:Type}{l l':List α}{q:Nat}(h:l.take q=l'.take q)(h1:q<l.length)(h2:q<l'.length)(e:l[q]=l'[q]):l.take (q+1)=l'.take (q+1):=by
 rw[List.take_succ_eq_append_getElem h1,List.take_succ_eq_append_getElem h2,h,e]
theorem Cz{α:Type}{l l':List α}(h:l.take l.length=l'.take l.length)(e:l.length=l'.length):l=l':=by grind
def Y4{s t:ByteArray}(h:(s.toList==t.toList)=cC):s=t:=Ic h
def neI{a b:Int}(h:(a !=b)=cA):a=b:=by simpa using h
theorem Y5{a b:Nat}(h:((a:Int) !=(b:Int))=cA):a=b:=by grind
structure HdI(x y:Is):Prop where
 o:x.op=y.op
 d:x.d=y.d
 n:x.n=y.n
 a:x.as=y.as
 f:x.fr.length=y.fr.length
 v:x.ob.length=y.ob.length
structure jV(x y:Fr):Prop where
 f:x.f=y.f
 b:x.b=y.b
 i:x.i=y.i
 v:x.vs.length=y.vs.length
theorem HdI.eq{x y:Is}(h:HdI x y)(hf:x.fr=y.fr)(hv:x.ob=y.ob):x=y:=by grind [cases Is,cases HdI]
theorem jV.eq{x y:Fr}(h:jV x y)(hv:x.vs=y.vs):x=y:=by grind [cases Fr,cases jV]
theorem zH{x y:Vt}(h1:x.c=y.c)(h2:x.vs=y.vs):x=y:=by grind [cases Vt]
theorem Un(h0:AA6 w0 w){x y:Is}(hv:Pv w0 v x u1 u2 u3)(hv':Pv w0 v' y y1 y2 y3):Calls prog 240 #[v,v'] w λe w'=>IC (x=y) e/\AA6 w w':=by
 obtain⟨rfl,-,ha,hf,ho⟩:=hv;obtain⟨rfl,-,ha',hf',ho'⟩:=hv';have hA:=λW (hW:AA6 w0 W)=>Od hW ha ha';obtain⟨p1,k1,rfl⟩:=ha.slice;obtain⟨q1,l1,rfl⟩:=ha'.slice;obtain⟨p2,k2,rfl,-,hn2,hf⟩:=hf;obtain⟨q2,l2,rfl,-,hm2,hf'⟩:=hf';obtain⟨p3,k3,rfl,-,QY,ho⟩:=ho;obtain⟨q3,l3,rfl,-,vG,ho'⟩:=ho';clear ha ha';have hb1:=AJ w (.cells #[cI cJ x.op,cS x.d,cS x.n,cY p1 x.as.length k1,cY p2 x.fr.length k2,cY p3 x.ob.length k3] 133);have hb2:=hb1.alloc hb1.size (.cells #[cI cJ y.op,cS y.d,cS y.n,cY q1 y.as.length l1,cY q2 y.fr.length l2,cY q3 y.ob.length l3] 133);have hX:=(Ae.alloc w [cI cJ x.op,cS x.d,cS x.n,cY p1 x.as.length k1,cY p2 x.fr.length k2,cY p3 x.ob.length k3] 133).al (.cells #[cI cJ y.op,cS y.d,cS y.n,cY q1 y.as.length l1,cY q2 y.fr.length l2,cY q3 y.ob.length l3] 133);have hY:=Ae.alloc (w.alloc (.cells #[cI cJ x.op,cS x.d,cS x.n,cY p1 x.as.length k1,cY p2 x.fr.length k2,cY p3 x.ob.length k3] 133)) [cI cJ y.op,cS y.d,cS y.n,cY q1 y.as.length l1,cY q2 y.fr.length l2,cY q3 y.ob.length l3] 133;have z1:(w.alloc (.cells #[cI cJ x.op,cS x.d,cS x.n,cY p1 x.as.length k1,cY p2 x.fr.length k2,cY p3 x.ob.length k3] 133)).heap.size=w.heap.size+1:=by simp
 rw[z1]at hY;clear hb1 z1;go_enter func240,ntmps240;go_upto_region 1 with fail;generalize Cr:(w.alloc _).alloc _=W at*;clear Cr;go_cut[54]from 10 to 53 (λv wx=>∃r:Bool,v=cE r/\(r=cA->HdI x y)/\(r=cC->x≠y)/\AA6 W wx)
 ·have hA1:=hA _ (AB h0 hb2);obtain⟨a0,a1,a2,a3⟩:=hX.c4;obtain⟨b0,b1,b2,b3⟩:=hY.c4;clear hf hf' ho ho' hA hn2 hm2 QY vG
  cases e1:((x.op:Int) !=y.op)with
  |true=>(go_wp2_with fail;go_meet;(case rel=>exact⟨_,rfl,(λh=>by cases h),(λ_=>(λe=>by rw[e]at e1;simp at e1)),(AL)⟩))
  |false=>
  cases e2:(x.d.toList==y.d.toList)with
  |false=>(go_wp2_with fail;go_meet;(case rel=>exact⟨_,rfl,(λh=>by cases h),(λ_=>(λe=>by rw[e]at e2;simp at e2)),(AL)⟩))
  |true=>
  cases e3:(x.n.toList==y.n.toList)with
  |false=>(go_wp2_with fail;go_meet;(case rel=>exact⟨_,rfl,(λh=>by cases h),(λ_=>(λe=>by rw[e]at e3;simp at e3)),(AL)⟩))
  |true=>
  go_wp2_with fail;refine hA1.mono ?_;rintro e w1 ⟨⟨r,rfl,hr,hr'⟩,hb3⟩;replace hr:=Wx hr;replace hr':=Wx hr';clear hA1;cases r
  ·(go_wp2_with fail;go_meet;(case rel=>exact⟨_,rfl,(λh=>by cases h),(λ_=>(λe=>hr'.out (by trivial) (by rw[e]))),(hb3)⟩))
  have hX1:=hX.nx hb3;have nG:=hY.nx hb3;obtain⟨-,-,-,-,a4,a5⟩:=hX1.c6;obtain⟨-,-,-,-,b4,b5⟩:=nG.c6;clear hX hY
  cases e5:((x.fr.length:Int) !=(y.fr.length:Int))with
  |true=>(go_wp2_with fail;go_meet;(case rel=>exact⟨_,rfl,(λh=>by cases h),(λ_=>(λe=>by rw[e]at e5;simp at e5)),(hb3)⟩))
  |false=>
  cases e6:((x.ob.length:Int) !=(y.ob.length:Int))with
  |true=>(go_wp2_with fail;go_meet;(case rel=>exact⟨_,rfl,(λh=>by cases h),(λ_=>(λe=>by rw[e]at e6;simp at e6)),(hb3)⟩))
  |false=>
  have hH:HdI x y:=⟨neI e1,Y4 e2,Y4 e3,hr.out (by trivial),Y5 e5,Y5 e6⟩;go_wp2;go_meet;exact⟨_,rfl,(λ_=>hH),(λh=>by cases h),hb3⟩
 obtain⟨r,rfl,hr,hr',hb3⟩:=hcut;obtain⟨w1,rfl⟩:=again wc;have hb4:=AB hb2 hb3;replace hX:=hX.nx hb3;replace hY:=hY.nx hb3;clear hb2 hb3;cases r;rotate_left
 ·have hne:=Wx (hr' rfl);clear hr hr' hf hf' ho ho' hA;(go_wp2_with fail;go_ret;exact⟨Bj (hne.out),(hb4)⟩)
 have hH:=hr rfl;clear hr hr';have hfl:=Wx hH.f;have hvl:=Wx hH.v;go_wp2;go_loopw[5] (λi wr=>∃q:Nat,q<=x.fr.length/\i=cI cJ (q:Int)/\Hid (x.fr.take q=y.fr.take q)/\AA6 w1 wr) (λi _=>x.fr.length-(intOf i).toNat);exact⟨0,AY,rfl,Wx (by simp),AL⟩;obtain⟨q,hq,rfl,hT,hb⟩:=hrel;have hX:=hX.nx hb;have hY:=hY.nx hb;obtain⟨-,-,-,-,x4,x5⟩:=hX.c6;obtain⟨-,-,-,-,y4,y5⟩:=hY.c6;have hb5:=AB hb4 hb;by_cases hend:q=x.fr.length
 ·subst hend;have hFF:x.fr=y.fr:=Cz hT.out hfl.out;replace hFF:=Wx hFF;clear hf hf' hb hb4 hT;go_wp2;clear x4 y4 x5 y5;obtain⟨wo,rfl⟩:=again wr;go_loopw[9] (λi wr=>∃q:Nat,q<=x.ob.length/\i=cI cJ (q:Int)/\Hid (x.ob.take q=y.ob.take q)/\AA6 wo wr) (λi _=>x.ob.length-(intOf i).toNat);exact⟨0,AY,rfl,Wx (by simp),AL⟩;obtain⟨q,hq,rfl,hT,hb⟩:=hrel;have hX:=hX.nx hb;have hY:=hY.nx hb;have x5:=hX.c 5 _ rfl;have y5:=hY.c 5 _ rfl;have hb6:=AB hb5 hb;clear hX hY;by_cases hend:q=x.ob.length
  ·subst hend;have TK:x=y:=hH.eq hFF.out (Cz hT.out hvl.out);replace TK:=Wx TK;clear ho ho' hb hb5 hT hA;go_wp2;go_ret;exact⟨Ir TK.out,hb6⟩
  ·have hlt:q<x.ob.length:=(by omega);have A8:(q:Int)<x.ob.length:=(by omega);have hlt':q<y.ob.length:=(by have:=hvl.out;omega);have JJ:(q:Int)<y.ob.length:=(by omega);obtain⟨a,rfl,⟨c0,-⟩,m,c1,r⟩:=ho q x.ob[q] (by simp[hlt]);obtain⟨a',rfl,⟨d0,-⟩,m',d1,r'⟩:=ho' q y.ob[q] (by simp[hlt']);have c0:=AA (AB h0 hb6) c0;have c1:=AA (AB h0 hb6) c1;have d0:=AA (AB h0 hb6) d0;have d1:=AA (AB h0 hb6) d1;have hS:=λW (hW:AA6 wr W)=>Od (AB (AB h0 hb6) hW) r r';have hN:x.ob[q].c=y.ob[q].c->x.ob[q].vs=y.ob[q].vs->x.ob.take (q+1)=y.ob.take (q+1):=λh1 h2=>Cy hT.out hlt hlt' (zH h1 h2);have hM1:x.ob[q].c≠y.ob[q].c->x≠y:=λh e=>by
    subst e;exact h rfl
   have hM2:x.ob[q].vs≠y.ob[q].vs->x≠y:=λh e=>by
    subst e;exact h rfl
   obtain⟨g,j,rfl⟩:=r.slice;obtain⟨g',j',rfl⟩:=r'.slice;clear ho ho' r r' hA hT;generalize x.ob[q].c=s at*;generalize x.ob[q].vs=vs at*;generalize y.ob[q].c=s' at*;generalize y.ob[q].vs=vs' at*;replace hN:=Wx hN;replace hM1:=Wx hM1;replace hM2:=Wx hM2;have BJ:=(Below.refl wr.heap.size wr).drew
   cases e1:(s.toList==s'.toList)with
   |false=>
    go_wp2;refine ALQ (S:=λ_ v=>AA6 wr v) BJ ?_;(iterate 29(first|(refine Ab.f (λz=>z.s) (λz=>ALS (AA z.s x5) (ALS (AA z.s y5) (ALS (AA z.s c0) (ALS (AA z.s d0) (ALS (AA z.s c1) (AA z.s d1)))))) ?_)|(refine Ab.skip rfl (λL w1 hS hi=>(hS)) ?_;(try simp only[pE]))));refine Ab.nil λw4 Bb=>?_;have Bp:=AB hb6 Bb;have hne:=Wx (hM1.out λe=>by rw[e]at e1;simp at e1);clear BJ c0 c1 d0 d1 x5 y5 Bb
    (go_wp2_with fail;go_ret;exact⟨Bj (hne.out),(Bp)⟩)
   |true=>
    have qD:=Wx (Y4 e1);by_cases e2:vs=vs'
    ·have hS1:∀W,AA6 wr W->Calls prog 247 #[cY g vs.length j,cY g' vs'.length j'] W λe w'=>e=.returned (cE cC)/\AA6 W w':=λW hW=>(hS W hW).mono λ_ _ h=>⟨h.1.yes e2,h.2⟩;have hN1:=Wx (hN.out qD.out e2);clear hS hN hM1 hM2 e2;go_wp2;refine ALQ (S:=λ_ v=>AA6 wr v) BJ ?_;(iterate 29(first|(refine Ab.f (λz=>z.s) (λz=>ALS (AA z.s x5) (ALS (AA z.s y5) (ALS (AA z.s c0) (ALS (AA z.s d0) (ALS (AA z.s c1) (AA z.s d1)))))) ?_)|(refine Ab.c (λz=>hS1 _ z.s) (λz hb=>AB z.s hb) ?_)));refine Ab.nil λw4 Bb=>?_;have Bp:=AB hb Bb;clear BJ hS1 c0 c1 d0 d1 x5 y5 Bb;go_wp2;go_roundw;exact⟨q+1,by omega,by go_num,hN1,Bp⟩;simp[intOf];omega
    ·have hS1:∀W,AA6 wr W->Calls prog 247 #[cY g vs.length j,cY g' vs'.length j'] W λe w'=>e=.returned (cE cA)/\AA6 W w':=λW hW=>(hS W hW).mono λ_ _ h=>⟨h.1.no e2,h.2⟩;have hne:=Wx (hM2.out e2);clear hS hN hM1 hM2 e2;go_wp2;refine ALQ (S:=λ_ v=>AA6 wr v) BJ ?_;(iterate 29(first|(refine Ab.f (λz=>z.s) (λz=>ALS (AA z.s x5) (ALS (AA z.s y5) (ALS (AA z.s c0) (ALS (AA z.s d0) (ALS (AA z.s c1) (AA z.s d1)))))) ?_)|(refine Ab.c (λz=>hS1 _ z.s) (λz hb=>AB z.s hb) ?_)));refine Ab.nil λw4 Bb=>?_;have Bp:=AB hb6 Bb;clear BJ hS1 c0 c1 d0 d1 x5 y5 Bb;(go_wp2_with fail;go_ret;exact⟨Bj (hne.out),(Bp)⟩)
 ·have hlt:q<x.fr.length:=by omega
  have A8:(q:Int)<x.fr.length:=by omega
  have hlt':q<y.fr.length:=by have:=hfl.out;omega
  have JJ:(q:Int)<y.fr.length:=by omega
  obtain⟨a,rfl,⟨c0,-⟩,⟨c1,-⟩,c2,m,c3,r⟩:=hf q x.fr[q] (by simp[hlt]);obtain⟨a',rfl,⟨d0,-⟩,⟨d1,-⟩,d2,m',d3,r'⟩:=hf' q y.fr[q] (by simp[hlt']);have c0:=AA (AB h0 hb5) c0;have c1:=AA (AB h0 hb5) c1;have c2:=AA (AB h0 hb5) c2;have c3:=AA (AB h0 hb5) c3;have d0:=AA (AB h0 hb5) d0;have d1:=AA (AB h0 hb5) d1;have d2:=AA (AB h0 hb5) d2;have d3:=AA (AB h0 hb5) d3;have hN:x.fr[q]=y.fr[q]->x.fr.take (q+1)=y.fr.take (q+1):=λh=>Cy hT.out hlt hlt' h;have hM:x.fr[q]≠y.fr[q]->x≠y:=λh e=>by
   subst e;exact h rfl
  clear ho ho' hf hf' hA hX hY hT hH;generalize x.fr[q]=m1 at*;generalize y.fr[q]=m2 at*;replace hN:=Wx hN;replace hM:=Wx hM;obtain⟨p7,k7,rfl,-,hn7,r⟩:=r;obtain⟨q7,l7,rfl,-,WM,r'⟩:=r';have hb6:=AJ wr (.cells #[cS m1.f,cS m1.b,cI cJ m1.i,cY p7 m1.vs.length k7] 232);have BJ:=hb6.alloc hb6.size (.cells #[cS m2.f,cS m2.b,cI cJ m2.i,cY q7 m2.vs.length l7] 232);have hP:=(Ae.alloc wr [cS m1.f,cS m1.b,cI cJ m1.i,cY p7 m1.vs.length k7] 232).al (.cells #[cS m2.f,cS m2.b,cI cJ m2.i,cY q7 m2.vs.length l7] 232);have hQ:=Ae.alloc (wr.alloc (.cells #[cS m1.f,cS m1.b,cI cJ m1.i,cY p7 m1.vs.length k7] 232)) [cS m2.f,cS m2.b,cI cJ m2.i,cY q7 m2.vs.length l7] 232;have z2:(wr.alloc (.cells #[cS m1.f,cS m1.b,cI cJ m1.i,cY p7 m1.vs.length k7] 232)).heap.size=wr.heap.size+1:=by simp
  rw[z2]at hQ;have x4':=λo=>AA (AJ wr o) x4;have y4':=λo=>AA (AJ wr o) y4;have d0':=λo=>AA (AJ wr o) d0;have d1':=λo=>AA (AJ wr o) d1;have d2':=λo=>AA (AJ wr o) d2;have d3':=λo=>AA (AJ wr o) d3;clear hb6 z2;go_upto_region 8 with fail;generalize Cr:(wr.alloc _).alloc _=W2 at*;go_cut[99]from 72 to 98 (λv wx=>∃r:Bool,v=cE r/\(r=cA->jV m1 m2)/\(r=cC->m1≠m2)/\wx=W2)
  ·obtain⟨a0,a1,a2,a3⟩:=hP.c4;obtain⟨b0,b1,b2,b3⟩:=hQ.c4
   cases e1:(m1.f.toList==m2.f.toList)with
   |false=>(go_wp2_with fail;go_meet;(case rel=>exact⟨_,rfl,(λh=>by cases h),(λ_=>(λe=>by rw[e]at e1;simp at e1)),(rfl)⟩))
   |true=>
   cases e2:(m1.b.toList==m2.b.toList)with
   |false=>(go_wp2_with fail;go_meet;(case rel=>exact⟨_,rfl,(λh=>by cases h),(λ_=>(λe=>by rw[e]at e2;simp at e2)),(rfl)⟩))
   |true=>
   cases e3:((m1.i:Int) !=m2.i)with
   |true=>(go_wp2_with fail;go_meet;(case rel=>exact⟨_,rfl,(λh=>by cases h),(λ_=>(λe=>by rw[e]at e3;simp at e3)),(rfl)⟩))
   |false=>
   cases e4:((m1.vs.length:Int) !=(m2.vs.length:Int))with
   |true=>(go_wp2_with fail;go_meet;(case rel=>exact⟨_,rfl,(λh=>by cases h),(λ_=>(λe=>by rw[e]at e4;simp at e4)),(rfl)⟩))
   |false=>
   have hH2:jV m1 m2:=⟨Y4 e1,Y4 e2,neI e3,Y5 e4⟩;go_wp2;go_meet;exact⟨_,rfl,(λ_=>hH2),(λh=>by cases h),rfl⟩
  obtain⟨r0,rfl,hr,hr',rfl⟩:=hcut;obtain⟨W,rfl⟩:=again wc;have hbW:=AB hb BJ;have J9:=AB hb5 BJ;cases r0;rotate_left
  ·have hne:=Wx (hM.out (hr' rfl));(go_wp2_with fail;go_ret;exact⟨Bj (hne.out),(J9)⟩)
  have hH2:=hr rfl;have hml:=Wx hH2.v;go_wp2;obtain⟨wo,rfl⟩:=again wr;go_loopw[8] (λi wr=>∃q:Nat,q<=m1.vs.length/\i=cI cJ (q:Int)/\Hid (m1.vs.take q=m2.vs.take q)/\AA6 W wr) (λi _=>m1.vs.length-(intOf i).toNat);exact⟨0,AY,rfl,Wx (by simp),AL⟩;obtain⟨j,hj,rfl,hT,Bp⟩:=hrel;have hP:=hP.nx Bp;have hQ:=hQ.nx Bp;have x3:=hP.c 3 _ rfl;have y3:=hQ.c 3 _ rfl;by_cases hend:j=m1.vs.length
  ·subst hend;have hN1:=Wx (hN.out (hH2.eq (Cz hT.out hml.out)));have hbZ:=AB hbW Bp;go_wp2;go_roundw;exact⟨q+1,by omega,by go_num,hN1,hbZ⟩;simp[intOf];omega
  ·have hlt:j<m1.vs.length:=(by omega);have A8:(j:Int)<m1.vs.length:=(by omega);have hlt':j<m2.vs.length:=(by have:=hml.out;omega);have JJ:(j:Int)<m2.vs.length:=(by omega);obtain⟨b,rfl,⟨c0,-⟩,c1,⟨c2,-⟩,c3⟩:=r j m1.vs[j] (by simp[hlt]);obtain⟨b',rfl,⟨d0,-⟩,d1,⟨d2,-⟩,d3⟩:=r' j m2.vs[j] (by simp[hlt']);have hk:=AB h0 (AB J9 Bp);have c0:=AA hk c0;have c1:=AA hk c1;have c2:=AA hk c2;have c3:=AA hk c3;have d0:=AA hk d0;have d1:=AA hk d1;have d2:=AA hk d2;have d3:=AA hk d3;have hN1:Qv m1.vs[j] m2.vs[j]=cC->m1.vs.take (j+1)=m2.vs.take (j+1):=λh=>Cy hT.out hlt hlt' (lq h);have hM1:Qv m1.vs[j] m2.vs[j]=cA->m1≠m2:=λh e=>by
    subst e;rw[Ye]at h;cases h
   have hE:∀w,(Op.equalIn 10000 234 (.agg #[cS m1.vs[j].n,cI cJ m1.vs[j].a.k,cS m1.vs[j].a.s,cI cJ m1.vs[j].a.n]) (.agg #[cS m2.vs[j].n,cI cJ m2.vs[j].a.k,cS m2.vs[j].a.s,cI cJ m2.vs[j].a.n])).run prog w=.ok (Qv m1.vs[j] m2.vs[j]) w:=λw=>AAm _ _ _ _ _ _ _ _ w;generalize Qv m1.vs[j] m2.vs[j]=bb at*;replace hN1:=Wx hN1;replace hM1:=Wx hM1;generalize m1.vs[j].n=t1 at*;generalize m1.vs[j].a.k=t2 at*;generalize m1.vs[j].a.s=t3 at*;generalize m1.vs[j].a.n=t4 at*;generalize m2.vs[j].n=t1' at*;generalize m2.vs[j].a.k=t2' at*;generalize m2.vs[j].a.s=t3' at*;generalize m2.vs[j].a.n=t4' at*;go_wp2;refine ALQ (S:=λ_ v=>v=wr.drew) rfl ?_;(iterate 11((apply Ab.z rfl;intro L w1 _ _ _ z hK;have hS:=z.s;(subst hS);go_simp;exact hK (rfl);rfl)));refine Ab.nil λw4 Bb=>?_;subst Bb;have Bp:=Bp.drew;have hbf:=AB J9 Bp;cases bb
   ·have hne:=Wx (hM.out (hM1.out (by trivial)));(go_wp2_with fail;go_ret;exact⟨Bj (hne.out),(hbf)⟩)
   ·go_wp2;go_roundw;exact⟨j+1,by omega,by go_num,Wx (hN1.out (by trivial)),Bp⟩;simp[intOf];omega
structure HdB(x y:Bk):Prop where
 n:x.n=y.n
 p:x.ps.length=y.ps.length
 c:x.cs.length=y.cs.length
 k:x.e.k=y.e.k
 a:x.e.a=y.e.a
 m:x.e.n=y.e.n
 t:x.e.to.length=y.e.to.length
theorem HdB.eq{x y:Bk}(h:HdB x y)(h1:x.e.to=y.e.to)(h2:x.ps=y.ps)(h3:x.cs=y.cs):x=y:=by
 obtain⟨a1,a2,a3,a4,a5,a6,a7⟩:=x;obtain⟨b1,b2,b3,b4,b5,b6,b7⟩:=y;grind [cases Bk,cases HdB]
theorem AAK{x y:Ph}(h1:x.d=y.d)(h2:x.is=y.is):x=y:=by grind [cases Ph]
theorem Uo(h0:AA6 w0 w){x y:Bk}(hv:Qw w0 v x u1 u2 u3)(hv':Qw w0 v' y y1 y2 y3):Calls prog 219 #[v,v'] w λe w'=>IC (x=y) e/\AA6 w w':=by
 obtain⟨rfl,-,hp,hc,ht⟩:=hv;obtain⟨rfl,-,hp',hc',ht'⟩:=hv';obtain⟨p1,k1,rfl,-,hn1,hp⟩:=hp;obtain⟨q1,l1,rfl,-,hm1,hp'⟩:=hp';obtain⟨p2,k2,rfl,-,hn2,hc⟩:=hc;obtain⟨q2,l2,rfl,-,hm2,hc'⟩:=hc';obtain⟨p3,k3,rfl,-,QY,ht⟩:=ht;obtain⟨q3,l3,rfl,-,vG,ht'⟩:=ht';have hb1:=AJ w (.cells #[cS x.n,cY p1 x.ps.length k1,cY p2 x.cs.length k2,cI cJ x.e.k,cI cJ x.e.a.k,cS x.e.a.s,cI cJ x.e.a.n,cY p3 x.e.to.length k3,cI cJ x.e.n] 82);have hb2:=hb1.alloc hb1.size (.cells #[cS y.n,cY q1 y.ps.length l1,cY q2 y.cs.length l2,cI cJ y.e.k,cI cJ y.e.a.k,cS y.e.a.s,cI cJ y.e.a.n,cY q3 y.e.to.length l3,cI cJ y.e.n] 82);have hX:=(Ae.alloc w [cS x.n,cY p1 x.ps.length k1,cY p2 x.cs.length k2,cI cJ x.e.k,cI cJ x.e.a.k,cS x.e.a.s,cI cJ x.e.a.n,cY p3 x.e.to.length k3,cI cJ x.e.n] 82).al (.cells #[cS y.n,cY q1 y.ps.length l1,cY q2 y.cs.length l2,cI cJ y.e.k,cI cJ y.e.a.k,cS y.e.a.s,cI cJ y.e.a.n,cY q3 y.e.to.length l3,cI cJ y.e.n] 82);have hY:=Ae.alloc (w.alloc (.cells #[cS x.n,cY p1 x.ps.length k1,cY p2 x.cs.length k2,cI cJ x.e.k,cI cJ x.e.a.k,cS x.e.a.s,cI cJ x.e.a.n,cY p3 x.e.to.length k3,cI cJ x.e.n] 82)) [cS y.n,cY q1 y.ps.length l1,cY q2 y.cs.length l2,cI cJ y.e.k,cI cJ y.e.a.k,cS y.e.a.s,cI cJ y.e.a.n,cY q3 y.e.to.length l3,cI cJ y.e.n] 82;have z1:(w.alloc (.cells #[cS x.n,cY p1 x.ps.length k1,cY p2 x.cs.length k2,cI cJ x.e.k,cI cJ x.e.a.k,cS x.e.a.s,cI cJ x.e.a.n,cY p3 x.e.to.length k3,cI cJ x.e.n] 82)).heap.size=w.heap.size+1:=by simp
 rw[z1]at hY;clear hb1 z1;go_enter func219,ntmps219;go_upto_region 1 with fail;generalize Cr:(w.alloc _).alloc _=W at*;clear Cr;go_cut[69]from 9 to 68 (λv wx=>∃r:Bool,v=cE r/\(r=cA->HdB x y)/\(r=cC->x≠y)/\wx=W)
 ·obtain⟨a0,a1,a2,a3,a4,a5,a6,a7,a8⟩:=hX.c9;obtain⟨b0,b1,b2,b3,b4,b5,b6,b7,b8⟩:=hY.c9;clear hX hY hp hp' hc hc' ht ht' hn1 hn2 QY hm1 hm2 vG
  cases e1:(x.n.toList==y.n.toList)with
  |false=>(go_wp2_with fail;go_meet;(case rel=>exact⟨_,rfl,(λh=>by cases h),(λ_=>(λe=>by rw[e]at e1;simp at e1)),(rfl)⟩))
  |true=>
  cases e2:((x.ps.length:Int) !=(y.ps.length:Int))with
  |true=>(go_wp2_with fail;go_meet;(case rel=>exact⟨_,rfl,(λh=>by cases h),(λ_=>(λe=>by rw[e]at e2;simp at e2)),(rfl)⟩))
  |false=>
  cases e3:((x.cs.length:Int) !=(y.cs.length:Int))with
  |true=>(go_wp2_with fail;go_meet;(case rel=>exact⟨_,rfl,(λh=>by cases h),(λ_=>(λe=>by rw[e]at e3;simp at e3)),(rfl)⟩))
  |false=>
  cases e4:((x.e.k:Int) !=y.e.k)with
  |true=>(go_wp2_with fail;go_meet;(case rel=>exact⟨_,rfl,(λh=>by cases h),(λ_=>(λe=>by rw[e]at e4;simp at e4)),(rfl)⟩))
  |false=>
  have hE:∀w,(Op.equalIn 10000 77 (.agg #[cI cJ x.e.a.k,cS x.e.a.s,cI cJ x.e.a.n]) (.agg #[cI cJ y.e.a.k,cS y.e.a.s,cI cJ y.e.a.n])).run prog w=.ok (Gz x.e.a y.e.a) w:=λw=>P8 (k:=9998) _ _ _ _ _ _ w;have hEt:Gz x.e.a y.e.a=cC->x.e.a=y.e.a:=Lp;have hEf:Gz x.e.a y.e.a=cA->x≠y:=λh e=>by
   rw[e,PG]at h;cases h
  generalize Gz x.e.a y.e.a=bb at*;replace hEt:=Wx hEt;replace hEf:=Wx hEf;cases bb
  ·(go_wp2_with fail;go_meet;(case rel=>exact⟨_,rfl,(λh=>by cases h),(λ_=>(hEf.out (by trivial))),(rfl)⟩))
  cases e6:((x.e.n:Int) !=y.e.n)with
  |true=>(go_wp2_with fail;go_meet;(case rel=>exact⟨_,rfl,(λh=>by cases h),(λ_=>(λe=>by rw[e]at e6;simp at e6)),(rfl)⟩))
  |false=>
  cases e7:((x.e.to.length:Int) !=(y.e.to.length:Int))with
  |true=>(go_wp2_with fail;go_meet;(case rel=>exact⟨_,rfl,(λh=>by cases h),(λ_=>(λe=>by rw[e]at e7;simp at e7)),(rfl)⟩))
  |false=>
  have hH:HdB x y:=⟨Y4 e1,Y5 e2,Y5 e3,neI e4,hEt.out (by trivial),neI e6,Y5 e7⟩;go_wp2;go_meet;exact⟨_,rfl,(λ_=>hH),(λh=>by cases h),rfl⟩
 obtain⟨r,rfl,hr,hr',rfl⟩:=hcut;obtain⟨W,rfl⟩:=again wc;cases r;rotate_left
 ·have hne:=Wx (hr' rfl);clear hr hr' hp hp' hc hc' ht ht';(go_wp2_with fail;go_ret;exact⟨Bj (hne.out),(hb2)⟩)
 have hH:=hr rfl;clear hr hr';have hpl:=Wx hH.p;have hcl:=Wx hH.c;have htl:=Wx hH.t;go_wp2;go_loopw[5] (λi wr=>∃q:Nat,q<=x.e.to.length/\i=cI cJ (q:Int)/\Hid (x.e.to.take q=y.e.to.take q)/\AA6 W wr) (λi _=>x.e.to.length-(intOf i).toNat);exact⟨0,AY,rfl,Wx (by simp),AL⟩;obtain⟨q,hq,rfl,hT,hb⟩:=hrel;replace hX:=hX.nx hb;replace hY:=hY.nx hb;have x7:=hX.c 7 _ rfl;have y7:=hY.c 7 _ rfl;by_cases hend:q=x.e.to.length
 ·subst hend;have hTo:x.e.to=y.e.to:=Cz hT.out htl.out;replace hTo:=Wx hTo;clear ht ht' hT;have hb3:=AB hb2 hb;clear hb;go_wp2;clear x7 y7;obtain⟨wo,rfl⟩:=again wr;go_loopw[6] (λi wr=>∃q:Nat,q<=x.ps.length/\i=cI cJ (q:Int)/\Hid (x.ps.take q=y.ps.take q)/\AA6 wo wr) (λi _=>x.ps.length-(intOf i).toNat);exact⟨0,AY,rfl,Wx (by simp),AL⟩;obtain⟨q,hq,rfl,hT,hb⟩:=hrel;replace hX:=hX.nx hb;replace hY:=hY.nx hb;have x1:=hX.c 1 _ rfl;have y1:=hY.c 1 _ rfl;have hb4:=AB hb3 hb;by_cases hend:q=x.ps.length
  ·subst hend;have hPs:x.ps=y.ps:=Cz hT.out hpl.out;replace hPs:=Wx hPs;clear hp hp' hb hb3 hT;go_wp2;clear x1 y1;obtain⟨wp,rfl⟩:=again wr;go_loopw[8] (λi wr=>∃q:Nat,q<=x.cs.length/\i=cI cJ (q:Int)/\Hid (x.cs.take q=y.cs.take q)/\AA6 wp wr) (λi _=>x.cs.length-(intOf i).toNat);exact⟨0,AY,rfl,Wx (by simp),AL⟩;obtain⟨q,hq,rfl,hT,hb⟩:=hrel;replace hX:=hX.nx hb;replace hY:=hY.nx hb;have x2:=hX.c 2 _ rfl;have y2:=hY.c 2 _ rfl;have hb5:=AB hb4 hb;clear hX hY;by_cases hend:q=x.cs.length
   ·subst hend;have TK:x=y:=hH.eq hTo.out hPs.out (Cz hT.out hcl.out);replace TK:=Wx TK;clear hc hc' hb hb4 hT;go_wp2;go_ret;exact⟨Ir TK.out,hb5⟩
   ·have hlt:q<x.cs.length:=(by omega);have A8:(q:Int)<x.cs.length:=(by omega);have hlt':q<y.cs.length:=(by have:=hcl.out;omega);have JJ:(q:Int)<y.cs.length:=(by omega);obtain⟨b,rfl,hA⟩:=hc q x.cs[q] (by simp[hlt]);obtain⟨b',rfl,hA'⟩:=hc' q y.cs[q] (by simp[hlt']);clear hc hc';obtain⟨t1,t2,t3,hI,c0,c1,c2,c3,c4,c5⟩:=hA.val;obtain⟨s1,s2,s3,hI',d0,d1,d2,d3,d4,d5⟩:=hA'.val;have hk:=AB h0 hb5;have hS:=λW (hW:AA6 wr W)=>Un (AB hk hW) hI hI';have hN:x.cs[q]=y.cs[q]->x.cs.take (q+1)=y.cs.take (q+1):=λh=>Cy hT.out hlt hlt' h;have hM:x.cs[q]≠y.cs[q]->x≠y:=λh e=>by
     subst e;exact h rfl
    clear hI hI' hA hA' hT;have c0:=AA hk c0;have c1:=AA hk c1;have c2:=AA hk c2;have c3:=AA hk c3;have c4:=AA hk c4;have c5:=AA hk c5;have d0:=AA hk d0;have d1:=AA hk d1;have d2:=AA hk d2;have d3:=AA hk d3;have d4:=AA hk d4;have d5:=AA hk d5;generalize x.cs[q]=m1 at*;generalize y.cs[q]=m2 at*;have BJ:=(Below.refl wr.heap.size wr).drew;clear hk;by_cases hm:m1=m2
    ·have hS1:∀W,AA6 wr W->Calls prog 240 #[.agg #[cI cJ m1.op,cS m1.d,cS m1.n,t1,t2,t3],.agg #[cI cJ m2.op,cS m2.d,cS m2.n,s1,s2,s3]] W λe w'=>e=.returned (cE cC)/\AA6 W w':=λW hW=>(hS W hW).mono λ_ _ h=>⟨h.1.yes hm,h.2⟩;have hN1:=Wx (hN hm);clear hS hN hM hm;go_wp2;refine ALQ (S:=λ_ v=>AA6 wr v) BJ ?_;(iterate 12(first|(refine Ab.f (λz=>z.s) (λz=>ALS (AA z.s x2) (ALS (AA z.s y2) (ALS (AA z.s c0) (ALS (AA z.s d0) (ALS (AA z.s c1) (ALS (AA z.s d1) (ALS (AA z.s c2) (ALS (AA z.s d2) (ALS (AA z.s c3) (ALS (AA z.s d3) (ALS (AA z.s c4) (ALS (AA z.s d4) (ALS (AA z.s c5) (AA z.s d5)))))))))))))) ?_)|(refine Ab.c (λz=>hS1 _ z.s) (λz hb=>AB z.s hb) ?_)));refine Ab.nil λw4 Bb=>?_;have Bp:=AB hb Bb;clear BJ hS1 c0 c1 c2 c3 c4 c5 d0 d1 d2 d3 d4 d5 x2 y2;go_wp2;go_roundw;exact⟨q+1,by omega,by go_num,hN1,Bp⟩;simp[intOf];omega
    ·have hS1:∀W,AA6 wr W->Calls prog 240 #[.agg #[cI cJ m1.op,cS m1.d,cS m1.n,t1,t2,t3],.agg #[cI cJ m2.op,cS m2.d,cS m2.n,s1,s2,s3]] W λe w'=>e=.returned (cE cA)/\AA6 W w':=λW hW=>(hS W hW).mono λ_ _ h=>⟨h.1.no hm,h.2⟩;have hne:=Wx (hM hm);clear hS hN hM hm;go_wp2;refine ALQ (S:=λ_ v=>AA6 wr v) BJ ?_;(iterate 12(first|(refine Ab.f (λz=>z.s) (λz=>ALS (AA z.s x2) (ALS (AA z.s y2) (ALS (AA z.s c0) (ALS (AA z.s d0) (ALS (AA z.s c1) (ALS (AA z.s d1) (ALS (AA z.s c2) (ALS (AA z.s d2) (ALS (AA z.s c3) (ALS (AA z.s d3) (ALS (AA z.s c4) (ALS (AA z.s d4) (ALS (AA z.s c5) (AA z.s d5)))))))))))))) ?_)|(refine Ab.c (λz=>hS1 _ z.s) (λz hb=>AB z.s hb) ?_)));refine Ab.nil λw4 Bb=>?_;have Bp:=AB hb5 Bb;clear BJ hS1 c0 c1 c2 c3 c4 c5 d0 d1 d2 d3 d4 d5 x2 y2;(go_wp2_with fail;go_ret;exact⟨Bj (hne.out),(Bp)⟩)
  ·have hlt:q<x.ps.length:=(by omega);have A8:(q:Int)<x.ps.length:=(by omega);have hlt':q<y.ps.length:=(by have:=hpl.out;omega);have JJ:(q:Int)<y.ps.length:=(by omega);obtain⟨b,rfl,⟨c0,-⟩,m,c1,r⟩:=hp q x.ps[q] (by simp[hlt]);obtain⟨b',rfl,⟨d0,-⟩,m',d1,r'⟩:=hp' q y.ps[q] (by simp[hlt']);have c0:=AA (AB h0 hb4) c0;have c1:=AA (AB h0 hb4) c1;have d0:=AA (AB h0 hb4) d0;have d1:=AA (AB h0 hb4) d1;have hN:x.ps[q]=y.ps[q]->x.ps.take (q+1)=y.ps.take (q+1):=λh=>Cy hT.out hlt hlt' h;have hM:x.ps[q]≠y.ps[q]->x≠y:=λh e=>by
    subst e;exact h rfl
   clear hp hp' hc hc' hb3 hT hH;generalize x.ps[q]=m1 at*;generalize y.ps[q]=m2 at*;replace hN:=Wx hN;replace hM:=Wx hM;obtain⟨p7,k7,rfl,-,hn7,r⟩:=r;obtain⟨q7,l7,rfl,-,WM,r'⟩:=r';go_upto_region 11 with fail;go_cut[127]from 98 to 126 (λv wx=>∃r:Bool,v=cE r/\(r=cA->m1.d=m2.d/\m1.is.length=m2.is.length)/\(r=cC->m1≠m2)/\AA6 wr wx)
   ·have hbd:=(Below.refl wr.heap.size wr).drew
    cases e1:(m1.d.toList==m2.d.toList)with
    |false=>
     go_wp2;refine ALQ (S:=λ_ v=>AA6 wr v) hbd ?_;(iterate 30(first|(refine Ab.f (λz=>z.s) (λz=>ALS (AA z.s x1) (ALS (AA z.s y1) (ALS (AA z.s c0) (ALS (AA z.s d0) (ALS (AA z.s c1) (AA z.s d1)))))) ?_)|(refine Ab.skip rfl (λL w1 hS hi=>(hS)) ?_;(try simp only[pE]))));refine Ab.nil λw4 Bb=>?_
     (go_wp2_with fail;go_meet;(case rel=>exact⟨_,rfl,(λh=>by cases h),(λ_=>(λe=>by rw[e]at e1;simp at e1)),(Bb)⟩))
    |true=>
    cases e2:((m1.is.length:Int) !=(m2.is.length:Int))with
    |true=>
     go_wp2;refine ALQ (S:=λ_ v=>AA6 wr v) hbd ?_;(iterate 30(first|(refine Ab.f (λz=>z.s) (λz=>ALS (AA z.s x1) (ALS (AA z.s y1) (ALS (AA z.s c0) (ALS (AA z.s d0) (ALS (AA z.s c1) (AA z.s d1)))))) ?_)|(refine Ab.skip rfl (λL w1 hS hi=>(hS)) ?_;(try simp only[pE]))));refine Ab.nil λw4 Bb=>?_
     (go_wp2_with fail;go_meet;(case rel=>exact⟨_,rfl,(λh=>by cases h),(λ_=>(λe=>by rw[e]at e2;simp at e2)),(Bb)⟩))
    |false=>
     go_wp2;refine ALQ (S:=λ_ v=>AA6 wr v) hbd ?_;(iterate 30(first|(refine Ab.f (λz=>z.s) (λz=>ALS (AA z.s x1) (ALS (AA z.s y1) (ALS (AA z.s c0) (ALS (AA z.s d0) (ALS (AA z.s c1) (AA z.s d1)))))) ?_)|(refine Ab.skip rfl (λL w1 hS hi=>(hS)) ?_;(try simp only[pE]))));refine Ab.nil λw4 Bb=>?_;go_wp2;go_meet;exact⟨_,rfl,(λ_=>⟨Y4 e1,Y5 e2⟩),(λh=>by cases h),Bb⟩
   obtain⟨r0,rfl,hr,hr',hbc⟩:=hcut;obtain⟨wv,rfl⟩:=again wc;replace x1:=AA hbc x1;replace y1:=AA hbc y1;replace c1:=AA hbc c1;replace d1:=AA hbc d1;have hbv:=AB hb hbc;have qx:=AB hb4 hbc;cases r0;rotate_left
   ·have hne:=Wx (hM.out (hr' rfl));(go_wp2_with fail;go_ret;exact⟨Bj (hne.out),(qx)⟩)
   obtain⟨hdd,hil⟩:=hr rfl;replace hdd:=Wx hdd;replace hil:=Wx hil;go_wp2;obtain⟨wz,rfl⟩:=again wr;go_loopw[7] (λi wr=>∃q:Nat,q<=m1.is.length/\i=cI cJ (q:Int)/\Hid (m1.is.take q=m2.is.take q)/\AA6 wv wr) (λi _=>m1.is.length-(intOf i).toNat);exact⟨0,AY,rfl,Wx (by simp),AL⟩;obtain⟨j,hj,rfl,hT,hb6⟩:=hrel;have x1:=AA hb6 x1;have y1:=AA hb6 y1;have c1:=AA hb6 c1;have d1:=AA hb6 d1;by_cases hend:j=m1.is.length
   ·subst hend;have hN1:=Wx (hN.out (AAK hdd.out (Cz hT.out hil.out)));have hbZ:=AB hbv hb6;go_wp2;go_roundw;exact⟨q+1,by omega,by go_num,hN1,hbZ⟩;simp[intOf];omega
   ·have hlt:j<m1.is.length:=(by omega);have A8:(j:Int)<m1.is.length:=(by omega);have hlt':j<m2.is.length:=(by have:=hil.out;omega);have JJ:(j:Int)<m2.is.length:=(by omega);obtain⟨f,rfl,⟨f0,-⟩,f1,⟨f2,-⟩,f3⟩:=r j m1.is[j] (by simp[hlt]);obtain⟨f',rfl,⟨g0,-⟩,g1,⟨g2,-⟩,g3⟩:=r' j m2.is[j] (by simp[hlt']);have hk:=AB h0 (AB qx hb6);have f0:=AA hk f0;have f1:=AA hk f1;have f2:=AA hk f2;have f3:=AA hk f3;have g0:=AA hk g0;have g1:=AA hk g1;have g2:=AA hk g2;have g3:=AA hk g3;have hN1:Qt m1.is[j] m2.is[j]=cC->m1.is.take (j+1)=m2.is.take (j+1):=λh=>Cy hT.out hlt hlt' (lY h);have hM1:Qt m1.is[j] m2.is[j]=cA->m1≠m2:=λh e=>by
     subst e;rw[Yc]at h;cases h
    have hE:∀w,(Op.equalIn 10000 213 (.agg #[cS m1.is[j].b,cI cJ m1.is[j].a.k,cS m1.is[j].a.s,cI cJ m1.is[j].a.n]) (.agg #[cS m2.is[j].b,cI cJ m2.is[j].a.k,cS m2.is[j].a.s,cI cJ m2.is[j].a.n])).run prog w=.ok (Qt m1.is[j] m2.is[j]) w:=λw=>tV _ _ _ _ _ _ _ _ w;generalize Qt m1.is[j] m2.is[j]=bb at*;have hbf:=AB qx hb6;replace hN1:=Wx hN1;replace hM1:=Wx hM1;generalize m1.is[j].b=t1 at*;generalize m1.is[j].a.k=t2 at*;generalize m1.is[j].a.s=t3 at*;generalize m1.is[j].a.n=t4 at*;generalize m2.is[j].b=t1' at*;generalize m2.is[j].a.k=t2' at*;generalize m2.is[j].a.s=t3' at*;generalize m2.is[j].a.n=t4' at*;go_wp2;refine ALQ (S:=λ_ v=>v=wr.drew) rfl ?_;(iterate 19((apply Ab.z rfl;intro L w1 _ _ _ z hK;have hS:=z.s;(subst hS);go_simp;exact hK (rfl);rfl)));refine Ab.nil λw4 Bb=>?_;subst Bb;have Bp:=hb6.drew;have hbg:=hbf.drew;cases bb
    ·have hne:=Wx (hM.out (hM1.out (by trivial)));(go_wp2_with fail;go_ret;exact⟨Bj (hne.out),(hbg)⟩)
    ·go_wp2;go_roundw;exact⟨j+1,by omega,by go_num,Wx (hN1.out (by trivial)),Bp⟩;simp[intOf];omega
 ·have hlt:q<x.e.to.length:=by omega
  have A8:(q:Int)<x.e.to.length:=by omega
  have hlt':q<y.e.to.length:=by have:=htl.out;omega
  have JJ:(q:Int)<y.e.to.length:=by omega
  obtain⟨b,rfl,c0,-⟩:=ht q x.e.to[q] (by simp[hlt]);obtain⟨b',rfl,d0,-⟩:=ht' q y.e.to[q] (by simp[hlt']);have hbf:=AB hb2 hb;have c0:=AA (AB h0 hbf) c0;have d0:=AA (AB h0 hbf) d0;have hN:x.e.to[q]=y.e.to[q]->x.e.to.take (q+1)=y.e.to.take (q+1):=λh=>Cy hT.out hlt hlt' h;have hM:x.e.to[q]≠y.e.to[q]->x≠y:=λh e=>by
   subst e;exact h rfl
  rw[Nat.mul_one]at c0 d0;generalize x.e.to[q]=s at*;generalize y.e.to[q]=s' at*;replace hN:=Wx hN;replace hM:=Wx hM
  cases e1:(s.toList==s'.toList)with
  |false=>
   go_wp2;refine ALQ (S:=λ_ v=>v=wr.drew) rfl ?_;(iterate 13((apply Ab.z rfl;intro L w1 _ _ _ z hK;have hS:=z.s;(subst hS);go_simp;exact hK (rfl);rfl)));refine Ab.nil λw4 Bb=>?_;subst Bb;have hne:=Wx (hM.out λe=>by rw[e]at e1;simp at e1);have hbg:=hbf.drew
   (go_wp2_with fail;go_ret;exact⟨Bj (hne.out),(hbg)⟩)
  |true=>
   have hN1:=Wx (hN.out (Y4 e1));go_wp2;refine ALQ (S:=λ_ v=>v=wr.drew) rfl ?_;(iterate 13((apply Ab.z rfl;intro L w1 _ _ _ z hK;have hS:=z.s;(subst hS);go_simp;exact hK (rfl);rfl)));refine Ab.nil λw4 Bb=>?_;subst Bb;have Bp:=hb.drew;go_wp2;go_roundw;exact⟨q+1,by omega,by go_num,hN1,Bp⟩;simp[intOf];omega
structure HdF(x y:Fn):Prop where
 n:x.n=y.n
 r:x.r=y.r
 p:x.ps=y.ps
 v:x.vs=y.vs
 b:x.bs.length=y.bs.length
theorem HdF.eq{x y:Fn}(h:HdF x y)(h1:x.bs=y.bs):x=y:=by grind [cases Fn,cases HdF]
structure HdP(x y:Pg):Prop where
 s:x.ssa=y.ssa
 c:x.cs.length=y.cs.length
 g:x.gs=y.gs
 m:x.xs.length=y.xs.length
 f:x.fs.length=y.fs.length
theorem HdP.eq{x y:Pg}(h:HdP x y)(h1:x.cs=y.cs)(h2:x.xs=y.xs)(h3:x.fs=y.fs):x=y:=by grind [cases Pg,cases HdP]
theorem AAr{x y:Cl}(h1:x.n=y.n)(h2:x.fs=y.fs):x=y:=by grind [cases Cl]
theorem Xn(h0:AA6 w0 w){x y:Fn}(hv:EL w0 v x u1 u2 u3)(hv':EL w0 v' y y1 y2 y3):Calls prog 177 #[v,v'] w λe w'=>IC (x=y) e/\AA6 w w':=by
 obtain⟨rfl,-,hp,hc,ht⟩:=hv;obtain⟨rfl,-,hp',hc',ht'⟩:=hv';have hA:=λW (hW:AA6 w0 W)=>I5 hW hp hp';have hB:=λW (hW:AA6 w0 W)=>I5 hW hc hc';obtain⟨p1,k1,rfl⟩:=hp.slice;obtain⟨q1,l1,rfl⟩:=hp'.slice;obtain⟨p2,k2,rfl⟩:=hc.slice;obtain⟨q2,l2,rfl⟩:=hc'.slice;obtain⟨p3,k3,rfl,-,QY,ht⟩:=ht;obtain⟨q3,l3,rfl,-,vG,ht'⟩:=ht';have hb1:=AJ w (.cells #[cS x.n,cS x.r,cY p1 x.ps.length k1,cY p2 x.vs.length k2,cY p3 x.bs.length k3] 66);have hb2:=hb1.alloc hb1.size (.cells #[cS y.n,cS y.r,cY q1 y.ps.length l1,cY q2 y.vs.length l2,cY q3 y.bs.length l3] 66);have hX:=(Ae.alloc w [cS x.n,cS x.r,cY p1 x.ps.length k1,cY p2 x.vs.length k2,cY p3 x.bs.length k3] 66).al (.cells #[cS y.n,cS y.r,cY q1 y.ps.length l1,cY q2 y.vs.length l2,cY q3 y.bs.length l3] 66);have hY:=Ae.alloc (w.alloc (.cells #[cS x.n,cS x.r,cY p1 x.ps.length k1,cY p2 x.vs.length k2,cY p3 x.bs.length k3] 66)) [cS y.n,cS y.r,cY q1 y.ps.length l1,cY q2 y.vs.length l2,cY q3 y.bs.length l3] 66;have z1:(w.alloc (.cells #[cS x.n,cS x.r,cY p1 x.ps.length k1,cY p2 x.vs.length k2,cY p3 x.bs.length k3] 66)).heap.size=w.heap.size+1:=by simp
 rw[z1]at hY;go_enter func177,ntmps177;go_upto_region 1 with fail;generalize Cr:(w.alloc _).alloc _=W at*;go_cut[42]from 6 to 41 (λv wx=>∃r:Bool,v=cE r/\(r=cA->HdF x y)/\(r=cC->x≠y)/\AA6 W wx)
 ·have hA1:=hA _ (AB h0 hb2);have hB1:=λW' (hW:AA6 W W')=>hB W' (AB (AB h0 hb2) hW);obtain⟨a0,a1,a2⟩:=hX.c3;obtain⟨b0,b1,b2⟩:=hY.c3
  cases e1:(x.n.toList==y.n.toList)with
  |false=>(go_wp2_with fail;go_meet;(case rel=>exact⟨_,rfl,(λh=>by cases h),(λ_=>(λe=>by rw[e]at e1;simp at e1)),(AL)⟩))
  |true=>
  cases e2:(x.r.toList==y.r.toList)with
  |false=>(go_wp2_with fail;go_meet;(case rel=>exact⟨_,rfl,(λh=>by cases h),(λ_=>(λe=>by rw[e]at e2;simp at e2)),(AL)⟩))
  |true=>
  go_wp2_with fail;refine hA1.mono ?_;rintro e w1 ⟨⟨r,rfl,hr,hr'⟩,hb3⟩;replace hr:=Wx hr;replace hr':=Wx hr';cases r
  ·(go_wp2_with fail;go_meet;(case rel=>exact⟨_,rfl,(λh=>by cases h),(λ_=>(λe=>hr'.out (by trivial) (by rw[e]))),(hb3)⟩))
  have hB2:=hB1 _ hb3;have hX1:=hX.nx hb3;have nG:=hY.nx hb3;have a3:=hX1.c 3 _ rfl;have b3:=nG.c 3 _ rfl;go_wp2_with fail;refine hB2.mono ?_;rintro e w2 ⟨⟨r,rfl,hs,hs'⟩,hb4⟩;replace hs:=Wx hs;replace hs':=Wx hs';clear hB2;have hb5:=AB hb3 hb4;cases r
  ·(go_wp2_with fail;go_meet;(case rel=>exact⟨_,rfl,(λh=>by cases h),(λ_=>(λe=>hs'.out (by trivial) (by rw[e]))),(hb5)⟩))
  have hX2:=hX1.nx hb4;have hY2:=nG.nx hb4;have a4:=hX2.c 4 _ rfl;have b4:=hY2.c 4 _ rfl;clear hX1 nG
  cases e5:((x.bs.length:Int) !=(y.bs.length:Int))with
  |true=>(go_wp2_with fail;go_meet;(case rel=>exact⟨_,rfl,(λh=>by cases h),(λ_=>(λe=>by rw[e]at e5;simp at e5)),(hb5)⟩))
  |false=>
  have hH:HdF x y:=⟨Y4 e1,Y4 e2,hr.out (by trivial),hs.out (by trivial),Y5 e5⟩;go_wp2;go_meet;exact⟨_,rfl,(λ_=>hH),(λh=>by cases h),hb5⟩
 obtain⟨r,rfl,hr,hr',hb3⟩:=hcut;obtain⟨w1,rfl⟩:=again wc;have hb5:=AB hb2 hb3;replace hX:=hX.nx hb3;replace hY:=hY.nx hb3;clear hb2 hb3 hA hB;cases r;rotate_left
 ·have hne:=Wx (hr' rfl);clear hr hr' ht ht';(go_wp2_with fail;go_ret;exact⟨Bj (hne.out),(hb5)⟩)
 have hH:=hr rfl;have hbl:=Wx hH.b;go_wp2;go_loopw[5] (λi wr=>∃q:Nat,q<=x.bs.length/\i=cI cJ (q:Int)/\Hid (x.bs.take q=y.bs.take q)/\AA6 w1 wr) (λi _=>x.bs.length-(intOf i).toNat);exact⟨0,AY,rfl,Wx (by simp),AL⟩;obtain⟨q,hq,rfl,hT,hb⟩:=hrel;replace hX:=hX.nx hb;replace hY:=hY.nx hb;have x4:=hX.c 4 _ rfl;have y4:=hY.c 4 _ rfl;have hb6:=AB hb5 hb;by_cases hend:q=x.bs.length
 ·subst hend;have TK:x=y:=hH.eq (Cz hT.out hbl.out);replace TK:=Wx TK;go_wp2;go_ret;exact⟨Ir TK.out,hb6⟩
 ·have hlt:q<x.bs.length:=by omega
  have A8:(q:Int)<x.bs.length:=by omega
  have hlt':q<y.bs.length:=by have:=hbl.out;omega
  have JJ:(q:Int)<y.bs.length:=by omega
  obtain⟨b,rfl,hI0⟩:=ht q x.bs[q] (by simp[hlt]);obtain⟨b',rfl,jN⟩:=ht' q y.bs[q] (by simp[hlt']);obtain⟨t1,t2,t3,hI,c0,c1,c2,c3,c4,c5,c6,c7,c8⟩:=hI0.val;obtain⟨s1,s2,s3,hI',d0,d1,d2,d3,d4,d5,d6,d7,d8⟩:=jN.val;have hk:=AB h0 hb6;have hS:=λW (hW:AA6 wr W)=>Uo (AB hk hW) hI hI';have hN:x.bs[q]=y.bs[q]->x.bs.take (q+1)=y.bs.take (q+1):=λh=>Cy hT.out hlt hlt' h;have hM:x.bs[q]≠y.bs[q]->x≠y:=λh e=>by
   subst e;exact h rfl
  have c0:=AA hk c0;have c1:=AA hk c1;have c2:=AA hk c2;have c3:=AA hk c3;have c4:=AA hk c4;have c5:=AA hk c5;have c6:=AA hk c6;have c7:=AA hk c7;have c8:=AA hk c8;have d0:=AA hk d0;have d1:=AA hk d1;have d2:=AA hk d2;have d3:=AA hk d3;have d4:=AA hk d4;have d5:=AA hk d5;have d6:=AA hk d6;have d7:=AA hk d7;have d8:=AA hk d8;generalize x.bs[q]=m1 at*;generalize y.bs[q]=m2 at*;have BJ:=(Below.refl wr.heap.size wr).drew;clear hk;by_cases hm:m1=m2
  ·have hS1:∀W,AA6 wr W->Calls prog 219 #[.agg #[cS m1.n,t1,t2,cI cJ m1.e.k,cI cJ m1.e.a.k,cS m1.e.a.s,cI cJ m1.e.a.n,t3,cI cJ m1.e.n],.agg #[cS m2.n,s1,s2,cI cJ m2.e.k,cI cJ m2.e.a.k,cS m2.e.a.s,cI cJ m2.e.a.n,s3,cI cJ m2.e.n]] W λe w'=>e=.returned (cE cC)/\AA6 W w':=λW hW=>(hS W hW).mono λ_ _ h=>⟨h.1.yes hm,h.2⟩;have hN1:=Wx (hN hm);clear hS hN hM hm;go_wp2;refine ALQ (S:=λ_ v=>AA6 wr v) BJ ?_;(iterate 12(first|(refine Ab.f (λz=>z.s) (λz=>ALS (AA z.s x4) (ALS (AA z.s y4) (ALS (AA z.s c0) (ALS (AA z.s d0) (ALS (AA z.s c1) (ALS (AA z.s d1) (ALS (AA z.s c2) (ALS (AA z.s d2) (ALS (AA z.s c3) (ALS (AA z.s d3) (ALS (AA z.s c4) (ALS (AA z.s d4) (ALS (AA z.s c5) (ALS (AA z.s d5) (ALS (AA z.s c6) (ALS (AA z.s d6) (ALS (AA z.s c7) (ALS (AA z.s d7) (ALS (AA z.s c8) (AA z.s d8)))))))))))))))))))) ?_)|(refine Ab.c (λz=>hS1 _ z.s) (λz hb=>AB z.s hb) ?_)));refine Ab.nil λw4 Bb=>?_;have Bp:=AB hb Bb;go_wp2;go_roundw;exact⟨q+1,by omega,by go_num,hN1,Bp⟩;simp[intOf];omega
  ·have hS1:∀W,AA6 wr W->Calls prog 219 #[.agg #[cS m1.n,t1,t2,cI cJ m1.e.k,cI cJ m1.e.a.k,cS m1.e.a.s,cI cJ m1.e.a.n,t3,cI cJ m1.e.n],.agg #[cS m2.n,s1,s2,cI cJ m2.e.k,cI cJ m2.e.a.k,cS m2.e.a.s,cI cJ m2.e.a.n,s3,cI cJ m2.e.n]] W λe w'=>e=.returned (cE cA)/\AA6 W w':=λW hW=>(hS W hW).mono λ_ _ h=>⟨h.1.no hm,h.2⟩;have hne:=Wx (hM hm);go_wp2;refine ALQ (S:=λ_ v=>AA6 wr v) BJ ?_;(iterate 12(first|(refine Ab.f (λz=>z.s) (λz=>ALS (AA z.s x4) (ALS (AA z.s y4) (ALS (AA z.s c0) (ALS (AA z.s d0) (ALS (AA z.s c1) (ALS (AA z.s d1) (ALS (AA z.s c2) (ALS (AA z.s d2) (ALS (AA z.s c3) (ALS (AA z.s d3) (ALS (AA z.s c4) (ALS (AA z.s d4) (ALS (AA z.s c5) (ALS (AA z.s d5) (ALS (AA z.s c6) (ALS (AA z.s d6) (ALS (AA z.s c7) (ALS (AA z.s d7) (ALS (AA z.s c8) (AA z.s d8)))))))))))))))))))) ?_)|(refine Ab.c (λz=>hS1 _ z.s) (λz hb=>AB z.s hb) ?_)));refine Ab.nil λw4 Bb=>?_;have Bp:=AB hb6 Bb;(go_wp2_with fail;go_ret;exact⟨Bj (hne.out),(Bp)⟩)
end Go.Proofs.YtlffomedflegdaaGreatDoor
