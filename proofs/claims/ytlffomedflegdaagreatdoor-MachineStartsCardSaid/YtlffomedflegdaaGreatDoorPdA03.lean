/- Part A03 of the proof: Vb. -/
import Derived.Test.YtlffomedflegdaaGreatDoorPdA02
set_option linter.all false
set_option maxHeartbeats 16000000
set_option maxRecDepth 100000
namespace Go.Proofs.YtlffomedflegdaaGreatDoor
open Go.Proofs.Tryz
open Go.RowKit
open Go.Value renaming int→cI,string→cS,slice→cY,bool→cE
open Go.IntKind renaming i64→cJ
open Option renaming some→cP,none→cX
open Bool renaming false→cA,true→cC
open Num Dp
abbrev rsV(gl fr:Value):Value:=.agg #[cI cJ 0,cS ⟨#[]⟩,cI cJ 0,cI cJ 0,cY cX 0 0,cY cX 0 0,gl,cY cX 0 0,cY cX 0 0,cI cJ 0,cI cJ 0,cI cJ 0,cI cJ 0,fr,cI cJ 0]
abbrev rsC(gl fr:Value):List Value:=[cI cJ 0,cS ⟨#[]⟩,cI cJ 0,cI cJ 0,cY cX 0 0,cY cX 0 0,gl,cY cX 0 0,cY cX 0 0,cI cJ 0,cI cJ 0,cI cJ 0,cI cJ 0,fr,cI cJ 0]
abbrev fzC:List Value:=[cS ⟨#[]⟩,cS ⟨#[]⟩,cY cX 0 0,cY cX 0 0,cY cX 0 0]
def ACQ(l:List Vu):List Value:=l.flatMap λx=> [cS x.1,cI cJ x.2]
def ABq(w:World)(x bn:ByteArray)(m:Vm)(g:List Vu)(gl fr:Value)(P:Nat->Prop):Prop:=
 ∃ABn ACK,fr=cY (cP ⟨ABn,0,cX⟩) 1 1/\Ae w ABn [cS x,cS bn,cI cJ 0,ACK]/\ACV w 0 ACK m/\w.ownsRow 0 34 2 gl g.length (ACQ g)/\(∀b,b=ABn\/ACK.ownBlock=cP b\/gl.ownBlock=cP b->b<w.heap.size/\P b)/\∃cur,w.heap[ABn]? =cP (.cells cur 95 (0,0))/\cur.size=4
def ACW{w w2:World}{B s n:Nat}{e:TypeId}{v:Value}{xs:List Value}(h:w.ownsRow B e s v n xs)(hk:∀b,v.ownBlock=cP b->w2.heap[b]? =w.heap[b]?):w2.ownsRow B e s v n xs:=by
 rcases id h with⟨h1,h2⟩;refine⟨h1,?_⟩;rcases h2 with h2|⟨g,cap,cur,e,hb,hg,h3⟩
 ·exact .inl h2
 ·exact .inr ⟨g,cap,cur,e,hb,(hk g (by rw[e];rfl)).trans hg,h3⟩
def ACY{w:World}{B C s n:Nat}{e:TypeId}{v:Value}{xs:List Value}(h:w.ownsRow B e s v n xs)(hC:C<=B):w.ownsRow C e s v n xs:=by
 rcases id h with⟨h1,h2⟩;refine⟨h1,?_⟩;rcases h2 with h2|⟨g,cap,cur,e,hb,h3⟩
 ·exact .inl h2
 ·exact .inr ⟨g,cap,cur,e,AX hC hb,h3⟩
def ABq.same{w w1:World}{x bn:ByteArray}{m:Vm}{g:List Vu}{gl fr:Value}{P Q:Nat->Prop}(h:ABq w x bn m g gl fr P)(hh:∀b,b<w.heap.size->P b->w1.heap[b]? =w.heap[b]?)(hz:w.heap.size<=w1.heap.size)(hQ:∀b,b<w.heap.size->P b->Q b):ABq w1 x bn m g gl fr Q:=by
 obtain⟨ABn,ACK,h1,h2,h3,h4,h5,cur,h6,h7⟩:=h;have k:∀b,b=ABn\/ACK.ownBlock=cP b\/gl.ownBlock=cP b->w1.heap[b]? =w.heap[b]? :=λb hb=>hh b (h5 b hb).1 (h5 b hb).2;exact⟨ABn,ACK,h1,h2.same (k ABn (.inl rfl)),ACW h3 λb hb=>k b (.inr (.inl hb)),ACW h4 λb hb=>k b (.inr (.inr hb)),λb hb=>⟨A9 (h5 b hb).1 hz,hQ b (h5 b hb).1 (h5 b hb).2⟩,cur,(k ABn (.inl rfl)).trans h6,h7⟩
def ADK{w0 w:World}(h0:AA6 w0 w){p:Pg}{u1 u2 u3 u4:Value}(hp:Cj w0 (.agg #[cE p.ssa,u1,u2,u3,u4]) p u1 u2 u3 u4)(x:ByteArray)(hf:Ai Fn.n x p.fs=cX)(pa:Option Addr)(la ca:Nat):Calls prog 15 #[.agg #[cE p.ssa,u1,u2,u3,u4],cS x,cY pa la ca] w λe w'=>e=.returned (.tuple #[rsV (cY cX 0 0) (cY cX 0 0),cE cA])/\AA6 w w':=by
 have hL:=λv (hv:AA6 w0 v)=>Uf hv hp x;rw[hf]at hL;obtain⟨pc,cc,rfl⟩:=hp.c.slice;obtain⟨pg,cg,rfl⟩:=hp.g.slice;obtain⟨px,cx,rfl⟩:=hp.xt.slice;obtain⟨pf,cf,rfl⟩:=hp.f.slice;generalize p.cs.length=n1 at*;generalize p.gs.length=n2 at*;generalize p.xs.length=n3 at*;generalize p.fs.length=n4 at*;generalize p.ssa=ssa at*;obtain⟨hP,hZ,hb1⟩:=Ch (w:=w) (c1:=[cE ssa,cY pc n1 cc,cY pg n2 cg,cY px n3 cx,cY pf n4 cf]) (c2:=rsC (cY cX 0 0) (cY cX 0 0)) (t1:=27) (t2:=48) (AL);go_enter func15,ntmps15;go_wp2_with fail;generalize hW:World.alloc _ _=W at*;refine(hL _ (AB h0 hb1)).mono ?_;rintro e w2 ⟨hb2,rfl⟩;have hZ2:=hZ.nx hb2;have hZ3:=hZ2.al (.cells fzC.toArray 66);have hb3:=(AB hb1 hb2).alloc (AB hb1 hb2).size (.cells fzC.toArray 66);have hbf:=hb3.trans (Ay (B:=w.heap.size) (p:=w.heap.size+1) (by omega) (rsC (cY cX 0 0) (cY cX 0 0)) 0 (w2.alloc (.cells fzC.toArray 66)));obtain⟨r0,r1,r2,r3,r4,r5,r6,r7,r8,r9,r10,r11,r12⟩:=hZ3.c13;have r13:=hZ3.c 13 _ rfl;have r14:=hZ3.c 14 _ rfl;obtain⟨s0,s1,s2,s3,s4,s5,s6,s7,s8,s9,s10,s11,s12⟩:=hZ3.f13;have s13:=hZ3.f 13 (by simp);have s14:=hZ3.f 14 (by simp);go_wp2_with fail;(refine rB rfl (by go_simp;try rfl) rfl ?_);exact⟨rfl,hbf⟩
end Go.Proofs.YtlffomedflegdaaGreatDoor
