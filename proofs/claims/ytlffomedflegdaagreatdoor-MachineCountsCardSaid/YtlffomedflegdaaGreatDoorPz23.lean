/- Part 23 of 49 of the proof: Tp, Knp, Oa, FloP, FloRP, FloRG, FloG, NumP, NumRP, NumG, NumRG. -/
import Derived.Lib.AppendStr
import Derived.Test.YtlffomedflegdaaGreatDoorRows
import Derived.Test.YtlffomedflegdaaGreatDoorPz00
import Derived.Test.YtlffomedflegdaaGreatDoorPz04
import Derived.Test.YtlffomedflegdaaGreatDoorPz06
import Derived.Test.YtlffomedflegdaaGreatDoorPz09
import Derived.Test.YtlffomedflegdaaGreatDoorPz11
import Derived.Test.YtlffomedflegdaaGreatDoorPz12
import Derived.Test.YtlffomedflegdaaGreatDoorPz13
import Derived.Test.YtlffomedflegdaaGreatDoorPz22
set_option linter.all false
set_option maxHeartbeats 16000000
set_option maxRecDepth 100000
namespace Go.Proofs.YtlffomedflegdaaGreatDoor
open Go.Proofs.Tryz
open Go.RowKit
variable {B k n:Nat}{bs l:List UInt8}{p:Pg}{t:TypeId}{v:Value}{w:World}{xs:List Value}
section
open Num Dp
theorem sQ{l:List Vr}(h:(l.map Vr.n).Nodup){u v:Vr}(hu:u∈l)(hv:v∈l)(e:u.n=v.n):u=v:=by
 induction l with
 |nil=>cases hu
 |cons a r ih=>
  rw[List.map_cons,List.nodup_cons]at h;rcases List.mem_cons.1 hu with e1|hu1
  ·rcases List.mem_cons.1 hv with e2|hv1
   ·rw[e1,e2]
   ·exact absurd (List.mem_map.2 ⟨v,hv1,by rw[<-e,e1]⟩) h.1
  ·rcases List.mem_cons.1 hv with e2|hv1
   ·exact absurd (List.mem_map.2 ⟨u,hu1,by rw[e,e2]⟩) h.1
   ·exact ih h.2 hu1 hv1
theorem kG(h:List Ob)(t:ByteArray)(a:Option Int):okV h (Lx t a) t:=by
 unfold Lx
 cases a with
 |none=>exact Ke h t t
 |some n=>
  dsimp only;by_cases e:t=BA
  ·exact .plain (by rw[e];exact JR)
  ·by_cases e2:t=Ao
   ·exact .plain (by rw[e2];exact Jr)
   ·rw[if_neg e,if_neg e2];exact .zero rfl
theorem Rk(hg:DJ p){f:Fn}(hf:f∈p.fs)(h:List Ob):∀(ps:List Vr) (l:List Int) (m:Vm),(∀v∈ps,v∈f.ps)->EO f h m->EO f h (ET ps l m)
 | [],_,_,_,hm=>hm
 |v::r,l,m,hp,hm=>by
  unfold ET;refine Rk hg hf h r l.tail _ (fun u hu=>hp u (by simp[hu])) (hm.put fun u hu=>?_);obtain⟨h1,h2⟩:=KP hu;obtain rfl:v=u:=sQ (hg.hp.n f hf) (by simp[hp v (by simp)]) h1 h2.symm;exact kG h _ _
theorem bP(hg:DJ p){x:ByteArray}{args:List Int}{s:St}(hs:GK p x args=some s):WT p s:=by
 unfold GK at hs;split at hs
 ·cases hs
 ·rename_i f hf
  split at hs
  ·cases hs
  ·rename_i b0 br hbs
   injection hs with hs;subst hs;obtain⟨hm,hn⟩:=Ak hf;refine⟨(fun ob h=>by cases h),⟨by simp,fun k v y hv hy=>?_⟩,⟨f,b0,?_,?_,AY,?_⟩,fun _=>by simp⟩
   ·simp only[List.getElem?_map,hy,Option.map_some,Option.some.injEq]at hv;subst hv;exact Ke _ _ _
   ·exact hf
   ·rw[hbs];unfold Ai;rw[if_pos rfl]
   ·exact Rk hg hm [] f.ps args [] (fun _ h=>h) fun x v _=> .zero rfl
theorem dJ(t:ByteArray){a:Option Int}(h:∀n,a=some n->Bo n):Bo (Lx t a).2:=by
 unfold Lx
 cases a with
 |none=>exact JW t
 |some n=>
  dsimp only;by_cases e:t=BA
  ·rw[if_pos e];exact h n rfl
  ·by_cases e2:t=Ao
   ·rw[if_neg e,if_pos e2];exact Ki (h n rfl)
   ·rw[if_neg e,if_neg e2];exact⟨by decide,by decide⟩
theorem Oh:∀(ps:List Vr) (l:List Int) (m:Vm),(∀n∈l,Bo n)->JG m->JG (ET ps l m)
 | [],_,_,_,hm=>hm
 |v::r,l,m,hl,hm=>by
  unfold ET;refine Oh r l.tail _ (fun n hn=>hl n (List.mem_of_mem_tail hn)) (Jt hm _ (dJ _ fun n hn=>hl n ?_))
  cases l with
  |nil=>cases hn
  |cons a t=>
   obtain rfl:a=n:=(by simpa using hn);simp
theorem KT(hg:DJ p)(hgl:p.gs.length<=4000){x:ByteArray}{args:List Int}(ha:∀n∈args,Bo n){s:St}(hs:GK p x args=some s){fuel:Int}(hfu:fuel<=100000):Way p s fuel/\jW s:=by
 have hw:=bP hg hs;unfold GK at hs;split at hs
 ·cases hs
 ·rename_i f hf
  split at hs
  ·cases hs
  ·rename_i b0 br hbs
   injection hs with hs;subst hs;have hc:ZH ({st0 with frames:=[⟨x,b0.n,0,ET f.ps args []⟩],globals:=p.gs.map fun g=>Ap g.t}:St):=
    ⟨Int.le_refl 0,⟨Int.le_refl 0,Int.le_refl 0,rfl⟩,⟨Int.le_refl 0,Int.le_refl 0⟩,⟨Int.le_refl 0,rfl⟩,Int.le_refl 0,rfl,(fun m h=>by cases h),(fun k a b h=>by simp[st0]at h),(fun e h=>by cases h),(show((1:Nat):Int)<=0+1 by decide),⟨(fun h=>absurd (show(0:Int)=1 from h) (by decide)),(fun h=>by cases h)⟩⟩
   have hr:Ga ({st0 with frames:=[⟨x,b0.n,0,ET f.ps args []⟩],globals:=p.gs.map fun g=>Ap g.t}:St):=
    ⟨(fun y hy=>by
     obtain rfl:=List.mem_singleton.1 hy
     exact Oh f.ps args [] ha (fun y hy=>by cases hy)),(fun ob h=>by cases h),fun v hv=>by
     obtain⟨g,-,rfl⟩:=List.mem_map.1 hv
     exact JW _⟩
   have hy:Way p ({st0 with frames:=[⟨x,b0.n,0,ET f.ps args []⟩],globals:=p.gs.map fun g=>Ap g.t}:St) fuel:=⟨hw,hc,hr,(show(0:Int)<=100000 by decide),hfu,by simpa using hgl⟩;exact⟨hy,{toSmall:=hy.small,vs:=(fun ob h=>by cases h),ar:=(fun e h=>by cases h)}⟩
end
def DV(c:Cl):Nat:=c.n.size+CY c.fs
def Fe(x:Ex):Nat:=1+x.n.size
def Ww(p:Pg):Nat:=CY p.gs+Aj DV p.cs+Aj Fe p.xs+Aj cntF p.fs
structure Q0(p:Pg):Prop where
 c:p.cs.length<=50
 x:p.xs.length<=50
 f:p.fs.length<=50
 n:Ww p<=4000
def uZ(p:Pg)(e:Ending):Prop:=∃b:Bool,e=.returned (.bool b)/\(b=true->Q0 p)
theorem uO{k:Int}{A q:Nat}{l:List Cl}(h:q<l.length)(he:GV k (A+Aj DV (l.take q)+l[q].n.size+CY l[q].fs)):GV k (A+Aj DV (l.take (q+1))):=
 he.cast (by rw[BD DV h];unfold DV;omega)
theorem tO{k:Int}{A q:Nat}{l:List Fn}(h:q<l.length)(he:GV k (A+Aj cntF (l.take q)+cntF l[q])):GV k (A+Aj cntF (l.take (q+1))):=
 he.cast (by rw[BD cntF h];omega)
theorem fF{w0:World}(h0:AA6 w0 w){u1 u2 u3 u4:Value}(hv:Cj w0 v p u1 u2 u3 u4):Calls prog 40 #[v,.int .i64 4000] w fun e w'=>AA6 w w'/\uZ p e:=by
 obtain⟨rfl,hc,hg,hx,hf⟩:=hv;obtain⟨p1,k1,rfl,-,hn1,hc⟩:=hc;obtain⟨p2,k2,rfl⟩:=hg.slice;obtain⟨p3,k3,rfl,-,QY,hx⟩:=hx;obtain⟨p4,k4,rfl,-,iH,hf⟩:=hf;have hb1:=AJ w (.cells #[.bool p.ssa,.slice p1 p.cs.length k1,.slice p2 p.gs.length k2,.slice p3 p.xs.length k3,.slice p4 p.fs.length k4] 27);have hB:=Ae.alloc w [.bool p.ssa,.slice p1 p.cs.length k1,.slice p2 p.gs.length k2,.slice p3 p.xs.length k3,.slice p4 p.fs.length k4] 27;have h1:=AB h0 hb1;have hG:=JC h1 hg;clear hg;go_enter func40,ntmps40;by_cases c1:50<p.cs.length
 ·have c1:(50:Int)<p.cs.length:=by omega
  clear h1 hG hc hx hf;go_wp2;go_ret;exact⟨hb1,_,rfl,fun h=>by cases h⟩
 have c1I:¬(50:Int)<p.cs.length:=by omega
 by_cases c2:50<p.xs.length
 ·have c2:(50:Int)<p.xs.length:=by omega
  clear h1 hG hc hx hf;go_wp2;go_ret;exact⟨hb1,_,rfl,fun h=>by cases h⟩
 have c2I:¬(50:Int)<p.xs.length:=by omega
 by_cases c3:50<p.fs.length
 ·have c3:(50:Int)<p.fs.length:=by omega
  clear h1 hG hc hx hf;go_wp2;go_ret;exact⟨hb1,_,rfl,fun h=>by cases h⟩
 have c3I:¬(50:Int)<p.fs.length:=by omega
 go_wp2_with fail;refine hG.mono ?_;rintro e w2 ⟨hw2,k,rfl,⟨hk0,hk1⟩,he⟩;rw[<-hw2];obtain⟨W,hW⟩:∃W,W=w.alloc (.cells #[.bool p.ssa,.slice p1 p.cs.length k1,.slice p2 p.gs.length k2,.slice p3 p.xs.length k3,.slice p4 p.fs.length k4] 27):=⟨_,rfl⟩;rw[<-hW]at hb1 hB h1⊢;clear hW hw2 hG;go_upto_block 0 with fail;go_cut[5,6]from 29 to 62 (fun n _ wx=>WX n 4503599627370496 (CY p.gs+Aj DV p.cs)/\wx=W)
 ·have b1:=hB.c 1 _ rfl;clear hx hf;go_wp2;go_loopw[5,6] (fun n i wr=>∃q:Nat,∃k:Int,q<=p.cs.length/\i=.int .i64 (q:Int)/\n=.int .i64 k/\Cn k 4503599627370496/\GV k (CY p.gs+Aj DV (p.cs.take q))/\wr=W) (fun _ i _=>p.cs.length-(intOf i).toNat);exact⟨0,_,AY,rfl,rfl,⟨hk0,by omega⟩,he,rfl⟩;clear hk0 hk1 he;obtain⟨q,k,hq,rfl,rfl,⟨hk0,hk1⟩,he,rfl⟩:=hrel;by_cases hend:q=p.cs.length
  ·subst hend;rw[DY]at he;go_wp2;go_meet;exact⟨⟨_,rfl,⟨hk0,hk1⟩,he⟩,rfl⟩
  ·have hlt:q<p.cs.length:=(by omega);have A8:(q:Int)<p.cs.length:=(by omega);by_cases hk2:k<=4000
   ·obtain⟨a,rfl,⟨g1,g2⟩,u,g5,hr⟩:=hc q p.cs[q] (by simp[hlt]);have g1:=AA h1 g1;have g5:=AA h1 g5;have g2:=Qe g2;have hA:=JC h1 hr;obtain⟨pa,ka,rfl⟩:=hr.slice;have hS:=fun k:Int=>uO (k:=k) (A:=CY p.gs) hlt;generalize p.cs[q]=y at*;by_cases hk3:k+y.n.size<=4000
    ·go_wp2_with fail;refine hA.mono ?_;rintro e w2 ⟨rfl,n,rfl,⟨hn0,hn1⟩,he2⟩;have pJ:=hS _ ((he.add (.of (n:=y.n.size)) hk0 (by omega)).add he2 (by omega) hn0);go_wp2;go_roundw;exact⟨q+1,k+y.n.size+n,by omega,by go_num,by go_num,⟨by omega,by omega⟩,pJ,trivial⟩;simp[intOf];omega
    ·clear hA hS;go_wp2;go_roundw;exact⟨q+1,k+y.n.size,by omega,by go_num,by go_num,⟨by omega,by omega⟩,.big (by omega),trivial⟩;simp[intOf];omega
   ·clear hc;go_wp2;go_meet;exact⟨⟨_,rfl,⟨hk0,hk1⟩,.big (by omega)⟩,rfl⟩
 obtain⟨⟨k,rfl,⟨hk0,hk1⟩,he⟩,rfl⟩:=hcut;go_upto_block 2 with fail;go_cut[5,7]from 63 to 84 (fun n _ wx=>WX n 4503599627370496 (CY p.gs+Aj DV p.cs+Aj Fe p.xs)/\wx=wc)
 ·have b3:=hB.c 3 _ rfl;go_wp2;go_loopw[5,7] (fun n i wr=>∃q:Nat,∃k:Int,q<=p.xs.length/\i=.int .i64 (q:Int)/\n=.int .i64 k/\Cn k 4503599627370496/\GV k (CY p.gs+Aj DV p.cs+Aj Fe (p.xs.take q))/\wr=wc) (fun _ i _=>p.xs.length-(intOf i).toNat);exact⟨0,_,AY,rfl,rfl,⟨hk0,hk1⟩,he,rfl⟩;obtain⟨q,k,hq,rfl,rfl,⟨hk0,hk1⟩,he,rfl⟩:=hrel;by_cases hend:q=p.xs.length
  ·subst hend;rw[DY]at he;go_wp2;go_meet;exact⟨⟨_,rfl,⟨hk0,hk1⟩,he⟩,rfl⟩
  ·have hlt:q<p.xs.length:=(by omega);have A8:(q:Int)<p.xs.length:=(by omega);by_cases hk2:k<=4000
   ·obtain⟨a,rfl,⟨g1,g2⟩,-⟩:=hx q p.xs[q] (by simp[hlt]);have g1:=AA h1 g1;have g2:=Qe g2;have hnx:=BD Fe hlt;change _=_+(1+p.xs[q].n.size)at hnx;clear hx;generalize p.xs[q]=y at*;go_wp2;go_roundw;exact⟨q+1,k+1+y.n.size,by omega,by go_num,by go_num,⟨by omega,by omega⟩,((he.add (.of (n:=1)) hk0 (by omega)).add (.of (n:=y.n.size)) (by omega) (by omega)).cast (by omega),trivial⟩;simp[intOf];omega
   ·clear hx;go_wp2;go_meet;exact⟨⟨_,rfl,⟨hk0,hk1⟩,.big (by omega)⟩,rfl⟩
 clear hk0 hk1 he hx;obtain⟨⟨k,rfl,⟨hk0,hk1⟩,he⟩,rfl⟩:=hcut;go_upto_block 4 with fail;go_cut[5,8]from 85 to 105 (fun n _ wx=>WX n 4503599627370496 (Ww p)/\AA6 wc wx)
 ·go_wp2;go_loopw[5,8] (fun n i wr=>∃q:Nat,∃k:Int,q<=p.fs.length/\i=.int .i64 (q:Int)/\n=.int .i64 k/\Cn k 4503599627370496/\GV k (CY p.gs+Aj DV p.cs+Aj Fe p.xs+Aj cntF (p.fs.take q))/\AA6 wc wr) (fun _ i _=>p.fs.length-(intOf i).toNat);exact⟨0,_,AY,rfl,rfl,⟨hk0,hk1⟩,he,AL⟩;clear hk0 hk1 he;obtain⟨q,k,hq,rfl,rfl,⟨hk0,hk1⟩,he,hbw⟩:=hrel;have hB1:=hB.nx hbw;have b4:=hB1.c 4 _ rfl;by_cases hend:q=p.fs.length
  ·subst hend;rw[DY]at he;go_wp2;go_meet;exact⟨⟨_,rfl,⟨hk0,hk1⟩,he⟩,hbw⟩
  ·have hlt:q<p.fs.length:=(by omega);have A8:(q:Int)<p.fs.length:=(by omega);by_cases hk2:k<=4000
   ·obtain⟨a,rfl,⟨g0,y1⟩,⟨g1,y2⟩,⟨v2,g2,r2⟩,⟨v3,g3,r3⟩,v4,g4,r4⟩:=hf q p.fs[q] (by simp[hlt]);have hw:=AB h1 hbw;have hV:EL w0 (.agg #[.string p.fs[q].n,.string p.fs[q].r,v2,v3,v4]) p.fs[q] v2 v3 v4:=⟨rfl,⟨y1,y2⟩,r2,r3,r4⟩;have hA:=Sm hw hV;have g0:=AA hw g0;have g1:=AA hw g1;have g2:=AA hw g2;have g3:=AA hw g3;have g4:=AA hw g4;obtain⟨p2',k2',rfl⟩:=r2.slice;obtain⟨uw,k3',rfl⟩:=r3.slice;obtain⟨p4',k4',rfl⟩:=r4.slice;have hS:=fun k:Int=>tO (k:=k) (A:=CY p.gs+Aj DV p.cs+Aj Fe p.xs) hlt;generalize p.fs[q]=y at*;go_wp2_with fail;refine hA.mono ?_;rintro e w2 ⟨hb2,n,rfl,⟨hn0,hn1⟩,hn2⟩;have hbw2:=AB hbw hb2;have pJ:=hS _ (he.add hn2 hk0 hn0);go_wp2;go_roundw;exact⟨q+1,k+n,by omega,by go_num,by go_num,⟨by omega,by omega⟩,pJ,hbw2⟩;simp[intOf];omega
   ·clear hf hB hB1;go_wp2;go_meet;exact⟨⟨_,rfl,⟨hk0,hk1⟩,.big (by omega)⟩,hbw⟩
 obtain⟨⟨k,rfl,⟨hk0,hk1⟩,he⟩,hbw⟩:=hcut;have hbf:=AB hb1 hbw;have hfin:k<=4000->Q0 p:=fun h=>⟨by omega,by omega,by omega,by have:=he h;omega⟩;by_cases hk2:k<=4000
 ·have hfin:=hidden (hfin hk2);go_wp2;go_ret;exact⟨hbf,_,rfl,fun _=>hfin.out⟩
 ·clear he hB hb1 hfin;go_wp2;go_ret;exact⟨hbf,_,rfl,fun h=>by cases h⟩
section
structure Kp(e:TypeId)(B:Nat)(w w':World):Prop where
 b:Below B w w'
 k:∀r,r<w.heap.size->(∀cur m,w.heap[r]?≠some (.cells cur e m))->w'.heap[r]? =w.heap[r]?
section
variable {e : TypeId} {B : Nat} {w w1 w2 : World}
theorem Kp.refl:Kp e B w w:=⟨AL,fun _ _ _=>rfl⟩
theorem Kp.of(h:AA6 w w1)(hB:B<=w.heap.size):Kp e B w w1:=⟨h.mono hB,fun r hr _=>h.block r hr⟩
theorem Kp.trans(h:Kp e B w w1)(k:Kp e B w1 w2):Kp e B w w2:=⟨h.b.trans k.b,fun r hr hn=>by
 have e1:=h.k r hr hn
 exact(k.k r (A9 hr h.b.size) (by rw[e1];exact hn)).trans e1⟩
theorem Kp.nx(h:Kp e B w w1)(hB:B<=w.heap.size)(hb:AA6 w1 w2):Kp e B w w2:=h.trans (.of hb (AX hB h.b.size))
theorem Kp.grown{s:Nat}(hx:w.ownsRow B e s v n xs)(hg:w.grownBy w1 v.ownBlock)(hB:B<=w.heap.size):Kp e B w w1:=
 ⟨(Below.refl B w).grown hg hB (fun k hk=>(hx.lt k hk).1),fun r hr hn=>hg.block r hr fun h=>by
  rcases hx.2 with⟨rfl,_⟩|⟨g,cap,cur,rfl,_,hh,_⟩
  ·cases h
  ·obtain rfl:r=g:=by simpa[Value.ownBlock]using h
   exact hn _ _ hh⟩
theorem Kp.typ{p:Nat}(h:Kp e B w w1)(hT:TG w p t)(hne:t≠e):w1.heap[p]? =w.heap[p]? :=by grind [TG,cases Kp]
theorem Kp.row{B' s:Nat}{e':TypeId}(h:Kp e B w w1)(hx:w.ownsRow B' e' s v n xs)(hne:e'≠e):w1.ownsRow B' e' s v n xs:=by
 refine⟨hx.1,hx.2.imp id ?_⟩;rintro⟨g,cap,cur,h1,h2,h3,h4⟩;exact⟨g,cap,cur,h1,h2,(h.typ ⟨_,_,h3⟩ hne).trans h3,h4⟩
theorem TG.al{p:Nat}(h:TG w p t)(hb:AA6 w w1):TG w1 p t:=by
 have hl:=h.lt;obtain⟨cur,m,h⟩:=h;exact⟨cur,m,(hb.block p hl).trans h⟩
theorem TG.new(w:World)(cs:Array Value)(t:TypeId):TG (w.alloc (Obj.cells cs t)) w.heap.size t:=⟨cs,_,heap_alloc_new w _⟩
theorem TG.kp{p:Nat}(hT:TG w p t)(h:Kp e B w w1)(hne:t≠e):TG w1 p t:=by grind [TG,cases Kp]
def Ws(w:World)(v:Value)(l:List ByteArray):Prop:=∃B,w.ownsRow B 9 1 v l.length (l.map .string)
theorem Ws.kp{l:List ByteArray}(h:Ws w v l)(hk:Kp e B w w1)(hne:9≠e):Ws w1 v l:=by
 obtain⟨C,h⟩:=h;exact⟨C,hk.row h hne⟩
theorem Ws.at{l:List ByteArray}(h:Ws w v l):∃p c,v=.slice p l.length c/\∀(q:Nat) s,l[q]? =some s->∃g,p=some ⟨g,0,none⟩/\w.cell? ⟨g,q,none⟩=some (.string s):=by
 obtain⟨C,h⟩:=h;obtain⟨p,c,rfl⟩:=Bf h;refine⟨p,c,rfl,fun q s hq=>?_⟩;have hl:q<l.length:=(List.getElem?_eq_some_iff.1 hq).1;rcases h.2 with⟨h1,h2⟩|⟨g,cap,cur,h1,-⟩
 ·omega
 ·obtain⟨rfl,rfl⟩:p=some ⟨g,0,none⟩/\c=cap:=by simpa using h1
  refine⟨g,rfl,?_⟩;rw[h.cellAt q (by omega),List.getElem?_map,hq];rfl
theorem Ws.new(w:World)(l:List ByteArray)(hl:l.length<=maxLen):Ws (w.alloc (Obj.cells (l.map Value.string).toArray 9)) (.slice (some ⟨w.heap.size,0,none⟩) l.length l.length) l:=by
 refine⟨0,?_⟩;have:=World.ownsRow_lit (base:=0) (e:=9) (size:=1) w (l.map Value.string).toArray l.length (AY) hl (by simp);simpa using this
end
def lens(l:List ByteArray):Nat:=Aj (fun s=>s.size+1) l
theorem Iu:∀l:List ByteArray,l.length<=lens l
 | []=>AQ
 |x::r=>by
  have:=Iu r;unfold lens at this⊢;simp only[List.length_cons,Aj];omega
abbrev TF(b:UInt8):Value:=.int .u8 b.toNat
def BU(w:World)(B:Nat)(v:Value)(n:Nat):Prop:=∃bs:List UInt8,bs.length<=n/\w.ownsRow B 5 1 v bs.length (bs.map TF)
theorem BU.up(h:BU w B v n)(hk:n<=k):BU w B v k:=by grind [BU]
theorem BU.nx{w1:World}(h:BU w B v n)(hb:AA6 w w1):BU w1 B v n:=by grind [BU,Dh]
theorem BU.one(hn:bs.length<=n)(c:UInt8)(h:w.ownsRow B 5 1 v (bs.length+1) (bs.map TF++[TF c])):BU w B v (n+1):=
 ⟨bs++[c],by simp;omega,by rw[List.length_append,List.map_append];exact h⟩
theorem BU.str1(hn:bs.length<=n)(s:ByteArray)(h:w.ownsRow B 5 1 v (bs.length+s.size) (bs.map TF++Lib.strCells s)):BU w B v (n+s.size):=
 ⟨bs++s.data.toList,by simp;omega,by rw[List.length_append,List.map_append,Array.length_toList];exact h⟩
theorem BU.two(hn:bs.length<=n)(s:ByteArray)(h:w.ownsRow B 5 1 v (bs.length+1+s.size) (bs.map TF++[TF 32]++Lib.strCells s)):BU w B v (n+1+s.size):=
 ⟨bs++[32]++s.data.toList,by simp;omega,by rw[List.length_append,List.length_append,List.map_append,List.map_append,Array.length_toList];exact h⟩
theorem BU.sl(h:BU w B v n):∃p m c,v=.slice p m c:=by grind [BU,Bf]
theorem Cx{lv:Value}{l:List ByteArray}(hv:BU w B v n)(hl:Ws w lv l)(hB:B<=w.heap.size)(hn:n+lens l<=100000000):Calls prog 170 #[v,lv] w fun e w'=>∃v',e=.returned v'/\BU w' B v' (n+lens l+1)/\Kp 5 B w w':=by
 obtain⟨i0,hi,hz0,hz1,hz2⟩:=Cq (P:=prog) (t:=5) (z:=.int .u8 0) (s:=1) (b:=1) (by kernel_rfl);obtain⟨p0,m0,c0,rfl⟩:=hv.sl;obtain⟨p,c,rfl,-⟩:=hl.at;have hll:=Iu l;go_enter func170,ntmps170;go_wp2;go_loopw[0,5] (fun v i wr=>∃(q:Nat),q<=l.length/\i=.int .i64 (q:Int)/\BU wr B v (n+lens (l.take q))/\Kp 5 B w wr) (fun _ i _=>l.length-(intOf i).toNat);exact⟨0,AY,rfl,hv.up (by omega),.refl⟩;obtain⟨q,hq,rfl,⟨bs,hm,hv⟩,hk⟩:=hrel;obtain⟨p0,c0,rfl⟩:=Bf hv;have hBr:B<=wr.heap.size:=AX hB hk.b.size;by_cases hend:q=l.length
 ·subst hend;rw[List.take_length]at hm;have hm:bs.length<=n+lens l:=hm;have hB2:=Ae.alloc wr [.int .u8 10] 5;go_wp2_with(at_builtin;refine wpList_append_own' rfl _ _ 250 rfl B 5 i0 _ 1 1 underlying250 hi hz0 hz1 hz2 rfl (by decide) _ bs.length (bs.map TF) rfl (World.ownsRow.alloc hv _) ⟨wr.heap.size,0,none⟩ 1 1 [.int .u8 10] rfl rfl (fun j u hu=>by rw[Dk,Nat.zero_add];exact hB2.c j u hu) (by simp[Value.oneCell']) (by unfold maxLen;omega) (by omega) (by simp;omega) ?_;intro v' w3 ho hg hf;obtain⟨N7,Nh,rfl⟩:=Bf ho)
  go_ret;exact⟨_,rfl,BU.one hm 10 ho,(hk.nx hB (AJ _ _)).trans (.grown (World.ownsRow.alloc hv _) hg (by simp;omega))⟩
 ·have hlt:q<l.length:=by omega
  have A8:(q:Int)<l.length:=by omega
  obtain⟨g,rfl,hg0⟩:∃g,p=some ⟨g,0,none⟩/\wr.cell? ⟨g,q,none⟩=some (.string l[q]):=by
   obtain⟨p',c',h1,h2⟩:=(hl.kp hk (by decide)).at;obtain⟨rfl,rfl⟩:p=p'/\c=c':=(by simpa using h1);exact h2 q l[q] (by simp[hlt])
  have hs:=BD (fun s:ByteArray=>s.size+1) hlt;have hall:lens (l.take (q+1))<=lens l:=by
   have:=D5 (fun s:ByteArray=>s.size+1) (l.take (q+1)) (l.drop (q+1));rw[List.take_append_drop]at this;unfold lens;omega
  change lens (l.take (q+1))=lens (l.take q)+(l[q].size+1)at hs;have hT:TG wr g 9:=by
   obtain⟨C,hx⟩:=hl.kp hk (by decide);rcases hx.2 with⟨h1,-⟩|⟨g',cap,cur,h1,-,h3,-⟩
   ·cases h1
   ·obtain rfl:g=g':=(by simpa using(Value.slice.inj h1).1);exact⟨_,_,h3⟩
  generalize l[q]=s at*;by_cases h0:q=0
  ·subst h0;simp only[Nat.zero_add]at hs hall;(go_wp2_with(at_builtin;refine Lib.wpList_append_own_string _ rfl _ _ 250 9 rfl B 5 i0 underlying250 underlying9 hi hz0 hz1 hz2 _ bs.length (bs.map TF) rfl hv s rfl (by unfold maxLen;omega) (by omega) hBr ?_;intro v' w3 ho hg hf;obtain⟨N7,Nh,rfl⟩:=Bf ho));go_roundw;exact⟨1,by omega,rfl,(BU.str1 hm s ho).up (by omega),hk.trans (.grown hv hg hBr)⟩;simp[intOf];omega
  ·have vR:(0:Int)<q:=(by omega);have hB2:=Ae.alloc wr [.int .u8 32] 5;have hg1:=AA (AJ wr (Obj.cells #[.int .u8 32] 5)) hg0;have hT1:=hT.al (AJ wr (Obj.cells #[.int .u8 32] 5))
   go_wp2_with first
    |(at_builtin;refine wpList_append_own' rfl _ _ 250 rfl B 5 i0 _ 1 1 underlying250 hi hz0 hz1 hz2 rfl (by decide) _ bs.length (bs.map TF) rfl (World.ownsRow.alloc hv _) ⟨wr.heap.size,0,none⟩ 1 1 [.int .u8 32] rfl rfl (fun j u hu=>by rw[Dk,Nat.zero_add];exact hB2.c j u hu) (by simp[Value.oneCell']) (by unfold maxLen;omega) (by omega) (by simp;omega) ?_;intro v2 w2 ho2 AD6 hf2;obtain⟨pu2,cu2,rfl⟩:=Bf ho2;have hk2:=Kp.grown (World.ownsRow.alloc hv _) AD6 (by simp;omega);have hg2:=(BM (hk2.typ hT1 (by decide)) q).trans hg1)
    |(at_builtin;refine Lib.wpList_append_own_string _ rfl _ _ 250 9 rfl B 5 i0 underlying250 underlying9 hi hz0 hz1 hz2 _ (bs.length+1) _ rfl ho2 s rfl (by unfold maxLen;omega) (by omega) (AX (by simp;omega) hk2.b.size) ?_;intro v3 w3 ho3 AD5 hf3;obtain⟨pu3,cu3,rfl⟩:=Bf ho3;have hk3:=Kp.grown ho2 AD5 (AX (by simp;omega) hk2.b.size))
   go_roundw;exact⟨q+1,by omega,by go_num,(BU.two hm s ho3).up (by omega),((hk.nx hB (AJ _ _)).trans hk2).trans hk3⟩;simp[intOf];omega
end
section
open Dp
theorem Tryz.tC:(prog.info? 5).map (fun i=>(i.zero,i.size,i.bytes))=some (some (.int .u8 0),1,1):=by kernel_rfl
end
section
open Dp
theorem kH(w:World)(d:UInt8)(n:Int)(hn:n=(d.toNat:Int)):(w.alloc (.cells #[.int .u8 n] 5)).ownsRow w.heap.size 5 1 (.slice (some ⟨w.heap.size,0,none⟩) 1 1) 1 [Gg d]:=by
 subst hn;exact⟨rfl,.inr ⟨w.heap.size,1,_,rfl,AQ,heap_alloc_new w _,by omega,by unfold maxLen;omega,rfl,rfl⟩⟩
theorem dO{b b':Nat}{e:TypeId}{size:Nat}(h:b<=b')(ho:w.ownsRow b' e size v n xs):w.ownsRow b e size v n xs:=by
 refine⟨ho.1,?_⟩;rcases ho.2 with h1|⟨g,cap,cur,h1,h2,h3⟩
 ·exact .inl h1
 ·exact .inr ⟨g,cap,cur,h1,by omega,h3⟩
theorem Rf(n:Int)(w:World):Calls prog 217 #[.int .i64 n] w fun e w'=>e=.returned (.string ⟨(Hf (pb n)).toArray⟩)/\AA6 w w':=by
 obtain⟨i0,hi,hz0,hz1,hz2⟩:=info_parts Tryz.tC;have hu:IntKind.u64.wrap (Ba n)=((pb n:Nat):Int):=by rw[IntKind.wrap_u64];unfold pb u64;omega
 go_enter func217,ntmps217;go_wp2_with((with_reducible refine(NG ..).mono ?_);rintro e w' ⟨rfl,rfl⟩)
 go_loopw[3,4,5,6] (fun u v i _ wr=>∃k x:Nat,k<=16/\i=.int .i64 (k:Int)/\u=.int .u64 (x:Int)/\Hid (x=pb n/16^k)/\wr.ownsRow w.heap.size 5 1 v k ((Ie (pb n) k).map Gg)/\AA6 w wr) (fun _ _ i _ _=>16-(intOf i).toNat);exact⟨0,pb n,by omega,rfl,rfl,by rw[Nat.pow_zero,Nat.div_one];rfl,World.ownsRow_nil _ _ _ _,AL⟩;obtain⟨k,x,hk,rfl,rfl,hx,hown,hb⟩:=hrel;by_cases hlt:k<16
 ·obtain⟨d,hdd⟩:∃d,d=x%16:=⟨_,rfl⟩;have hdl:d<16:=by omega
  have hd:((x:Int)%16)=(d:Int):=by omega
  have Hd:Hid (d=pb n/16^k%16):=by show _=_;rw[hdd,hx.out]
  have Hx:Hid (x/16=pb n/16^ (k+1)):=by show _=_;rw[hx.out,Nat.div_div_eq_div_mul,Nat.pow_succ]
  have Hw:Hid (IntKind.u64.wrap ((x:Int)/16)=((x/16:Nat):Int)):=by
   show _=_;have h1:=Zu n;have h2:x<=pb n:=(by rw[hx.out];exact Nat.div_le_self _ _);rw[IntKind.wrap_u64];omega
  clear hdd;have hlo:=hidden (@lH d);have hhi:=hidden (@lI d);by_cases h0:d<10;all_goals
   have o1:=kH (n:=if d<10 then(d:Int)+48 else(d:Int)+87) wr (Tk d) (by first|(rw[if_pos h0];exact(hlo.out h0).symm)|(rw[if_neg h0];exact(hhi.out h0 hdl).symm))
   first|rw[if_pos h0]at o1|rw[if_neg h0]at o1
   (go_wp2_with(at_builtin;refine CP rfl (.tmp 24) (.tmp 25) 250 rfl wr.heap.size 5 i0 (.int .u8 0) 1 1 underlying250 hi hz0 hz1 hz2 rfl (by decide) _ _ _ rfl o1 w.heap.size _ k _ rfl (hown.alloc _) (Es _) (by unfold maxLen;omega) (by omega) (by simp) ?_;intro v' w1 hown' hgrow));have hb':AA6 w w1:=(hb.alloc hb.size _).grown hgrow (by have:=hb.size;simp;omega) (fun k hk=>AX hb.size (o1.lt k hk).1);have hown2:w1.ownsRow w.heap.size 5 1 v' (k+1) ((Ie (pb n) (k+1)).map Gg):=by
    rw[Ie,<-Hd.out,List.map_cons,Nat.add_comm k 1];exact dO hb.size hown'
   go_wp2;go_roundw;exact⟨k+1,x/16,by omega,by go_num,congrArg (Value.int .u64) Hw.out,Hx,hown2,hb'⟩;simp[intOf];omega
 ·obtain rfl:k=16:=by omega
  have hrun:=D7 (P:=prog) (dst:=9) underlying250 underlying5 underlying9 hown;have hadd:=run_string_add_lists (P:=prog) wr [48,102] (Ie (pb n) 16) (by decide) (by rw[Ny];decide);rw[Sg]at hadd;go_wp2;go_ret;exact⟨rfl,hb⟩
end
section
open Dp
def MK(l:List UInt8)(e:Ending):Prop:=e=.returned (.tuple #[.int .i64 (LZ l).1,.bool (LZ l).2])
theorem R3(h:LZ l=(0,false)):MK l (.returned (.tuple #[.int .i64 0,.bool false])):=by unfold MK;rw[h]
theorem YW{n:Int}(h:LZ l=(n,true)):MK l (.returned (.tuple #[.int .i64 n,.bool true])):=by unfold MK;rw[h]
theorem YV(h:l.length≠18):LZ l=(0,false):=by simp[LZ,h]
theorem Xk(s:ByteArray)(w:World)(h:s.size≠18):Calls prog 250 #[.string s] w fun e w'=>MK s.data.toList e/\AA6 w w':=by
 have h':((s.size:Int) !=18)=true:=by rw[bne_iff_ne];omega
 have H:=hidden (YV (l:=s.data.toList) (by simpa using h));go_enter func250,ntmps250;go_wp2;go_ret2;exact⟨R3 H.out,AL⟩
theorem jy(s:ByteArray)(w:World)(h:s.size=18):Calls prog 250 #[.string s] w fun e w'=>MK s.data.toList e/\AA6 w w':=by
 have h':((s.size:Int) !=18)=false:=by rw[bne_eq_false_iff_eq];omega
 go_enter func250,ntmps250;go_wp2;go_loop[4,5,6] (fun u i _=>∃k x:Nat,k<=16/\i=.int .i64 ((2+k:Nat):Int)/\u=.int .u64 (x:Int)/\Hid (x=H9 s.data.toList k)) (fun _ i _=>18-(intOf i).toNat);exact⟨0,0,by omega,rfl,rfl,rfl⟩;obtain⟨k,x,hk,rfl,rfl,hx⟩:=hrel;by_cases hlt:k<16
 ·have hs:2+k<s.size:=by omega
  have hc:=hidden s[2+k].toNat_lt;have hg:=hidden (getD_at hs);have xU:Hid (x<1152921504606846976):=by show _<_;rw[hx.out];exact U9 _ hlt
  have hstep:Hid (H9 s.data.toList (k+1)=x*16+Qm s[2+k].toNat):=by show _=_;rw[H9,<-hx.out,hg.out]
  go_wp2
  ·go_round;exact⟨k+1,_,by omega,by go_num,congrArg (Value.int .u64) (sP xU.out hc.out (by assumption)),hstep.out.symm⟩;simp[intOf];omega
  ·go_round;exact⟨k+1,_,by omega,by go_num,congrArg (Value.int .u64) (sO xU.out hc.out (by assumption)),hstep.out.symm⟩;simp[intOf];omega
 ·obtain rfl:k=16:=by omega
  have H1:=hidden (@lN s x hx.out);have H2:=hidden (@eu s x h hx.out);go_wp2_with((with_reducible refine(Rf ..).mono ?_);rintro e w' ⟨rfl,hb⟩)
  ·go_ret2;exact⟨R3 (H1.out (by assumption)),hb⟩
  ·go_ret2;exact⟨YW (H2.out (by assumption)),hb⟩
theorem bg(s:ByteArray)(w:World):Calls prog 250 #[.string s] w fun e w'=>MK s.data.toList e/\AA6 w w':=by grind [jy,Xk]
end
section
open Dp
@[go_sem] theorem ABt (s:ByteArray) (c:Int) (w:World):(callFunc 226 #[.string s,.int .u8 c]).run prog w=.ok (.value (.int .i64 (firstIdx s c.toNat.toUInt8))) w:=by
 rw[run_callFunc_extern (e:=Extern.BytealgIndexByte.indexByte) func226 (by kernel_rfl) (by kernel_rfl) (by kernel_rfl) (by kernel_rfl),run_indexByte_string];rfl
end
section
open Num
theorem SS{n:Int}(hneg:¬n<0)(hk:nd n.natAbs=k):Ee n=L8 n.natAbs k:=by grind [nd,Ee,L8,sign]
theorem SV{n:Int}(hneg:n<0)(hk:nd n.natAbs=k):Ee n=45::L8 n.natAbs k:=by grind [nd,Ee,L8,sign]
theorem kP{m:Nat}(hm:m<=9223372036854775808)(hk:k<nd m)(h0:m/10^ (k+1)=0):nd m=k+1:=by grind [QG]
theorem kN{m:Nat}(hm:m<=9223372036854775808)(hk:k<nd m)(h0:m/10^ (k+1)≠0):k+1<nd m:=by grind [QG]
end
section
open Num
theorem Tryz.kZ:(prog.info? 5).map (fun i=>(i.zero,i.size,i.bytes))=some (some (.int .u8 0),1,1):=by kernel_rfl
theorem QN(w:World)(d:UInt8)(n:Int)(hn:n=(d.toNat:Int)):(w.alloc (.cells #[.int .u8 n] 5)).ownsRow w.heap.size 5 1 (.slice (some ⟨w.heap.size,0,none⟩) 1 1) 1 [Gg d]:=by
 subst hn;exact⟨rfl,.inr ⟨w.heap.size,1,_,rfl,AQ,heap_alloc_new w _,by omega,by unfold maxLen;omega,rfl,rfl⟩⟩
theorem Xy{b b':Nat}{e:TypeId}{size:Nat}(h:b<=b')(ho:w.ownsRow b' e size v n xs):w.ownsRow b e size v n xs:=by
 refine⟨ho.1,?_⟩;rcases ho.2 with h1|⟨g,cap,cur,h1,h2,h3⟩
 ·exact .inl h1
 ·exact .inr ⟨g,cap,cur,h1,by omega,h3⟩
theorem bR(n:Int)(hn:Hid (-9223372036854775808<=n/\n<=9223372036854775807))(w:World):Calls prog 147 #[.int .i64 n] w fun e w'=>e=.returned (.int .u64 (n.natAbs:Int))/\w=w':=by
 by_cases h:n<0
 ·have H:Hid (IntKind.u64.wrap (-(IntKind.u64.wrap n))=(n.natAbs:Int)):=by
   show _=_;have:=hn.out;rw[IntKind.wrap_u64,IntKind.wrap_u64];omega
  go_enter func147,ntmps147;go_wp2;go_ret;exact⟨FQ H.out,rfl⟩
 ·have H:Hid (IntKind.u64.wrap n=(n.natAbs:Int)):=by
   show _=_;have:=hn.out;rw[IntKind.wrap_u64];omega
  go_enter func147,ntmps147;go_wp2;go_ret;exact⟨FQ H.out,rfl⟩
theorem Kc(n:Int)(hn:Hid (-9223372036854775808<=n/\n<=9223372036854775807))(w:World):Calls prog 172 #[.int .i64 n] w fun e w'=>e=.returned (.string ⟨(Ee n).toArray⟩)/\AA6 w w':=by
 obtain⟨i0,hi,hz0,hz1,hz2⟩:=info_parts Tryz.kZ;have hm:Hid (n.natAbs<=9223372036854775808):=by show _<=_;have:=hn.out;omega
 go_enter func172,ntmps172;go_wp2_with((with_reducible refine(bR _ hn _).mono ?_);rintro e w' ⟨rfl,rfl⟩)
 go_loopw[3,4] (fun v u wr=>∃k x:Nat,k<nd n.natAbs/\k<=18/\u=.int .u64 (x:Int)/\Hid (x=n.natAbs/10^k)/\wr.ownsRow w.heap.size 5 1 v k ((L8 n.natAbs k).map Gg)/\AA6 w wr) (fun _ u _=>(intOf u).toNat);exact⟨0,n.natAbs,aI _,by omega,rfl,by rw[Nat.pow_zero,Nat.div_one];rfl,World.ownsRow_nil _ _ _ _,AL⟩;obtain⟨k,x,hk,AJf,rfl,hx,hown,hb⟩:=hrel;obtain⟨d,hdd⟩:∃d,d=x%10:=⟨_,rfl⟩;have hdl:d<10:=by omega
 have hd:((x:Int)%10)=(d:Int):=by omega
 have Hd:Hid (d=n.natAbs/10^k%10):=by show _=_;rw[hdd,hx.out]
 have Hx:Hid (x/10=n.natAbs/10^ (k+1)):=by show _=_;rw[hx.out,Nat.div_div_eq_div_mul,Nat.pow_succ]
 have Hw:Hid (IntKind.u64.wrap ((x:Int)/10)=((x/10:Nat):Int)):=by
  show _=_;have h1:=hm.out;have h2:x<=n.natAbs:=by rw[hx.out];exact Nat.div_le_self _ _
  rw[IntKind.wrap_u64];omega
 clear hdd;have o1:=QN (n:=48+(d:Int)) wr (xD d) (Yf hdl).symm;have hstep:∀(v':Value) (w1:World),w1.ownsRow wr.heap.size 5 1 v' (1+k) ([Gg (xD d)]++(L8 n.natAbs k).map Gg)->w1.ownsRow w.heap.size 5 1 v' (k+1) ((L8 n.natAbs (k+1)).map Gg):=by
  intro v' w1 h;rw[L8,<-Hd.out,List.map_cons,Nat.add_comm k 1];exact Xy hb.size h
 have HS:=hidden hstep;by_cases h0:x/10=0
 ·have hz:(IntKind.u64.wrap ((x:Int)/10)==0)=true:=by rw[beq_iff_eq,Hw.out];omega
  have H0:=hidden (kP hm.out hk (by rw[<-Hx.out];exact h0));clear h0;by_cases hneg:n<0
  ·have HT:=hidden (SV hneg H0.out);have hadd:=fun w'=>run_string_add_lists (P:=prog) w' [45] (L8 n.natAbs (k+1)) (by decide) (by rw[K9];omega);(go_wp2_with(at_builtin;refine CP rfl (.tmp 11) (.tmp 12) 250 rfl wr.heap.size 5 i0 (.int .u8 0) 1 1 underlying250 hi hz0 hz1 hz2 rfl (by decide) _ _ _ rfl o1 w.heap.size _ k _ rfl (hown.alloc _) (Es _) (by unfold maxLen;omega) (by omega) (by simp) ?_;intro v' w1 hown' hgrow;have hrun:=D7 (P:=prog) (dst:=9) underlying250 underlying5 underlying9 (HS.out _ _ hown');have hb':AA6 w w1:=(hb.alloc hb.size _).grown hgrow (by have:=hb.size;simp;omega) (fun k hk=>AX hb.size (o1.lt k hk).1);clear hgrow hown'));go_ret;exact⟨Vk (by rw[HT.out]),hb'⟩
  ·have HT:=hidden (SS hneg H0.out);(go_wp2_with(at_builtin;refine CP rfl (.tmp 11) (.tmp 12) 250 rfl wr.heap.size 5 i0 (.int .u8 0) 1 1 underlying250 hi hz0 hz1 hz2 rfl (by decide) _ _ _ rfl o1 w.heap.size _ k _ rfl (hown.alloc _) (Es _) (by unfold maxLen;omega) (by omega) (by simp) ?_;intro v' w1 hown' hgrow;have hrun:=D7 (P:=prog) (dst:=9) underlying250 underlying5 underlying9 (HS.out _ _ hown');have hb':AA6 w w1:=(hb.alloc hb.size _).grown hgrow (by have:=hb.size;simp;omega) (fun k hk=>AX hb.size (o1.lt k hk).1);clear hgrow hown'));go_ret;exact⟨Vk (by rw[HT.out]),hb'⟩
 ·have hz:(IntKind.u64.wrap ((x:Int)/10)==0)=false:=by rw[beq_eq_false_iff_ne,Hw.out];omega
  have H0:=hidden (kN hm.out hk (by rw[<-Hx.out];exact h0));have H1:=hidden (oF hm.out);have AJE:x/10<x:=by omega
  have Hwn:Hid ((IntKind.u64.wrap ((x:Int)/10)).toNat<x):=by show _<_;rw[Hw.out];omega
  go_wp2_with(at_builtin;refine CP rfl (.tmp 11) (.tmp 12) 250 rfl wr.heap.size 5 i0 (.int .u8 0) 1 1 underlying250 hi hz0 hz1 hz2 rfl (by decide) _ _ _ rfl o1 w.heap.size _ k _ rfl (hown.alloc _) (Es _) (by unfold maxLen;omega) (by omega) (by simp) ?_;intro v' w1 hown' hgrow;have hown2:=HS.out _ _ hown';have hb':AA6 w w1:=(hb.alloc hb.size _).grown hgrow (by have:=hb.size;simp;omega) (fun k hk=>AX hb.size (o1.lt k hk).1);clear hgrow hown' hown o1)
  go_roundw;exact⟨k+1,x/10,H0.out,by have:=H0.out;have:=H1.out;omega,congrArg (Value.int .u64) Hw.out,Hx,hown2,hb'⟩;simp only[intOf];exact Hwn.out
end
section
open Num
def Ma(l:List UInt8)(e:Ending):Prop:=e=.returned (.tuple #[.int .i64 (Nt l).1,.bool (Nt l).2])
theorem Ol(h:Nt l=(0,false)):Ma l (.returned (.tuple #[.int .i64 0,.bool false])):=by unfold Ma;rw[h]
theorem NJ{n:Int}(h:Nt l=(n,true)):Ma l (.returned (.tuple #[.int .i64 n,.bool true])):=by unfold Ma;rw[h]
end
section
open Num
theorem Mw(n:Int)(w:World):Calls prog 146 #[.int .u64 n] w fun e w'=>e=.returned (.int .i64 (wrap64 n))/\w=w':=by
 go_enter func146,ntmps146;go_wp2;go_ret;exact⟨rfl,rfl⟩
theorem bF(a:Int)(c:Nat):IntKind.u64.wrap (IntKind.u64.wrap (IntKind.u64.wrap (IntKind.u64.wrap a*10)+IntKind.u64.wrap (c:Int))-48)=IntKind.u64.wrap (a*10+(c:Int)-48):=by
 simp only[IntKind.wrap_u64];omega
theorem QL(a:Int):wrap64 (IntKind.u64.wrap (-(IntKind.u64.wrap a)))=wrap64 (-a):=by
 simp only[IntKind.wrap_u64];unfold wrap64;omega
theorem QK(a:Int):wrap64 (IntKind.u64.wrap a)=wrap64 a:=by
 simp only[IntKind.wrap_u64];unfold wrap64;omega
theorem bE:(0:Int)=IntKind.u64.wrap 0:=by simp[IntKind.wrap_u64]
theorem Uv(s:ByteArray)(w:World)(hsz:s.size<=9223372036854775807)(h1:1<=s.size):Calls prog 236 #[.string s] w fun e w'=>Ma s.data.toList e/\AA6 w w':=by
 have hg0:=hidden (Gl (s:=s) (k:=0) h1);have Hl:=hidden (size_data s);go_enter func236,ntmps236;go_wp2;go_loop[4,5] (fun n i=>∃(k:Nat) (x:Int),k<=s.size/\k<=30/\i=.int .i64 (k:Int)/\n=.int .u64 x/\Hid (x=IntKind.u64.wrap (Lb s.data.toList k))) (fun _ i=>30-(intOf i).toNat);exact⟨0,0,by omega,by omega,rfl,rfl,bE⟩;obtain⟨k,x,hk1,hk2,rfl,rfl,hx⟩:=hrel;by_cases hlt:k<s.size/\k<30
 ·obtain⟨hlt1,hlt2⟩:=hlt;have hg:=hidden (Gl hlt1);by_cases hsk:k=0/\s[0].toNat=45
  ·obtain⟨rfl,hc⟩:=hsk;have hc':((s[0].toNat:Int)==45)=true:=(by rw[beq_iff_eq];omega);have HS:Hid (x=IntKind.u64.wrap (Lb s.data.toList 1)):=by
    show _=_;rw[hx.out,Yp (by rw[hg0.out];exact UInt8.toNat_inj.1 hc)];rfl
   go_wp2;go_round;exact⟨1,x,by omega,by omega,by go_num,rfl,HS⟩;simp[intOf]
  ·have hst:=Yo (l:=s.data.toList) (k:=k) (by
    by_cases h0:k=0
    ·right;rw[hg0.out];intro e;exact hsk ⟨h0,by rw[e];rfl⟩
    ·left;omega)
   have HS:Hid (IntKind.u64.wrap (IntKind.u64.wrap (IntKind.u64.wrap (x*10)+IntKind.u64.wrap (s[k].toNat:Int))-48)=IntKind.u64.wrap (Lb s.data.toList (k+1))):=by
    show _=_;rw[hx.out,bF,hst,hg.out]
   by_cases h0:k=0
   ·have hc':((s[0].toNat:Int)==45)=false:=(by rw[beq_eq_false_iff_ne];intro e;exact hsk ⟨h0,by omega⟩);subst h0;clear hsk;go_wp2;go_round;exact⟨1,_,by omega,by omega,by go_num,rfl,HS.out⟩;simp[intOf]
   ·have h0':((k:Int)==0)=false:=(by rw[beq_eq_false_iff_ne];omega);go_wp2;go_round;exact⟨k+1,_,by omega,by omega,by go_num,rfl,HS.out⟩;simp[intOf];omega
 ·have hmin:min s.data.toList.length 30=k:=by rw[Hl.out];omega
  obtain⟨V,hV⟩:∃V,V=Ta s.data.toList:=⟨_,rfl⟩;have hvr:Hid (-9223372036854775808<=V/\V<=9223372036854775807):=by rw[hV];exact FR _
  have H1:=hidden (@lQ s V hV);have H2:=hidden (@fA s V hV);have hd:¬(k<s.size)\/(k<s.size/\¬k<30):=by omega
  have hpos:0<s.size:=by omega
  by_cases hc:s[0].toNat=45
  ·have hc':((s[0].toNat:Int)==45)=true:=(by rw[beq_iff_eq];omega);have he:wrap64 (IntKind.u64.wrap (-x))=V:=by
    rw[hV,hx.out,QL];unfold Ta;rw[if_pos (by rw[hg0.out];exact UInt8.toNat_inj.1 hc),hmin]
   clear hV hmin hc hlt;rcases hd with hd|⟨hd1,hd2⟩;all_goals
    go_wp2_with(first|((with_reducible refine(Mw _ _).mono ?_);rintro e w' ⟨rfl,rfl⟩)|((with_reducible refine(Kc _ hvr _).mono ?_);rintro e w' ⟨rfl,hb⟩))
    ·go_ret2;exact⟨Ol (H1.out (by assumption)),hb⟩
    ·go_ret2;exact⟨NJ (H2.out (by assumption)),hb⟩
  ·have hc':((s[0].toNat:Int)==45)=false:=(by rw[beq_eq_false_iff_ne];omega);have he:wrap64 x=V:=by
    rw[hV,hx.out,QK];unfold Ta;rw[if_neg (by rw[hg0.out];intro e;rw[e]at hc;exact hc rfl),hmin]
   clear hV hmin hc hlt;rcases hd with hd|⟨hd1,hd2⟩;all_goals
    go_wp2_with(first|((with_reducible refine(Mw _ _).mono ?_);rintro e w' ⟨rfl,rfl⟩)|((with_reducible refine(Kc _ hvr _).mono ?_);rintro e w' ⟨rfl,hb⟩))
    ·go_ret2;exact⟨Ol (H1.out (by assumption)),hb⟩
    ·go_ret2;exact⟨NJ (H2.out (by assumption)),hb⟩
end
end Go.Proofs.YtlffomedflegdaaGreatDoor
