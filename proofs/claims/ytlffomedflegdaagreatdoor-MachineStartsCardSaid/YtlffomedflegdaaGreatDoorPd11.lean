/- Part 11 of the proof: Knp, Oa, FloP, FloRP, FloRG, FloG, NumP, NumRP, NumG, NumRG, Word, WordW, WordR, WordB, Ob, Oc, Od. -/
import Derived.Lib.AppendStr
import Derived.Test.YtlffomedflegdaaGreatDoorPd08
set_option linter.all false
set_option maxHeartbeats 16000000
set_option maxRecDepth 100000
namespace Go.Proofs.YtlffomedflegdaaGreatDoor
open Go.Proofs.Tryz
open Go.RowKit
open Go.Value renaming int→cI,string→cS,slice→cY,bool→cE
open Go.IntKind renaming i64→cJ
open Option renaming some→cP,none→cX
open Bool renaming false→cA,true→cC
variable {B n p q:Nat}{a:Act}{bs l:List UInt8}{md:Region.Mode}{o:Oper}{ops:Array Oper}{t:TypeId}{u v:Value}{w w0:World}{xs:List Value}
def DV(c:Cl):Nat:=c.n.size+CY c.fs
def Fe(x:Ex):Nat:=1+x.n.size
def Ww(p:Pg):Nat:=CY p.gs+Aj DV p.cs+Aj Fe p.xs+Aj cntF p.fs
structure Q0(p:Pg):Prop where
 c:p.cs.length<=50
 x:p.xs.length<=50
 f:p.fs.length<=50
 n:Ww p<=4000
def uZ(p:Pg)(e:Ending):Prop:=∃b:Bool,e=.returned (cE b)/\(b=cC->Q0 p)
def uO{k:Int}{A:Nat}{l:List Cl}(h:q<l.length)(he:GV k (A+Aj DV (l.take q)+l[q].n.size+CY l[q].fs)):GV k (A+Aj DV (l.take (q+1))):=
 he.cast (by rw[BD DV h];unfold DV;omega)
def tO{k:Int}{A:Nat}{l:List Fn}(h:q<l.length)(he:GV k (A+Aj cntF (l.take q)+cntF l[q])):GV k (A+Aj cntF (l.take (q+1))):=
 he.cast (by rw[BD cntF h];omega)
theorem fF(h0:AA6 w0 w){p:Pg}{u1 u2 u3 u4:Value}(hv:Cj w0 v p u1 u2 u3 u4):Calls prog 40 #[v,cI cJ 4000] w λe w'=>AA6 w w'/\uZ p e:=by
 obtain⟨rfl,hc,hg,hx,hf⟩:=hv;obtain⟨p1,k1,rfl,-,hn1,hc⟩:=hc;obtain⟨p2,k2,rfl⟩:=hg.slice;obtain⟨p3,k3,rfl,-,QY,hx⟩:=hx;obtain⟨p4,k4,rfl,-,iH,hf⟩:=hf;have hb1:=AJ w (.cells #[cE p.ssa,cY p1 p.cs.length k1,cY p2 p.gs.length k2,cY p3 p.xs.length k3,cY p4 p.fs.length k4] 27);have hB:=Ae.alloc w [cE p.ssa,cY p1 p.cs.length k1,cY p2 p.gs.length k2,cY p3 p.xs.length k3,cY p4 p.fs.length k4] 27;have h1:=AB h0 hb1;have hG:=JC h1 hg;clear hg;go_enter func40,ntmps40;by_cases c1:50<p.cs.length
 ·have c1:(50:Int)<p.cs.length:=by omega
  clear h1 hG hc hx hf;go_wp2;go_ret;exact⟨hb1,_,rfl,λh=>by cases h⟩
 have c1I:¬(50:Int)<p.cs.length:=by omega
 by_cases c2:50<p.xs.length
 ·have c2:(50:Int)<p.xs.length:=by omega
  clear h1 hG hc hx hf;go_wp2;go_ret;exact⟨hb1,_,rfl,λh=>by cases h⟩
 have c2I:¬(50:Int)<p.xs.length:=by omega
 by_cases c3:50<p.fs.length
 ·have c3:(50:Int)<p.fs.length:=by omega
  clear h1 hG hc hx hf;go_wp2;go_ret;exact⟨hb1,_,rfl,λh=>by cases h⟩
 have c3I:¬(50:Int)<p.fs.length:=by omega
 go_wp2_with fail;refine hG.mono ?_;rintro e w2 ⟨hw2,k,rfl,⟨hk0,hk1⟩,he⟩;rw[<-hw2];obtain⟨W,hW⟩:∃W,W=w.alloc (.cells #[cE p.ssa,cY p1 p.cs.length k1,cY p2 p.gs.length k2,cY p3 p.xs.length k3,cY p4 p.fs.length k4] 27):=⟨_,rfl⟩;rw[<-hW]at hb1 hB h1⊢;clear hW hw2 hG;go_upto_block 0 with fail;go_cut[5,6]from 29 to 62 (λn _ wx=>WX n 4503599627370496 (CY p.gs+Aj DV p.cs)/\wx=W)
 ·have b1:=hB.c 1 _ rfl;clear hx hf;go_wp2;go_loopw[5,6] (λn i wr=>∃q:Nat,∃k:Int,q<=p.cs.length/\i=cI cJ (q:Int)/\n=cI cJ k/\Cn k 4503599627370496/\GV k (CY p.gs+Aj DV (p.cs.take q))/\wr=W) (λ_ i _=>p.cs.length-(intOf i).toNat);exact⟨0,_,AY,rfl,rfl,⟨hk0,by omega⟩,he,rfl⟩;clear hk0 hk1 he;obtain⟨q,k,hq,rfl,rfl,⟨hk0,hk1⟩,he,rfl⟩:=hrel;by_cases hend:q=p.cs.length
  ·subst hend;rw[DY]at he;go_wp2;go_meet;exact⟨⟨_,rfl,⟨hk0,hk1⟩,he⟩,rfl⟩
  ·have hlt:q<p.cs.length:=(by omega);have A8:(q:Int)<p.cs.length:=(by omega);by_cases hk2:k<=4000
   ·obtain⟨a,rfl,⟨g1,g2⟩,u,g5,hr⟩:=hc q p.cs[q] (by simp[hlt]);have g1:=AA h1 g1;have g5:=AA h1 g5;have g2:=Qe g2;have hA:=JC h1 hr;obtain⟨pa,ka,rfl⟩:=hr.slice;have hS:=λk:Int=>uO (k:=k) (A:=CY p.gs) hlt;generalize p.cs[q]=y at*;by_cases hk3:k+y.n.size<=4000
    ·go_wp2_with fail;refine hA.mono ?_;rintro e w2 ⟨rfl,n,rfl,⟨hn0,hn1⟩,he2⟩;have pJ:=hS _ ((he.add (.of (n:=y.n.size)) hk0 (by omega)).add he2 (by omega) hn0);go_wp2;go_roundw;exact⟨q+1,k+y.n.size+n,by omega,by go_num,by go_num,⟨by omega,by omega⟩,pJ,trivial⟩;simp[intOf];omega
    ·clear hA hS;go_wp2;go_roundw;exact⟨q+1,k+y.n.size,by omega,by go_num,by go_num,⟨by omega,by omega⟩,.big (by omega),trivial⟩;simp[intOf];omega
   ·clear hc;go_wp2;go_meet;exact⟨⟨_,rfl,⟨hk0,hk1⟩,.big (by omega)⟩,rfl⟩
 obtain⟨⟨k,rfl,⟨hk0,hk1⟩,he⟩,rfl⟩:=hcut;go_upto_block 2 with fail;go_cut[5,7]from 63 to 84 (λn _ wx=>WX n 4503599627370496 (CY p.gs+Aj DV p.cs+Aj Fe p.xs)/\wx=wc)
 ·have b3:=hB.c 3 _ rfl;go_wp2;go_loopw[5,7] (λn i wr=>∃q:Nat,∃k:Int,q<=p.xs.length/\i=cI cJ (q:Int)/\n=cI cJ k/\Cn k 4503599627370496/\GV k (CY p.gs+Aj DV p.cs+Aj Fe (p.xs.take q))/\wr=wc) (λ_ i _=>p.xs.length-(intOf i).toNat);exact⟨0,_,AY,rfl,rfl,⟨hk0,hk1⟩,he,rfl⟩;obtain⟨q,k,hq,rfl,rfl,⟨hk0,hk1⟩,he,rfl⟩:=hrel;by_cases hend:q=p.xs.length
  ·subst hend;rw[DY]at he;go_wp2;go_meet;exact⟨⟨_,rfl,⟨hk0,hk1⟩,he⟩,rfl⟩
  ·have hlt:q<p.xs.length:=(by omega);have A8:(q:Int)<p.xs.length:=(by omega);by_cases hk2:k<=4000
   ·obtain⟨a,rfl,⟨g1,g2⟩,-⟩:=hx q p.xs[q] (by simp[hlt]);have g1:=AA h1 g1;have g2:=Qe g2;have hnx:=BD Fe hlt;change _=_+(1+p.xs[q].n.size)at hnx;clear hx;generalize p.xs[q]=y at*;go_wp2;go_roundw;exact⟨q+1,k+1+y.n.size,by omega,by go_num,by go_num,⟨by omega,by omega⟩,((he.add (.of (n:=1)) hk0 (by omega)).add (.of (n:=y.n.size)) (by omega) (by omega)).cast (by omega),trivial⟩;simp[intOf];omega
   ·clear hx;go_wp2;go_meet;exact⟨⟨_,rfl,⟨hk0,hk1⟩,.big (by omega)⟩,rfl⟩
 clear hk0 hk1 he hx;obtain⟨⟨k,rfl,⟨hk0,hk1⟩,he⟩,rfl⟩:=hcut;go_upto_block 4 with fail;go_cut[5,8]from 85 to 105 (λn _ wx=>WX n 4503599627370496 (Ww p)/\AA6 wc wx)
 ·go_wp2;go_loopw[5,8] (λn i wr=>∃q:Nat,∃k:Int,q<=p.fs.length/\i=cI cJ (q:Int)/\n=cI cJ k/\Cn k 4503599627370496/\GV k (CY p.gs+Aj DV p.cs+Aj Fe p.xs+Aj cntF (p.fs.take q))/\AA6 wc wr) (λ_ i _=>p.fs.length-(intOf i).toNat);exact⟨0,_,AY,rfl,rfl,⟨hk0,hk1⟩,he,AL⟩;clear hk0 hk1 he;obtain⟨q,k,hq,rfl,rfl,⟨hk0,hk1⟩,he,hbw⟩:=hrel;have hB1:=hB.nx hbw;have b4:=hB1.c 4 _ rfl;by_cases hend:q=p.fs.length
  ·subst hend;rw[DY]at he;go_wp2;go_meet;exact⟨⟨_,rfl,⟨hk0,hk1⟩,he⟩,hbw⟩
  ·have hlt:q<p.fs.length:=(by omega);have A8:(q:Int)<p.fs.length:=(by omega);by_cases hk2:k<=4000
   ·obtain⟨a,rfl,⟨g0,y1⟩,⟨g1,y2⟩,⟨v2,g2,r2⟩,⟨v3,g3,r3⟩,v4,g4,r4⟩:=hf q p.fs[q] (by simp[hlt]);have hw:=AB h1 hbw;have hV:EL w0 (.agg #[cS p.fs[q].n,cS p.fs[q].r,v2,v3,v4]) p.fs[q] v2 v3 v4:=⟨rfl,⟨y1,y2⟩,r2,r3,r4⟩;have hA:=Sm hw hV;have g0:=AA hw g0;have g1:=AA hw g1;have g2:=AA hw g2;have g3:=AA hw g3;have g4:=AA hw g4;obtain⟨p2',k2',rfl⟩:=r2.slice;obtain⟨uw,k3',rfl⟩:=r3.slice;obtain⟨p4',k4',rfl⟩:=r4.slice;have hS:=λk:Int=>tO (k:=k) (A:=CY p.gs+Aj DV p.cs+Aj Fe p.xs) hlt;generalize p.fs[q]=y at*;go_wp2_with fail;refine hA.mono ?_;rintro e w2 ⟨hb2,n,rfl,⟨hn0,hn1⟩,hn2⟩;have hbw2:=AB hbw hb2;have pJ:=hS _ (he.add hn2 hk0 hn0);go_wp2;go_roundw;exact⟨q+1,k+n,by omega,by go_num,by go_num,⟨by omega,by omega⟩,pJ,hbw2⟩;simp[intOf];omega
   ·clear hf hB hB1;go_wp2;go_meet;exact⟨⟨_,rfl,⟨hk0,hk1⟩,.big (by omega)⟩,hbw⟩
 obtain⟨⟨k,rfl,⟨hk0,hk1⟩,he⟩,hbw⟩:=hcut;have hbf:=AB hb1 hbw;have hfin:k<=4000->Q0 p:=λh=>⟨by omega,by omega,by omega,by have:=he h;omega⟩;by_cases hk2:k<=4000
 ·have hfin:=Wx (hfin hk2);go_wp2;go_ret;exact⟨hbf,_,rfl,λ_=>hfin.out⟩
 ·clear he hB hb1 hfin;go_wp2;go_ret;exact⟨hbf,_,rfl,λh=>by cases h⟩
section
structure Kp(e:TypeId)(B:Nat)(w w':World):Prop where
 b:Below B w w'
 k:∀r,r<w.heap.size->(∀cur m,w.heap[r]?≠cP (.cells cur e m))->w'.heap[r]? =w.heap[r]?
section
variable {e : TypeId} {B : Nat} {w w1 w2 : World}
def Kp.refl:Kp e B w w:=⟨AL,λ_ _ _=>rfl⟩
def Kp.of(h:AA6 w w1)(hB:B<=w.heap.size):Kp e B w w1:=⟨h.mono hB,λr hr _=>h.block r hr⟩
def Kp.trans(h:Kp e B w w1)(k:Kp e B w1 w2):Kp e B w w2:=⟨h.b.trans k.b,λr hr hn=>by
 have e1:=h.k r hr hn
 exact(k.k r (A9 hr h.b.size) (by rw[e1];exact hn)).trans e1⟩
def Kp.nx(h:Kp e B w w1)(hB:B<=w.heap.size)(hb:AA6 w1 w2):Kp e B w w2:=h.trans (.of hb (AX hB h.b.size))
def Kp.grown{s:Nat}(hx:w.ownsRow B e s v n xs)(hg:w.grownBy w1 v.ownBlock)(hB:B<=w.heap.size):Kp e B w w1:=
 ⟨(Below.refl B w).grown hg hB (λk hk=>(hx.lt k hk).1),λr hr hn=>hg.block r hr λh=>by
  rcases hx.2 with⟨rfl,_⟩|⟨g,cap,cur,rfl,_,hh,_⟩
  ·cases h
  ·obtain rfl:r=g:=by simpa[Value.ownBlock]using h
   exact hn _ _ hh⟩
theorem Kp.typ(h:Kp e B w w1)(hT:TG w p t)(hne:t≠e):w1.heap[p]? =w.heap[p]? :=by grind [TG,cases Kp]
def Kp.row{B' s:Nat}{e':TypeId}(h:Kp e B w w1)(hx:w.ownsRow B' e' s v n xs)(hne:e'≠e):w1.ownsRow B' e' s v n xs:=by
 refine⟨hx.1,hx.2.imp id ?_⟩;rintro⟨g,cap,cur,h1,h2,h3,h4⟩;exact⟨g,cap,cur,h1,h2,(h.typ ⟨_,_,h3⟩ hne).trans h3,h4⟩
def TG.al(h:TG w p t)(hb:AA6 w w1):TG w1 p t:=by
 have hl:=h.lt;obtain⟨cur,m,h⟩:=h;exact⟨cur,m,(hb.block p hl).trans h⟩
def TG.new(w:World)(cs:Array Value)(t:TypeId):TG (w.alloc (Obj.cells cs t)) w.heap.size t:=⟨cs,_,heap_alloc_new w _⟩
theorem TG.kp(hT:TG w p t)(h:Kp e B w w1)(hne:t≠e):TG w1 p t:=by grind [TG,cases Kp]
def Ws(w:World)(v:Value)(l:List ByteArray):Prop:=∃B,w.ownsRow B 9 1 v l.length (l.map .string)
def Ws.kp{l:List ByteArray}(h:Ws w v l)(hk:Kp e B w w1)(hne:9≠e):Ws w1 v l:=by
 obtain⟨C,h⟩:=h;exact⟨C,hk.row h hne⟩
theorem Ws.at{l:List ByteArray}(h:Ws w v l):∃p c,v=cY p l.length c/\∀(q:Nat) s,l[q]? =cP s->∃g,p=cP ⟨g,0,cX⟩/\w.cell? ⟨g,q,cX⟩=cP (cS s):=by
 obtain⟨C,h⟩:=h;obtain⟨p,c,rfl⟩:=Bf h;refine⟨p,c,rfl,λq s hq=>?_⟩;have hl:q<l.length:=(List.getElem?_eq_some_iff.1 hq).1;rcases h.2 with⟨h1,h2⟩|⟨g,cap,cur,h1,-⟩
 ·omega
 ·obtain⟨rfl,rfl⟩:p=cP ⟨g,0,cX⟩/\c=cap:=by simpa using h1
  refine⟨g,rfl,?_⟩;rw[h.cellAt q (by omega),List.getElem?_map,hq];rfl
theorem Ws.new(w:World)(l:List ByteArray)(hl:l.length<=maxLen):Ws (w.alloc (Obj.cells (l.map Value.string).toArray 9)) (cY (cP ⟨w.heap.size,0,cX⟩) l.length l.length) l:=by
 refine⟨0,?_⟩;have:=World.ownsRow_lit (base:=0) (e:=9) (size:=1) w (l.map Value.string).toArray l.length (AY) hl (by simp);simpa using this
end
def lens(l:List ByteArray):Nat:=Aj (λs=>s.size+1) l
def Iu:∀l:List ByteArray,l.length<=lens l
 | []=>AQ
 |x::r=>by
  have:=Iu r;unfold lens at this⊢;simp only[List.length_cons,Aj];omega
abbrev TF(b:UInt8):Value:=cI .u8 b.toNat
def BU(w:World)(B:Nat)(v:Value)(n:Nat):Prop:=∃bs:List UInt8,bs.length<=n/\w.ownsRow B 5 1 v bs.length (bs.map TF)
theorem BU.up{k:Nat}(h:BU w B v n)(hk:n<=k):BU w B v k:=by grind [BU]
theorem BU.nx{w1:World}(h:BU w B v n)(hb:AA6 w w1):BU w1 B v n:=by grind [BU,Dh]
theorem BU.one(hn:bs.length<=n)(c:UInt8)(h:w.ownsRow B 5 1 v (bs.length+1) (bs.map TF++[TF c])):BU w B v (n+1):=
 ⟨bs++[c],by simp;omega,by rw[List.length_append,List.map_append];exact h⟩
def BU.str1(hn:bs.length<=n)(s:ByteArray)(h:w.ownsRow B 5 1 v (bs.length+s.size) (bs.map TF++Lib.strCells s)):BU w B v (n+s.size):=
 ⟨bs++s.data.toList,by simp;omega,by rw[List.length_append,List.map_append,Array.length_toList];exact h⟩
def BU.two(hn:bs.length<=n)(s:ByteArray)(h:w.ownsRow B 5 1 v (bs.length+1+s.size) (bs.map TF++[TF 32]++Lib.strCells s)):BU w B v (n+1+s.size):=
 ⟨bs++[32]++s.data.toList,by simp;omega,by rw[List.length_append,List.length_append,List.map_append,List.map_append,Array.length_toList];exact h⟩
theorem BU.sl(h:BU w B v n):∃p m c,v=cY p m c:=by grind [BU,Bf]
theorem Cx{lv:Value}{l:List ByteArray}(hv:BU w B v n)(hl:Ws w lv l)(hB:B<=w.heap.size)(hn:n+lens l<=100000000):Calls prog 170 #[v,lv] w λe w'=>∃v',e=.returned v'/\BU w' B v' (n+lens l+1)/\Kp 5 B w w':=by
 obtain⟨i0,hi,hz0,hz1,hz2⟩:=Cq (P:=prog) (t:=5) (z:=cI .u8 0) (s:=1) (b:=1) (by kernel_rfl);obtain⟨p0,m0,c0,rfl⟩:=hv.sl;obtain⟨p,c,rfl,-⟩:=hl.at;have hll:=Iu l;go_enter func170,ntmps170;go_wp2;go_loopw[0,5] (λv i wr=>∃(q:Nat),q<=l.length/\i=cI cJ (q:Int)/\BU wr B v (n+lens (l.take q))/\Kp 5 B w wr) (λ_ i _=>l.length-(intOf i).toNat);exact⟨0,AY,rfl,hv.up (by omega),.refl⟩;obtain⟨q,hq,rfl,⟨bs,hm,hv⟩,hk⟩:=hrel;obtain⟨p0,c0,rfl⟩:=Bf hv;have hBr:B<=wr.heap.size:=AX hB hk.b.size;by_cases hend:q=l.length
 ·subst hend;rw[List.take_length]at hm;have hm:bs.length<=n+lens l:=hm;have hB2:=Ae.alloc wr [cI .u8 10] 5;go_wp2_with(at_builtin;refine wpList_append_own' rfl _ _ 250 rfl B 5 i0 _ 1 1 underlying250 hi hz0 hz1 hz2 rfl (by decide) _ bs.length (bs.map TF) rfl (World.ownsRow.alloc hv _) ⟨wr.heap.size,0,cX⟩ 1 1 [cI .u8 10] rfl rfl (λj u hu=>by rw[Dk,Nat.zero_add];exact hB2.c j u hu) (by simp[Value.oneCell']) (by unfold maxLen;omega) (by omega) (by simp;omega) ?_;intro v' w3 ho hg hf;obtain⟨N7,Nh,rfl⟩:=Bf ho)
  go_ret;exact⟨_,rfl,BU.one hm 10 ho,(hk.nx hB (AJ _ _)).trans (.grown (World.ownsRow.alloc hv _) hg (by simp;omega))⟩
 ·have hlt:q<l.length:=by omega
  have A8:(q:Int)<l.length:=by omega
  obtain⟨g,rfl,hg0⟩:∃g,p=cP ⟨g,0,cX⟩/\wr.cell? ⟨g,q,cX⟩=cP (cS l[q]):=by
   obtain⟨p',c',h1,h2⟩:=(hl.kp hk (by decide)).at;obtain⟨rfl,rfl⟩:p=p'/\c=c':=(by simpa using h1);exact h2 q l[q] (by simp[hlt])
  have hs:=BD (λs:ByteArray=>s.size+1) hlt;have hall:lens (l.take (q+1))<=lens l:=by
   have:=D5 (λs:ByteArray=>s.size+1) (l.take (q+1)) (l.drop (q+1));rw[List.take_append_drop]at this;unfold lens;omega
  change lens (l.take (q+1))=lens (l.take q)+(l[q].size+1)at hs;have hT:TG wr g 9:=by
   obtain⟨C,hx⟩:=hl.kp hk (by decide);rcases hx.2 with⟨h1,-⟩|⟨g',cap,cur,h1,-,h3,-⟩
   ·cases h1
   ·obtain rfl:g=g':=(by simpa using(Value.slice.inj h1).1);exact⟨_,_,h3⟩
  generalize l[q]=s at*;by_cases h0:q=0
  ·subst h0;simp only[Nat.zero_add]at hs hall;(go_wp2_with(at_builtin;refine Lib.wpList_append_own_string _ rfl _ _ 250 9 rfl B 5 i0 underlying250 underlying9 hi hz0 hz1 hz2 _ bs.length (bs.map TF) rfl hv s rfl (by unfold maxLen;omega) (by omega) hBr ?_;intro v' w3 ho hg hf;obtain⟨N7,Nh,rfl⟩:=Bf ho));go_roundw;exact⟨1,by omega,rfl,(BU.str1 hm s ho).up (by omega),hk.trans (.grown hv hg hBr)⟩;simp[intOf];omega
  ·have vR:(0:Int)<q:=(by omega);have hB2:=Ae.alloc wr [cI .u8 32] 5;have hg1:=AA (AJ wr (Obj.cells #[cI .u8 32] 5)) hg0;have hT1:=hT.al (AJ wr (Obj.cells #[cI .u8 32] 5))
   go_wp2_with first
    |(at_builtin;refine wpList_append_own' rfl _ _ 250 rfl B 5 i0 _ 1 1 underlying250 hi hz0 hz1 hz2 rfl (by decide) _ bs.length (bs.map TF) rfl (World.ownsRow.alloc hv _) ⟨wr.heap.size,0,cX⟩ 1 1 [cI .u8 32] rfl rfl (λj u hu=>by rw[Dk,Nat.zero_add];exact hB2.c j u hu) (by simp[Value.oneCell']) (by unfold maxLen;omega) (by omega) (by simp;omega) ?_;intro v2 w2 ho2 AD6 hf2;obtain⟨pu2,cu2,rfl⟩:=Bf ho2;have hk2:=Kp.grown (World.ownsRow.alloc hv _) AD6 (by simp;omega);have hg2:=(BM (hk2.typ hT1 (by decide)) q).trans hg1)
    |(at_builtin;refine Lib.wpList_append_own_string _ rfl _ _ 250 9 rfl B 5 i0 underlying250 underlying9 hi hz0 hz1 hz2 _ (bs.length+1) _ rfl ho2 s rfl (by unfold maxLen;omega) (by omega) (AX (by simp;omega) hk2.b.size) ?_;intro v3 w3 ho3 AD5 hf3;obtain⟨pu3,cu3,rfl⟩:=Bf ho3;have hk3:=Kp.grown ho2 AD5 (AX (by simp;omega) hk2.b.size))
   go_roundw;exact⟨q+1,by omega,by go_num,(BU.two hm s ho3).up (by omega),((hk.nx hB (AJ _ _)).trans hk2).trans hk3⟩;simp[intOf];omega
end
section
open Dp
def Tryz.tC:(prog.info? 5).map (λi=>(i.zero,i.size,i.bytes))=cP (cP (cI .u8 0),1,1):=by kernel_rfl
end
section
open Dp
def kH(w:World)(d:UInt8)(n:Int)(hn:n=(d.toNat:Int)):(w.alloc (.cells #[cI .u8 n] 5)).ownsRow w.heap.size 5 1 (cY (cP ⟨w.heap.size,0,cX⟩) 1 1) 1 [Gg d]:=by
 subst hn;exact⟨rfl,.inr ⟨w.heap.size,1,_,rfl,AQ,heap_alloc_new w _,by omega,by unfold maxLen;omega,rfl,rfl⟩⟩
def dO{b b':Nat}{e:TypeId}{size:Nat}(h:b<=b')(ho:w.ownsRow b' e size v n xs):w.ownsRow b e size v n xs:=by
 refine⟨ho.1,?_⟩;rcases ho.2 with h1|⟨g,cap,cur,h1,h2,h3⟩
 ·exact .inl h1
 ·exact .inr ⟨g,cap,cur,h1,by omega,h3⟩
theorem Rf(n:Int)(w:World):Calls prog 217 #[cI cJ n] w λe w'=>e=.returned (cS ⟨(Hf (pb n)).toArray⟩)/\AA6 w w':=by
 obtain⟨i0,hi,hz0,hz1,hz2⟩:=info_parts Tryz.tC;have hu:IntKind.u64.wrap (Ba n)=((pb n:Nat):Int):=by rw[IntKind.wrap_u64];unfold pb u64;omega
 go_enter func217,ntmps217;go_wp2_with((with_reducible refine(NG ..).mono ?_);rintro e w' ⟨rfl,rfl⟩)
 go_loopw[3,4,5,6] (λu v i _ wr=>∃k x:Nat,k<=16/\i=cI cJ (k:Int)/\u=cI .u64 (x:Int)/\Hid (x=pb n/16^k)/\wr.ownsRow w.heap.size 5 1 v k ((Ie (pb n) k).map Gg)/\AA6 w wr) (λ_ _ i _ _=>16-(intOf i).toNat);exact⟨0,pb n,by omega,rfl,rfl,by rw[Nat.pow_zero,Nat.div_one];rfl,World.ownsRow_nil _ _ _ _,AL⟩;obtain⟨k,x,hk,rfl,rfl,hx,hown,hb⟩:=hrel;by_cases hlt:k<16
 ·obtain⟨d,hdd⟩:∃d,d=x%16:=⟨_,rfl⟩;have hdl:d<16:=by omega
  have hd:((x:Int)%16)=(d:Int):=by omega
  have Hd:Hid (d=pb n/16^k%16):=by show _=_;rw[hdd,hx.out]
  have Hx:Hid (x/16=pb n/16^ (k+1)):=by show _=_;rw[hx.out,Nat.div_div_eq_div_mul,Nat.pow_succ]
  have Hw:Hid (IntKind.u64.wrap ((x:Int)/16)=((x/16:Nat):Int)):=by
   show _=_;have h1:=Zu n;have h2:x<=pb n:=(by rw[hx.out];exact Nat.div_le_self _ _);rw[IntKind.wrap_u64];omega
  clear hdd;have hlo:=Wx (@lH d);have hhi:=Wx (@lI d);by_cases h0:d<10;all_goals
   have o1:=kH (n:=if d<10 then(d:Int)+48 else(d:Int)+87) wr (Tk d) (by first|(rw[if_pos h0];exact(hlo.out h0).symm)|(rw[if_neg h0];exact(hhi.out h0 hdl).symm))
   first|rw[if_pos h0]at o1|rw[if_neg h0]at o1
   (go_wp2_with(at_builtin;refine CP rfl (.tmp 24) (.tmp 25) 250 rfl wr.heap.size 5 i0 (cI .u8 0) 1 1 underlying250 hi hz0 hz1 hz2 rfl (by decide) _ _ _ rfl o1 w.heap.size _ k _ rfl (hown.alloc _) (Es _) (by unfold maxLen;omega) (by omega) (by simp) ?_;intro v' w1 hown' hgrow));have hb':AA6 w w1:=(hb.alloc hb.size _).grown hgrow (by have:=hb.size;simp;omega) (λk hk=>AX hb.size (o1.lt k hk).1);have hown2:w1.ownsRow w.heap.size 5 1 v' (k+1) ((Ie (pb n) (k+1)).map Gg):=by
    rw[Ie,<-Hd.out,List.map_cons,Nat.add_comm k 1];exact dO hb.size hown'
   go_wp2;go_roundw;exact⟨k+1,x/16,by omega,by go_num,congrArg (Value.int .u64) Hw.out,Hx,hown2,hb'⟩;simp[intOf];omega
 ·obtain rfl:k=16:=by omega
  have hrun:=D7 (P:=prog) (dst:=9) underlying250 underlying5 underlying9 hown;have hadd:=run_string_add_lists (P:=prog) wr [48,102] (Ie (pb n) 16) (by decide) (by rw[Ny];decide);rw[Sg]at hadd;go_wp2;go_ret;exact⟨rfl,hb⟩
end
section
open Dp
def MK(l:List UInt8)(e:Ending):Prop:=e=.returned (.tuple #[cI cJ (LZ l).1,cE (LZ l).2])
def R3(h:LZ l=(0,cA)):MK l (.returned (.tuple #[cI cJ 0,cE cA])):=by unfold MK;rw[h]
def YW{n:Int}(h:LZ l=(n,cC)):MK l (.returned (.tuple #[cI cJ n,cE cC])):=by unfold MK;rw[h]
def YV(h:l.length≠18):LZ l=(0,cA):=by simp[LZ,h]
theorem Xk(s:ByteArray)(w:World)(h:s.size≠18):Calls prog 250 #[cS s] w λe w'=>MK s.data.toList e/\AA6 w w':=by
 have h':((s.size:Int) !=18)=cC:=by rw[bne_iff_ne];omega
 have H:=Wx (YV (l:=s.data.toList) (by simpa using h));go_enter func250,ntmps250;go_wp2;go_ret2;exact⟨R3 H.out,AL⟩
theorem jy(s:ByteArray)(w:World)(h:s.size=18):Calls prog 250 #[cS s] w λe w'=>MK s.data.toList e/\AA6 w w':=by
 have h':((s.size:Int) !=18)=cA:=by rw[bne_eq_false_iff_eq];omega
 go_enter func250,ntmps250;go_wp2;go_loop[4,5,6] (λu i _=>∃k x:Nat,k<=16/\i=cI cJ ((2+k:Nat):Int)/\u=cI .u64 (x:Int)/\Hid (x=H9 s.data.toList k)) (λ_ i _=>18-(intOf i).toNat);exact⟨0,0,by omega,rfl,rfl,rfl⟩;obtain⟨k,x,hk,rfl,rfl,hx⟩:=hrel;by_cases hlt:k<16
 ·have hs:2+k<s.size:=by omega
  have hc:=Wx s[2+k].toNat_lt;have hg:=Wx (getD_at hs);have xU:Hid (x<1152921504606846976):=by show _<_;rw[hx.out];exact U9 _ hlt
  have hstep:Hid (H9 s.data.toList (k+1)=x*16+Qm s[2+k].toNat):=by show _=_;rw[H9,<-hx.out,hg.out]
  go_wp2
  ·go_round;exact⟨k+1,_,by omega,by go_num,congrArg (Value.int .u64) (sP xU.out hc.out (by assumption)),hstep.out.symm⟩;simp[intOf];omega
  ·go_round;exact⟨k+1,_,by omega,by go_num,congrArg (Value.int .u64) (sO xU.out hc.out (by assumption)),hstep.out.symm⟩;simp[intOf];omega
 ·obtain rfl:k=16:=by omega
  have H1:=Wx (@lN s x hx.out);have H2:=Wx (@eu s x h hx.out);go_wp2_with((with_reducible refine(Rf ..).mono ?_);rintro e w' ⟨rfl,hb⟩)
  ·go_ret2;exact⟨R3 (H1.out (by assumption)),hb⟩
  ·go_ret2;exact⟨YW (H2.out (by assumption)),hb⟩
theorem bg(s:ByteArray)(w:World):Calls prog 250 #[cS s] w λe w'=>MK s.data.toList e/\AA6 w w':=by grind [jy,Xk]
end
section
open Dp
@[go_sem] theorem ABt (s:ByteArray) (c:Int) (w:World):(callFunc 226 #[cS s,cI .u8 c]).run prog w=.ok (.value (cI cJ (firstIdx s c.toNat.toUInt8))) w:=by
 rw[run_callFunc_extern (e:=Extern.BytealgIndexByte.indexByte) func226 (by kernel_rfl) (by kernel_rfl) (by kernel_rfl) (by kernel_rfl),run_indexByte_string];rfl
end
section
open Num
theorem SS{n:Int}{k:Nat}(hneg:¬n<0)(hk:nd n.natAbs=k):Ee n=L8 n.natAbs k:=by grind [nd,Ee,L8,sign]
theorem SV{n:Int}{k:Nat}(hneg:n<0)(hk:nd n.natAbs=k):Ee n=45::L8 n.natAbs k:=by grind [nd,Ee,L8,sign]
theorem kP{m k:Nat}(hm:m<=9223372036854775808)(hk:k<nd m)(h0:m/10^ (k+1)=0):nd m=k+1:=by grind [QG]
theorem kN{m k:Nat}(hm:m<=9223372036854775808)(hk:k<nd m)(h0:m/10^ (k+1)≠0):k+1<nd m:=by grind [QG]
end
section
open Num
def Tryz.kZ:(prog.info? 5).map (λi=>(i.zero,i.size,i.bytes))=cP (cP (cI .u8 0),1,1):=by kernel_rfl
def QN(w:World)(d:UInt8)(n:Int)(hn:n=(d.toNat:Int)):(w.alloc (.cells #[cI .u8 n] 5)).ownsRow w.heap.size 5 1 (cY (cP ⟨w.heap.size,0,cX⟩) 1 1) 1 [Gg d]:=by
 subst hn;exact⟨rfl,.inr ⟨w.heap.size,1,_,rfl,AQ,heap_alloc_new w _,by omega,by unfold maxLen;omega,rfl,rfl⟩⟩
def Xy{b b':Nat}{e:TypeId}{size:Nat}(h:b<=b')(ho:w.ownsRow b' e size v n xs):w.ownsRow b e size v n xs:=by
 refine⟨ho.1,?_⟩;rcases ho.2 with h1|⟨g,cap,cur,h1,h2,h3⟩
 ·exact .inl h1
 ·exact .inr ⟨g,cap,cur,h1,by omega,h3⟩
def AB6(n:Int)(hn:Hid (-9223372036854775808<=n/\n<=9223372036854775807))(w:World):Calls prog 147 #[cI cJ n] w λe w'=>e=.returned (cI .u64 (n.natAbs:Int))/\w=w':=by
 by_cases h:n<0
 ·have H:Hid (IntKind.u64.wrap (-(IntKind.u64.wrap n))=(n.natAbs:Int)):=by
   show _=_;have:=hn.out;rw[IntKind.wrap_u64,IntKind.wrap_u64];omega
  go_enter func147,ntmps147;go_wp2;go_ret;exact⟨FQ H.out,rfl⟩
 ·have H:Hid (IntKind.u64.wrap n=(n.natAbs:Int)):=by
   show _=_;have:=hn.out;rw[IntKind.wrap_u64];omega
  go_enter func147,ntmps147;go_wp2;go_ret;exact⟨FQ H.out,rfl⟩
theorem Kc(n:Int)(hn:Hid (-9223372036854775808<=n/\n<=9223372036854775807))(w:World):Calls prog 172 #[cI cJ n] w λe w'=>e=.returned (cS ⟨(Ee n).toArray⟩)/\AA6 w w':=by
 obtain⟨i0,hi,hz0,hz1,hz2⟩:=info_parts Tryz.kZ;have hm:Hid (n.natAbs<=9223372036854775808):=by show _<=_;have:=hn.out;omega
 go_enter func172,ntmps172;go_wp2_with((with_reducible refine(AB6 _ hn _).mono ?_);rintro e w' ⟨rfl,rfl⟩)
 go_loopw[3,4] (λv u wr=>∃k x:Nat,k<nd n.natAbs/\k<=18/\u=cI .u64 (x:Int)/\Hid (x=n.natAbs/10^k)/\wr.ownsRow w.heap.size 5 1 v k ((L8 n.natAbs k).map Gg)/\AA6 w wr) (λ_ u _=>(intOf u).toNat);exact⟨0,n.natAbs,aI _,by omega,rfl,by rw[Nat.pow_zero,Nat.div_one];rfl,World.ownsRow_nil _ _ _ _,AL⟩;obtain⟨k,x,hk,AJf,rfl,hx,hown,hb⟩:=hrel;obtain⟨d,hdd⟩:∃d,d=x%10:=⟨_,rfl⟩;have hdl:d<10:=by omega
 have hd:((x:Int)%10)=(d:Int):=by omega
 have Hd:Hid (d=n.natAbs/10^k%10):=by show _=_;rw[hdd,hx.out]
 have Hx:Hid (x/10=n.natAbs/10^ (k+1)):=by show _=_;rw[hx.out,Nat.div_div_eq_div_mul,Nat.pow_succ]
 have Hw:Hid (IntKind.u64.wrap ((x:Int)/10)=((x/10:Nat):Int)):=by
  show _=_;have h1:=hm.out;have h2:x<=n.natAbs:=by rw[hx.out];exact Nat.div_le_self _ _
  rw[IntKind.wrap_u64];omega
 clear hdd;have o1:=QN (n:=48+(d:Int)) wr (xD d) (Yf hdl).symm;have hstep:∀(v':Value) (w1:World),w1.ownsRow wr.heap.size 5 1 v' (1+k) ([Gg (xD d)]++(L8 n.natAbs k).map Gg)->w1.ownsRow w.heap.size 5 1 v' (k+1) ((L8 n.natAbs (k+1)).map Gg):=by
  intro v' w1 h;rw[L8,<-Hd.out,List.map_cons,Nat.add_comm k 1];exact Xy hb.size h
 have HS:=Wx hstep;by_cases h0:x/10=0
 ·have hz:(IntKind.u64.wrap ((x:Int)/10)==0)=cC:=by rw[beq_iff_eq,Hw.out];omega
  have H0:=Wx (kP hm.out hk (by rw[<-Hx.out];exact h0));clear h0;by_cases hneg:n<0
  ·have HT:=Wx (SV hneg H0.out);have hadd:=λw'=>run_string_add_lists (P:=prog) w' [45] (L8 n.natAbs (k+1)) (by decide) (by rw[K9];omega);(go_wp2_with(at_builtin;refine CP rfl (.tmp 11) (.tmp 12) 250 rfl wr.heap.size 5 i0 (cI .u8 0) 1 1 underlying250 hi hz0 hz1 hz2 rfl (by decide) _ _ _ rfl o1 w.heap.size _ k _ rfl (hown.alloc _) (Es _) (by unfold maxLen;omega) (by omega) (by simp) ?_;intro v' w1 hown' hgrow;have hrun:=D7 (P:=prog) (dst:=9) underlying250 underlying5 underlying9 (HS.out _ _ hown');have hb':AA6 w w1:=(hb.alloc hb.size _).grown hgrow (by have:=hb.size;simp;omega) (λk hk=>AX hb.size (o1.lt k hk).1);clear hgrow hown'));go_ret;exact⟨Vk (by rw[HT.out]),hb'⟩
  ·have HT:=Wx (SS hneg H0.out);(go_wp2_with(at_builtin;refine CP rfl (.tmp 11) (.tmp 12) 250 rfl wr.heap.size 5 i0 (cI .u8 0) 1 1 underlying250 hi hz0 hz1 hz2 rfl (by decide) _ _ _ rfl o1 w.heap.size _ k _ rfl (hown.alloc _) (Es _) (by unfold maxLen;omega) (by omega) (by simp) ?_;intro v' w1 hown' hgrow;have hrun:=D7 (P:=prog) (dst:=9) underlying250 underlying5 underlying9 (HS.out _ _ hown');have hb':AA6 w w1:=(hb.alloc hb.size _).grown hgrow (by have:=hb.size;simp;omega) (λk hk=>AX hb.size (o1.lt k hk).1);clear hgrow hown'));go_ret;exact⟨Vk (by rw[HT.out]),hb'⟩
 ·have hz:(IntKind.u64.wrap ((x:Int)/10)==0)=cA:=by rw[beq_eq_false_iff_ne,Hw.out];omega
  have H0:=Wx (kN hm.out hk (by rw[<-Hx.out];exact h0));have H1:=Wx (oF hm.out);have AJE:x/10<x:=by omega
  have Hwn:Hid ((IntKind.u64.wrap ((x:Int)/10)).toNat<x):=by show _<_;rw[Hw.out];omega
  go_wp2_with(at_builtin;refine CP rfl (.tmp 11) (.tmp 12) 250 rfl wr.heap.size 5 i0 (cI .u8 0) 1 1 underlying250 hi hz0 hz1 hz2 rfl (by decide) _ _ _ rfl o1 w.heap.size _ k _ rfl (hown.alloc _) (Es _) (by unfold maxLen;omega) (by omega) (by simp) ?_;intro v' w1 hown' hgrow;have hown2:=HS.out _ _ hown';have hb':AA6 w w1:=(hb.alloc hb.size _).grown hgrow (by have:=hb.size;simp;omega) (λk hk=>AX hb.size (o1.lt k hk).1);clear hgrow hown' hown o1)
  go_roundw;exact⟨k+1,x/10,H0.out,by have:=H0.out;have:=H1.out;omega,congrArg (Value.int .u64) Hw.out,Hx,hown2,hb'⟩;simp only[intOf];exact Hwn.out
end
section
open Num
def Ma(l:List UInt8)(e:Ending):Prop:=e=.returned (.tuple #[cI cJ (Nt l).1,cE (Nt l).2])
def Ol(h:Nt l=(0,cA)):Ma l (.returned (.tuple #[cI cJ 0,cE cA])):=by unfold Ma;rw[h]
def NJ{n:Int}(h:Nt l=(n,cC)):Ma l (.returned (.tuple #[cI cJ n,cE cC])):=by unfold Ma;rw[h]
end
section
open Num
def Mw(n:Int)(w:World):Calls prog 146 #[cI .u64 n] w λe w'=>e=.returned (cI cJ (wrap64 n))/\w=w':=by
 go_enter func146,ntmps146;go_wp2;go_ret;exact⟨rfl,rfl⟩
theorem bF(a:Int)(c:Nat):IntKind.u64.wrap (IntKind.u64.wrap (IntKind.u64.wrap (IntKind.u64.wrap a*10)+IntKind.u64.wrap (c:Int))-48)=IntKind.u64.wrap (a*10+(c:Int)-48):=by
 simp only[IntKind.wrap_u64];omega
theorem QL(a:Int):wrap64 (IntKind.u64.wrap (-(IntKind.u64.wrap a)))=wrap64 (-a):=by
 simp only[IntKind.wrap_u64];unfold wrap64;omega
theorem QK(a:Int):wrap64 (IntKind.u64.wrap a)=wrap64 a:=by
 simp only[IntKind.wrap_u64];unfold wrap64;omega
def ABz:(0:Int)=IntKind.u64.wrap 0:=by simp[IntKind.wrap_u64]
theorem Uv(s:ByteArray)(w:World)(hsz:s.size<=9223372036854775807)(h1:1<=s.size):Calls prog 236 #[cS s] w λe w'=>Ma s.data.toList e/\AA6 w w':=by
 have hg0:=Wx (Gl (s:=s) (k:=0) h1);have Hl:=Wx (size_data s);go_enter func236,ntmps236;go_wp2;go_loop[4,5] (λn i=>∃(k:Nat) (x:Int),k<=s.size/\k<=30/\i=cI cJ (k:Int)/\n=cI .u64 x/\Hid (x=IntKind.u64.wrap (Lb s.data.toList k))) (λ_ i=>30-(intOf i).toNat);exact⟨0,0,by omega,by omega,rfl,rfl,ABz⟩;obtain⟨k,x,hk1,hk2,rfl,rfl,hx⟩:=hrel;by_cases hlt:k<s.size/\k<30
 ·obtain⟨hlt1,hlt2⟩:=hlt;have hg:=Wx (Gl hlt1);by_cases hsk:k=0/\s[0].toNat=45
  ·obtain⟨rfl,hc⟩:=hsk;have hc':((s[0].toNat:Int)==45)=cC:=(by rw[beq_iff_eq];omega);have HS:Hid (x=IntKind.u64.wrap (Lb s.data.toList 1)):=by
    show _=_;rw[hx.out,Yp (by rw[hg0.out];exact UInt8.toNat_inj.1 hc)];rfl
   go_wp2;go_round;exact⟨1,x,by omega,by omega,by go_num,rfl,HS⟩;simp[intOf]
  ·have hst:=Yo (l:=s.data.toList) (k:=k) (by
    by_cases h0:k=0
    ·right;rw[hg0.out];intro e;exact hsk ⟨h0,by rw[e];rfl⟩
    ·left;omega)
   have HS:Hid (IntKind.u64.wrap (IntKind.u64.wrap (IntKind.u64.wrap (x*10)+IntKind.u64.wrap (s[k].toNat:Int))-48)=IntKind.u64.wrap (Lb s.data.toList (k+1))):=by
    show _=_;rw[hx.out,bF,hst,hg.out]
   by_cases h0:k=0
   ·have hc':((s[0].toNat:Int)==45)=cA:=(by rw[beq_eq_false_iff_ne];intro e;exact hsk ⟨h0,by omega⟩);subst h0;clear hsk;go_wp2;go_round;exact⟨1,_,by omega,by omega,by go_num,rfl,HS.out⟩;simp[intOf]
   ·have h0':((k:Int)==0)=cA:=(by rw[beq_eq_false_iff_ne];omega);go_wp2;go_round;exact⟨k+1,_,by omega,by omega,by go_num,rfl,HS.out⟩;simp[intOf];omega
 ·have hmin:min s.data.toList.length 30=k:=by rw[Hl.out];omega
  obtain⟨V,hV⟩:∃V,V=Ta s.data.toList:=⟨_,rfl⟩;have hvr:Hid (-9223372036854775808<=V/\V<=9223372036854775807):=by rw[hV];exact FR _
  have H1:=Wx (@lQ s V hV);have H2:=Wx (@fA s V hV);have hd:¬(k<s.size)\/(k<s.size/\¬k<30):=by omega
  have hpos:0<s.size:=by omega
  by_cases hc:s[0].toNat=45
  ·have hc':((s[0].toNat:Int)==45)=cC:=(by rw[beq_iff_eq];omega);have he:wrap64 (IntKind.u64.wrap (-x))=V:=by
    rw[hV,hx.out,QL];unfold Ta;rw[if_pos (by rw[hg0.out];exact UInt8.toNat_inj.1 hc),hmin]
   clear hV hmin hc hlt;rcases hd with hd|⟨hd1,hd2⟩;all_goals
    go_wp2_with(first|((with_reducible refine(Mw _ _).mono ?_);rintro e w' ⟨rfl,rfl⟩)|((with_reducible refine(Kc _ hvr _).mono ?_);rintro e w' ⟨rfl,hb⟩))
    ·go_ret2;exact⟨Ol (H1.out (by assumption)),hb⟩
    ·go_ret2;exact⟨NJ (H2.out (by assumption)),hb⟩
  ·have hc':((s[0].toNat:Int)==45)=cA:=(by rw[beq_eq_false_iff_ne];omega);have he:wrap64 x=V:=by
    rw[hV,hx.out,QK];unfold Ta;rw[if_neg (by rw[hg0.out];intro e;rw[e]at hc;exact hc rfl),hmin]
   clear hV hmin hc hlt;rcases hd with hd|⟨hd1,hd2⟩;all_goals
    go_wp2_with(first|((with_reducible refine(Mw _ _).mono ?_);rintro e w' ⟨rfl,rfl⟩)|((with_reducible refine(Kc _ hvr _).mono ?_);rintro e w' ⟨rfl,hb⟩))
    ·go_ret2;exact⟨Ol (H1.out (by assumption)),hb⟩
    ·go_ret2;exact⟨NJ (H2.out (by assumption)),hb⟩
end
section
namespace Word
open Dp Num
def L9(c:Nat):Bool:=(decide (97<=c)&&decide (c<=122))||(decide (65<=c)&&decide (c<=90))||decide (c=95)
def Wv(c:Nat):Bool:=decide (48<=c)&&decide (c<=57)
def zJ:List UInt8:=[110,117,108,108]
def ADL:List UInt8:=[105,110,116]
def rY:List UInt8:=[102,108,111,97,116]
def OH(l:List UInt8):Bool:=l==zJ||l==ADL||l==rY
def Np(l:List UInt8)(i:Nat):Bool:=(Wv (l.getD i 0).toNat&&decide (0<i))||L9 (l.getD i 0).toNat
def Gf(l:List UInt8):Nat->Bool
 |0=>cC
 |k+1=>Gf l k&&Np l k
def Eb(l:List UInt8):Bool:=decide (1<=l.length)&&decide (l.length<=16)&&Gf l l.length&& !OH l
theorem SQ{k:Nat}(hk:k<n)(h:Np l k=cA):Gf l n=cA:=by
 induction n with
 |zero=>omega
 |succ n ih=>
  rw[Gf];by_cases e:k=n
  ·subst e;simp[h]
  ·rw[ih (by omega)];rfl
def Kg{k:Nat}(hk:k<l.length)(h:Np l k=cA):Eb l=cA:=by
 unfold Eb;rw[SQ hk h];simp
theorem Oq(h:Gf l l.length=cC):Eb l=(decide (1<=l.length)&&decide (l.length<=16)&& !OH l):=by
 unfold Eb;rw[h];simp
theorem Oj(l:List UInt8):Np l 0=L9 (l.getD 0 0).toNat:=by simp[Np]
theorem dQ{i:Nat}(h:0<i):Np l i=(L9 (l.getD i 0).toNat||Wv (l.getD i 0).toNat):=by simp[Np,h,Bool.or_comm]
def KI(K:Int)(l:List UInt8)(n:Int):Bool:=
 if K=1 then Eb l&&decide (n=0)
 else if K=2 then l.isEmpty
 else if K=3 then l.isEmpty&&decide (Ba n=n)
 else if K=4 then l.isEmpty&&decide (n=0)
 else if K=5 then l.isEmpty&&decide (0<=n)&&decide (n<=999)
 else cA
theorem Uh{K:Int}{n:Int}(h:K<1\/5<K):KI K l n=cA:=by grind [KI]
end Word
end
section
open Word Num
def Er(c:Nat)(b:Bool)(hb:L9 c=b)(w:World):Calls prog 208 #[cI .u8 (c:Int)] w λe w'=>e=.returned (cE b)/\w=w':=by
 have hl:((decide (97<=c)&&decide (c<=122))||(decide (65<=c)&&decide (c<=90))||decide (c=95))=b:=hb;have H:=Wx hl;by_cases h1:97<=c;all_goals by_cases h2:c<=122
 all_goals by_cases h3:65<=c
 all_goals by_cases h4:c<=90
 all_goals first|(exfalso;omega)|skip
 all_goals
  go_enter func208,ntmps208;go_wp2;all_goals go_ret
  all_goals refine⟨EF ?_,rfl⟩
 all_goals rw[<-H.out,Bool.eq_iff_iff]
 all_goals simp
 all_goals omega
def M6(c:Nat)(b:Bool)(hb:Wv c=b)(w:World):Calls prog 210 #[cI .u8 (c:Int)] w λe w'=>e=.returned (cE b)/\w=w':=by
 have hl:(decide (48<=c)&&decide (c<=57))=b:=hb;have H:=Wx hl;by_cases h1:48<=c;all_goals by_cases h2:c<=57
 all_goals first|(exfalso;omega)|skip
 all_goals
  go_enter func210,ntmps210;go_wp2;all_goals go_ret
  all_goals refine⟨EF ?_,rfl⟩
 all_goals rw[<-H.out,Bool.eq_iff_iff]
 all_goals simp
 all_goals omega
def Ry(s:ByteArray)(b:Bool)(hb:OH s.data.toList=b)(w:World):Calls prog 209 #[cS s] w λe w'=>e=.returned (cE b)/\w=w':=by
 have e:=ByteArray.toList_eq s;have hl:(s.toList==[110,117,108,108]||s.toList==[105,110,116]||s.toList==[102,108,111,97,116])=b:=by rw[e];exact hb
 have H:=Wx hl;clear hl hb e;cases h1:(s.toList==[110,117,108,108]);all_goals cases h2:(s.toList==[105,110,116])
 all_goals
  go_enter func209,ntmps209;go_wp2;all_goals go_ret
  all_goals refine⟨EF ?_,rfl⟩
  all_goals rw[<-H.out,h1,h2]
 all_goals rfl
theorem X9(s:ByteArray)(w:World)(h1:1<=s.size)(h2:s.size<=16)(h3:Hid (L9 s[0].toNat=cC))(h4:Hid (OH s.data.toList=cA))(v:Bool)(hv:Eb s.data.toList=v):Calls prog 164 #[cS s] w λe w'=>e=.returned (cE v)/\w=w':=by
 have hne:=Ro (s:=s) h1;have hlen:=Wx (size_data s);have HV:=Wx hv;have hg0:=Wx (Gl (s:=s) (k:=0) h1);go_enter func164,ntmps164;go_wp2_with(first|((with_reducible refine(Er _ _ h3.out _).mono ?_);rintro e w' ⟨rfl,rfl⟩)|((with_reducible refine(Ry _ _ h4.out _).mono ?_);rintro e w' ⟨rfl,rfl⟩))
 go_loop[23] (λi=>∃k:Nat,k<=s.size/\i=cI cJ (k:Int)/\Hid (Gf s.data.toList k=cC)) (λi=>s.size-(intOf i).toNat);exact⟨0,by omega,rfl,rfl⟩;obtain⟨k,hk,rfl,hok⟩:=hrel;by_cases hlt:k<s.size
 ·have hg:=Wx (Gl hlt);have hat:Hid (Np s.data.toList k=(L9 s[k].toNat||Wv s[k].toNat)):=by
   show _=_;by_cases h0:k=0
   ·subst h0;rw[Oj,hg.out,h3.out];rfl
   ·rw[dQ (by omega),hg.out]
  cases hl:L9 s[k].toNat
  ·cases hd:Wv s[k].toNat
   ·have HF:Hid (v=cA):=by
     show _=_;rw[<-HV.out];exact Kg (by rw[hlen.out];exact hlt) (by rw[hat.out,hl,hd];rfl)
    have Hl:=Wx hl;have Hd:=Wx hd;(go_wp2_with(first|((with_reducible refine(Er _ _ Hl.out _).mono ?_);rintro e w' ⟨rfl,rfl⟩)|((with_reducible refine(M6 _ _ Hd.out _).mono ?_);rintro e w' ⟨rfl,rfl⟩)));go_ret;exact⟨EF HF.out.symm,rfl⟩
   ·have hok':Hid (Gf s.data.toList (k+1)=cC):=(by show _=_;rw[Gf,hok.out,hat.out,hl,hd];rfl);have Hl:=Wx hl;have Hd:=Wx hd;(go_wp2_with(first|((with_reducible refine(Er _ _ Hl.out _).mono ?_);rintro e w' ⟨rfl,rfl⟩)|((with_reducible refine(M6 _ _ Hd.out _).mono ?_);rintro e w' ⟨rfl,rfl⟩)));go_round;exact⟨k+1,by omega,by go_num,hok'⟩;simp[intOf];omega
  ·have hok':Hid (Gf s.data.toList (k+1)=cC):=(by show _=_;rw[Gf,hok.out,hat.out,hl];rfl);have Hl:=Wx hl;(go_wp2_with(first|((with_reducible refine(Er _ _ Hl.out _).mono ?_);rintro e w' ⟨rfl,rfl⟩)));go_round;exact⟨k+1,by omega,by go_num,hok'⟩;simp[intOf];omega
 ·obtain rfl:k=s.size:=by omega
  have HT:Hid (v=cC):=by
   show _=_;rw[<-HV.out,Oq (by rw[hlen.out];exact hok.out),hlen.out,h4.out];simp[h1,h2]
  go_wp2;go_ret;exact⟨EF HT.out.symm,rfl⟩
def I8(s:ByteArray)(w:World)(h:s.toList.isEmpty=cC\/s.toList.isEmpty=cA/\(16<s.size\/¬16<s.size/\∃hp:0<s.size,(L9 s[0].toNat=cA\/L9 s[0].toNat=cC/\OH s.data.toList=cC))):Calls prog 164 #[cS s] w λe w'=>e=.returned (cE cA)/\w=w':=by
 rcases h with h|⟨he,h|⟨h,hp,hl|⟨hl,hk⟩⟩⟩
 ·go_enter func164,ntmps164;go_wp2;go_ret;exact⟨rfl,rfl⟩
 ·go_enter func164,ntmps164;go_wp2;go_ret;exact⟨rfl,rfl⟩
 ·have Hl:=Wx hl;go_enter func164,ntmps164;go_wp2_with(first|((with_reducible refine(Er _ _ Hl.out _).mono ?_);rintro e w' ⟨rfl,rfl⟩))
  go_ret;exact⟨rfl,rfl⟩
 ·have Hl:=Wx hl;have Hk:=Wx hk;go_enter func164,ntmps164;go_wp2_with(first|((with_reducible refine(Er _ _ Hl.out _).mono ?_);rintro e w' ⟨rfl,rfl⟩)|((with_reducible refine(Ry _ _ Hk.out _).mono ?_);rintro e w' ⟨rfl,rfl⟩))
  go_ret;exact⟨rfl,rfl⟩
def Rp(s:ByteArray)(v:Bool)(hv:Eb s.data.toList=v)(w:World):Calls prog 164 #[cS s] w λe w'=>e=.returned (cE v)/\w=w':=by
 have hsz:=size_data s;by_cases h1:1<=s.size
 ·have hne:=Ro (s:=s) h1;have hg0:=Gl (s:=s) (k:=0) h1;by_cases h2:s.size<=16
  ·cases h3:L9 s[0].toNat
   ·have:v=cA:=(by rw[<-hv];exact Kg (k:=0) (by omega) (by rw[Oj,hg0];exact h3));subst this;exact I8 s w (.inr ⟨hne,.inr ⟨by omega,h1,.inl h3⟩⟩)
   ·cases h4:OH s.data.toList
    ·exact X9 s w h1 h2 h3 h4 v hv
    ·have:v=cA:=(by rw[<-hv];simp[Eb,h4]);subst this;exact I8 s w (.inr ⟨hne,.inr ⟨by omega,h1,.inr ⟨h3,h4⟩⟩⟩)
  ·have:v=cA:=by
    rw[<-hv];unfold Eb;rw[hsz];simp[h2]
   subst this;exact I8 s w (.inr ⟨hne,.inl (by omega)⟩)
 ·have h0:s.size=0:=by omega
  have:v=cA:=by
   rw[<-hv];unfold Eb;rw[hsz];simp[h0]
  subst this;refine I8 s w (.inl ?_);have:s=ByteArray.empty:=by simpa using h0
  rw[this,ByteArray.toList_eq];rfl
end
section
open Word Num
def kK{s:ByteArray}{k:Nat}(h:k<s.size){c:Nat}(hc:s[k].toNat=c):Np s.data.toList k=((decide (48<=c)&&decide (c<=57)&&decide (0<k))||((decide (97<=c)&&decide (c<=122))||(decide (65<=c)&&decide (c<=90))||decide (c=95))):=by
 unfold Np Wv L9;rw[Gl h,hc]
theorem KZ(s:ByteArray)(v:Bool)(hv:Eb s.data.toList=v)(hsz:s.size<=9223372036854775807)(w:World):Calls prog 239 #[cS s] w λe w'=>e=.returned (cE v)/\w=w':=by
 have hlen:=Wx (size_data s);have HV:=Wx hv;go_enter func239,ntmps239;go_wp2;go_loop[3] (λi=>∃k:Nat,k<=s.size/\i=cI cJ (k:Int)/\Hid (Gf s.data.toList k=cC)) (λi=>s.size-(intOf i).toNat);exact⟨0,by omega,rfl,rfl⟩;obtain⟨k,hk,rfl,hok⟩:=hrel;by_cases hlt:k<s.size
 ·have hcase:(s[k].toNat<48\/(48<=s[k].toNat/\s[k].toNat<=57/\k=0)\/(57<s[k].toNat/\s[k].toNat<65)\/(90<s[k].toNat/\s[k].toNat<95)\/(95<s[k].toNat/\s[k].toNat<97)\/122<s[k].toNat)\/
   ((48<=s[k].toNat/\s[k].toNat<=57/\0<k)\/(65<=s[k].toNat/\s[k].toNat<=90)\/s[k].toNat=95\/(97<=s[k].toNat/\s[k].toNat<=122)):=by omega
  have hat:=kK hlt rfl;rcases hcase with hc|hc
  ·have HF:Hid (v=cA):=by
    show _=_;rw[<-HV.out];refine Kg (by rw[hlen.out];exact hlt) ?_;rw[hat];simp;omega
   clear hat;have Wn:((s[k].toNat:Int) !=95)=cC:=(by rw[bne_iff_ne];omega);rcases hc with hc|⟨h1,h2,rfl⟩|⟨h1,h2⟩|⟨h1,h2⟩|⟨h1,h2⟩|hc;all_goals
    go_wp2;go_ret;exact⟨EF HF.out.symm,rfl⟩
  ·have hok':Hid (Gf s.data.toList (k+1)=cC):=by
    show _=_;rw[Gf,hok.out,hat];simp;omega
   have Wn:((s[k].toNat:Int) !=95)=cC\/((s[k].toNat:Int) !=95)=cA:=(by cases((s[k].toNat:Int) !=95)<;>simp);rcases Wn with Wn|Wn
   ·rcases hc with⟨h1,h2,h3⟩|⟨h1,h2⟩|h1|⟨h1,h2⟩;(all_goals first|(exfalso;rw[bne_iff_ne]at Wn;omega)|skip);all_goals
     go_wp2;go_round;exact⟨k+1,by omega,by go_num,hok'⟩;simp[intOf];omega
   ·have h1:s[k].toNat=95:=(by rw[bne_eq_false_iff_eq]at Wn;omega);have h2:57<s[k].toNat:=(by omega);clear hc h1;go_wp2;go_round;exact⟨k+1,by omega,by go_num,hok'⟩;simp[intOf];omega
 ·obtain rfl:k=s.size:=by omega
  have hk:=ByteArray.toList_eq s;have HT:Hid (v=(decide (1<=s.size)&&decide (s.size<=16)&& !(s.toList==[110,117,108,108]||s.toList==[105,110,116]||s.toList==[102,108,111,97,116]))):=by
   show _=_;rw[<-HV.out,Oq (by rw[hlen.out];exact hok.out),hlen.out,hk];rfl
  clear hk;by_cases h1:1<=s.size;all_goals by_cases h2:s.size<=16
  all_goals first|(exfalso;omega)|skip
  all_goals cases h3:(s.toList==[110,117,108,108])
  all_goals cases h4:(s.toList==[105,110,116])
  all_goals
   go_wp2;(all_goals go_ret);(all_goals refine⟨EF ?_,rfl⟩);all_goals rw[HT.out,h3,h4]
  all_goals by_cases q1:1<=s.size<;>by_cases q2:s.size<=16<;>first|(exfalso;omega)|(simp[q1,q2];done)
end
section
open Word Num Dp
theorem QM(n m:Int)(h:Ba n=m)(w:World):Calls prog 34 #[cI cJ n] w λe w'=>e=.returned (cI cJ m)/\w'=w:=by grind [NG]
def jr(s:ByteArray)(n:Int){v:Bool}(hb2:(!s.toList.isEmpty)=cA)(hv:Hid ((decide (0<=n)&&decide (n<=999))=v))(w:World):Calls prog 216 #[.agg #[cI cJ 5,cS s,cI cJ n]] w λe w'=>e=.returned (cE v)/\AA6 w w':=by
 by_cases h7:0<=n
 ·by_cases h8:n<=999
  ·have:v=cC:=(by rw[<-hv.out];simp[h7,h8]);subst this;go_enter func216,ntmps216;go_wp2;go_quiet (fail);go_wp2;go_ret;exact⟨rfl,by first|exact AJ _ _|exact below_drewN (AJ _ _) _⟩
  ·have:v=cA:=(by rw[<-hv.out];simp[h7,h8]);subst this;go_enter func216,ntmps216;go_wp2;have hd:decide (n<=(999:Int))=cA:=decide_eq_false (by omega);go_quiet (fail);go_wp2;go_ret;exact⟨rfl,by first|exact AJ _ _|exact below_drewN (AJ _ _) _⟩
 ·have:v=cA:=by rw[<-hv.out];simp[h7]
  subst this;go_enter func216,ntmps216;go_wp2;have hd:decide ((0:Int)<=n)=cA:=decide_eq_false (by omega);go_quiet (fail);go_wp2;go_ret;exact⟨rfl,by first|exact AJ _ _|exact below_drewN (AJ _ _) _⟩
def ND(K:Int)(s:ByteArray)(hs:Hid (s.size<=9223372036854775807))(n:Int)(v:Bool)(hv:KI K s.data.toList n=v)(w:World):Calls prog 216 #[.agg #[cI cJ K,cS s,cI cJ n]] w λe w'=>e=.returned (cE v)/\AA6 w w':=by
 have hem:s.data.toList.isEmpty=s.toList.isEmpty:=by rw[ByteArray.toList_eq]
 by_cases h1:K=1
 ·subst h1;have hv':Hid ((Eb s.data.toList&&decide (n=0))=v):=hv;cases hb:Eb s.data.toList;all_goals
   have Hb:=Wx hb;go_enter func216,ntmps216;(go_wp2_with((with_reducible refine(KZ _ _ Hb.out hs.out _).mono ?_);rintro e w' ⟨rfl,rfl⟩));go_ret;refine⟨EF ?_,AJ _ _⟩;rw[<-hv'.out,Hb.out,Bool.eq_iff_iff];simp
 ·have e1:(K==1)=cA:=by simpa using h1
  by_cases hout:K<1\/5<K
  ·have:v=cA:=(by rw[<-hv,Uh hout]);subst this;rcases hout with hout|hout
   ·go_enter func216,ntmps216;go_wp2;(try(go_quiet (fail);go_wp2));go_ret;exact⟨rfl,by first|exact AJ _ _|exact below_drewN (AJ _ _) _⟩
   ·have h2:¬K<1:=(by omega);go_enter func216,ntmps216;go_wp2;(try(go_quiet (fail);go_wp2));go_ret;exact⟨rfl,by first|exact AJ _ _|exact below_drewN (AJ _ _) _⟩
  ·have hK:K=2\/K=3\/K=4\/K=5:=(by omega);have hv':Hid ((s.toList.isEmpty&& (if K=2 then cC else if K=3 then decide (Ba n=n)else if K=4 then decide (n=0)else(decide (0<=n)&&decide (n<=999))))=v):=by
    show _=_;rw[<-hv,<-hem];rcases hK with rfl|rfl|rfl|rfl<;>simp[KI,Bool.and_assoc]
   cases hb:s.toList.isEmpty
   ·have:v=cA:=(by rw[<-hv'.out,hb];rfl);subst this;rcases hK with rfl|rfl|rfl|rfl;all_goals
     go_enter func216,ntmps216;go_wp2;(try(go_quiet (fail);go_wp2));go_ret;exact⟨rfl,by first|exact AJ _ _|exact below_drewN (AJ _ _) _⟩
   ·have ZK:Hid ((if K=2 then cC else if K=3 then decide (Ba n=n)else if K=4 then decide (n=0)else(decide (0<=n)&&decide (n<=999)))=v):=by
     show _=_;rw[<-hv'.out,hb];simp
    have hb2:(!s.toList.isEmpty)=cA:=(by rw[hb];rfl);rcases hK with rfl|rfl|rfl|rfl
    ·have:v=cC:=(by rw[<-ZK.out];rfl);subst this;go_enter func216,ntmps216;go_wp2;go_quiet (fail);go_wp2;go_ret;exact⟨rfl,by first|exact AJ _ _|exact below_drewN (AJ _ _) _⟩
    ·have hp:Ba n=Ba n:=rfl;revert hp;generalize hm:Ba n=m at ZK;intro _;have Hm:=Wx hm;have h7:(m==n)=v:=(by rw[<-ZK.out];simp[Bool.beq_eq_decide_eq]);cases v;all_goals
      go_enter func216,ntmps216;go_wp2;go_quiet ((go_at_call 34;exact Calls.quiet_of_same (QM _ _ Hm.out _)));go_wp2;go_ret;exact⟨rfl,by first|exact AJ _ _|exact below_drewN (AJ _ _) _⟩
    ·have h7:(n==0)=v:=(by rw[<-ZK.out];simp[Bool.beq_eq_decide_eq]);cases v;all_goals
      go_enter func216,ntmps216;go_wp2;go_quiet (fail);go_wp2;go_ret;exact⟨rfl,by first|exact AJ _ _|exact below_drewN (AJ _ _) _⟩
    ·exact jr s n hb2 ZK w
end
section
open Word Num Dp
def jT(n:Nat)(e:Ending):Prop:=∃t:ByteArray,e=.returned (cS t)/\t.size<=n
theorem Vq(h:l.length<=n):jT n (.returned (cS ⟨l.toArray⟩)):=⟨_,rfl,by show l.toArray.size<=n;simpa using h⟩
theorem KL{n:Int}(hn:Bo n)(w:World):Calls prog 172 #[cI cJ n] w λe w'=>jT 20 e/\AA6 w w':=by
 refine(Kc n hn w).mono ?_;grind [Kc,Vq,NU]
theorem MZ{x:Ag}(hs:Sz x.s)(hn:Bo x.n)(w:World):Calls prog 173 #[.agg #[cI cJ x.k,cS x.s,cI cJ x.n]] w λe w'=>jT (x.s.size+32) e/\AA6 w w':=by
 obtain⟨K,s,n⟩:=x;replace hs:Sz s:=hs;replace hn:Bo n:=hn;have hB:=Ae.alloc w [cI cJ K,cS s,cI cJ n] 77;have hb:=AJ w (.cells #[cI cJ K,cS s,cI cJ n] 77);have hr:=λw=>ND K s (Wx (by unfold Sz at hs;omega)) n _ rfl w;generalize KI K s.data.toList n=v at hr;have hn:=Wx hn;go_enter func173,ntmps173;go_wp2_with fail;refine(hr _).mono ?_;rintro e w1 ⟨rfl,h0⟩;have hB1:=hB.nx h0;obtain⟨c0,c1,c2⟩:=hB1.c3;replace hb:=AB hb h0;cases v
 ·go_wp2;go_ret;exact⟨⟨_,rfl,AY⟩,hb⟩
 by_cases e1:K=1
 ·subst e1;go_wp2;go_ret;exact⟨⟨_,rfl,Nat.le_add_right _ _⟩,hb⟩
 have e1:(K==1)=cA:=by simp[e1]
 by_cases e2:K=2
 ·subst e2;go_wp2_with fail;refine(KL hn.out _).mono ?_;rintro e w2 ⟨⟨t,rfl,ht⟩,h2⟩;go_wp2;go_ret;exact⟨⟨_,rfl,by show t.size<=s.size+32;omega⟩,AB hb h2⟩
 have e2:(K==2)=cA:=by simp[e2]
 by_cases e3:K=3
 ·subst e3;go_wp2_with fail;refine(Rf _ _).mono ?_;rintro e w2 ⟨rfl,h2⟩;go_wp2;go_ret;exact⟨Vq (by rw[NV];omega),AB hb h2⟩
 have e3:(K==3)=cA:=by simp[e3]
 by_cases e4:K=4
 ·subst e4;go_wp2;go_ret;exact⟨⟨_,rfl,by show 4<=s.size+32;omega⟩,hb⟩
 have e4:(K==4)=cA:=by simp[e4]
 go_wp2_with fail;refine(KL hn.out _).mono ?_;rintro e w2 ⟨⟨t,rfl,ht⟩,h2⟩;have htI:(t.size:Int)<=20:=by omega
 go_wp2;go_ret;have h35:(⟨#[35]⟩:ByteArray).size=1:=rfl;exact⟨⟨_,rfl,by rw[ByteArray.size_append,h35];show 1+t.size<=s.size+32;omega⟩,AB hb h2⟩
def Ce(w:World)(B:Nat)(v:Value)(n:Nat):Prop:=∃l:List ByteArray,w.ownsRow B 9 1 v l.length (l.map .string)/\lens l<=n
theorem Ru(a b:List ByteArray):lens (a++b)=lens a+lens b:=D5 _ a b
section
variable {w w1 : World} {B n : Nat} {v : Value}
theorem Ce.sl(h:Ce w B v n):∃p m c,v=cY p m c:=by grind [Ce,Bf]
theorem Ce.up{k:Nat}(h:Ce w B v n)(hk:n<=k):Ce w B v k:=by grind [Ce]
theorem Ce.nx(h:Ce w B v n)(hb:AA6 w w1):Ce w1 B v n:=by grind [Ce,Dh]
theorem Ce.ws(h:Ce w B v n):∃l,Ws w v l/\lens l<=n:=by grind [Ce,Ws,lens]
def Ce.nil:Ce w B (cY cX 0 0) 0:=⟨[],World.ownsRow_nil _ _ _ _,AQ⟩
theorem Ce.new(w:World)(hB:B<=w.heap.size)(l:List ByteArray)(hl:l.length<=maxLen):Ce (w.alloc (Obj.cells (l.map Value.string).toArray 9)) B (cY (cP ⟨w.heap.size,0,cX⟩) l.length l.length) (lens l):=by
 refine⟨l,?_,AQ⟩;have:=World.ownsRow_lit (base:=B) (e:=9) (size:=1) w (l.map Value.string).toArray l.length hB hl (by simp);simpa using this
theorem Mc{K:Act->World->Prop}{Q:Exit->Act->World->Prop}(s x:Operand)(ho:o.op=.call {callee:=.builtin .append,args:=#[s,x],argTypes:=#[78,78]}) (hs:a.eval s=v) (hv:Ce w B v n) (new:List ByteArray) (pb:Nat)(hx:a.eval x=cY (cP ⟨pb,0,cX⟩) new.length new.length) (hb:Ae w pb (new.map Value.string)) (hn:n+lens new<=100000000) (hB:B<=w.heap.size)(h:∀v' w',Ce w' B v' (n+lens new)->Kp 9 B w w'->K (a.put o.dst v') w'):o.wp prog a w K Q:=by
 obtain⟨i0,hi,hz0,hz1,hz2⟩:=Cq (P:=prog) (t:=9) (z:=cS .empty) (s:=1) (b:=16) (by kernel_rfl);obtain⟨l,h1,h2⟩:=hv;have l1:=Iu l;have l2:=Iu new;refine wp_append_own' s x 78 ho B 9 i0 _ 1 16 underlying78 hi hz0 hz1 hz2 rfl (by decide) v _ _ hs h1 ⟨pb,0,cX⟩ _ _ (new.map Value.string) hx (by simp) (λj u hu=>by rw[Dk,Nat.zero_add];exact hb.c j u hu) (λu hu=>by obtain⟨s,_,rfl⟩:=List.mem_map.1 hu;rfl) (by unfold maxLen;omega) (by omega) hB λv' w' k1 k2 _=>h v' w' ⟨l++new,by rw[List.length_append,List.map_append];exact k1,by rw[Ru];omega⟩ (.grown h1 k2 hB)
def Fh{rest:List Oper}{Q:Exit->Act->World->Prop}(hgd:o.guard=cX)(s x:Operand)(ho:o.op=.call {callee:=.builtin .append,args:=#[s,x],argTypes:=#[78,78]}) (hs:a.eval s=v) (hv:Ce w B v n) (new:List ByteArray) (pb:Nat)(hx:a.eval x=cY (cP ⟨pb,0,cX⟩) new.length new.length) (hb:Ae w pb (new.map Value.string)) (hn:n+lens new<=100000000) (hB:B<=w.heap.size)(h:∀v' w',Ce w' B v' (n+lens new)->Kp 9 B w w'->wpList prog ops Q rest (a.put o.dst v') w'):wpList prog ops Q (o::rest) a w:=
 wpList_plain hgd λ_ hK=>Mc s x ho hs hv new pb hx hb hn hB λv' w' h2 h3=>hK _ _ (h v' w' h2 h3)
end
def En(l:List Ag):Nat:=Aj (λa=>a.s.size+33) l
theorem Ow(h0:AA6 w0 w){l:List Ag}(hv:Ce w B v n)(hl:Row Lg 3 w0 u l)(hr:∀a∈l,Bo a.n)(hB:B<=w.heap.size)(hB0:w0.heap.size<=B)(hn:n+En l<=100000000):Calls prog 218 #[v,u] w λe w'=>∃v',e=.returned v'/\Ce w' B v' (n+En l)/\Kp 9 B w w':=by
 obtain⟨p,c,rfl,-,hl2,hl⟩:=hl;obtain⟨p0,m0,c0,rfl⟩:=hv.sl;go_enter func218,ntmps218;go_wp2;go_loopw[0,5] (λv i wr=>∃(q:Nat),q<=l.length/\i=cI cJ (q:Int)/\Ce wr B v (n+En (l.take q))/\Kp 9 B w wr) (λ_ i _=>l.length-(intOf i).toNat);exact⟨0,AY,rfl,hv,.refl⟩;obtain⟨q,hq,rfl,hv,hk⟩:=hrel;obtain⟨p0,m0,c0,rfl⟩:=hv.sl;have hBr:B<=wr.heap.size:=AX hB hk.b.size;by_cases hend:q=l.length
 ·subst hend;rw[List.take_length]at hv;go_wp2;go_ret;exact⟨_,rfl,hv,hk⟩
 ·have hlt:q<l.length:=by omega
  have A8:(q:Int)<l.length:=by omega
  obtain⟨a,rfl,g0,⟨g1,hz⟩,g2⟩:=hl q l[q] (by simp[hlt]);have hw:=h0.trans (hk.b.mono hB0);have g0:=AA hw g0;have g1:=AA hw g1;have g2:=AA hw g2;have hs:=BD (λa:Ag=>a.s.size+33) hlt;change En (l.take (q+1))=En (l.take q)+(l[q].s.size+33)at hs;have hall:En (l.take (q+1))<=En l:=by
   have:=D5 (λa:Ag=>a.s.size+33) (l.take (q+1)) (l.drop (q+1));rw[List.take_append_drop]at this;unfold En;omega
  have hA:=λw=>MZ hz (hr l[q] (List.getElem_mem hlt)) w;generalize l[q]=x at*;go_wp2_with fail;refine(hA _).mono ?_;rintro e w1 ⟨⟨t,rfl,ht⟩,hb1⟩;have hv1:=(hv.nx hb1).nx (AJ w1 (.cells #[cS t] 9));go_wp2_with(at_builtin;refine Fh rfl _ _ rfl rfl hv1 [t] _ rfl (Ae.alloc _ _ _) (by simp[lens,Aj];omega) (by simp;have:=hb1.size;omega) ?_;intro v' w3 hv3 hk3;obtain⟨p3,m3,c3,rfl⟩:=hv3.sl)
  go_roundw;exact⟨q+1,by omega,by go_num,hv3.up (by simp[lens,Aj];omega),((hk.nx hB hb1).nx hB (AJ _ _)).trans hk3⟩;simp[intOf];omega
end
section
def marks(md:Region.Mode)(ops:Array Oper)(i:Nat)(l:List Nat):List Nat:=l.foldl (λacc m=>if acc.any (λx=>waits md ops m x)then m::acc else acc) [i]
theorem Rq{L:Nat->Bool}(h:Right md ops L):∀(l acc:List Nat),(∀x∈acc,L x=cA)->∀x∈l.foldl (λacc m=>if acc.any (λx=>waits md ops m x)then m::acc else acc) acc,L x=cA
 | [],_,ha=>ha
 |m::r,acc,ha=>by
  rw[List.foldl_cons];refine Rq h r _ λx hx=>?_;split at hx
  ·rename_i hm
   rcases List.mem_cons.1 hx with rfl|hx
   ·obtain⟨y,hy,hw⟩:=List.any_eq_true.1 hm;exact h _ _ hw (ha y hy)
   ·exact ha x hx
  ·exact ha x hx
theorem Right.far{L:Nat->Bool}(h:Right md ops L){i j:Nat}(hm:(marks md ops i (List.range (j+1))).contains j=cC)(hi:L i=cA):L j=cA:=by grind [Right,marks,Rq]
theorem Zf.f{S:(Nat->Value)->(Nat->Bool)->World->Prop}{j:Nat}{V:Nat->Value}{L:Nat->Bool}(z:Zf md ops S j V L w)(k:Nat)(h:(marks md ops j (List.range (k+1))).contains k=cC:=by kernel_rfl):L k=cA:=Right.far z.r h z.i
abbrev Rs:=Nat->Option (Nat×(Value->World->Prop))
def GC(K:World->Prop)(R:Rs)(cl:Nat)(Y:Value->World->Prop)(V:Nat->Value)(L:Nat->Bool)(w:World):Prop:=
 (L cl=cA->K w/\∀i c X,R i=cP (c,X)->L i=cC->L c=cA->X (V i) w)/\(L cl=cC->Y (V cl) w)
def xK(R:Rs)(i:Nat)(V:Nat->Value)(L:Nat->Bool)(w w2:World):Prop:=∀j c X,R j=cP (c,X)->j≠i->c≠i->L j=cC->L c=cA->X (V j) w->X (V j) w2
def R1(i c:Nat)(X:Value->World->Prop):Rs:=λk=>if k=i then cP (c,X)else cX
def R2(i c:Nat)(X:Value->World->Prop)(R:Rs):Rs:=λk=>if k=i then cP (c,X)else R k
section
variable {K : World -> Prop} {w w2 : World} {R : Rs} {cl i c : Nat} {X Y : Value -> World -> Prop} {V : Nat -> Value} {L : Nat -> Bool}
theorem Cv{k:Nat}(h:i≠k->c≠k->L i=cC->L c=cA->X (V i) w->X (V i) w2):xK (R1 i c X) k V L w w2:=by grind [xK,R1]
theorem CO{k:Nat}(h:i≠k->c≠k->L i=cC->L c=cA->X (V i) w->X (V i) w2)(hr:xK R k V L w w2):xK (R2 i c X R) k V L w w2:=by grind [xK,R2]
theorem GC.start(h:K w):GC K R cl Y V (λ_=>cA) w:=by grind [GC]
theorem GC.keep(h:GC K R cl Y V L w)(hR:R i=cX)(h1:(cl==i)=cA):GC K R cl Y V (upd L i) w:=by
 unfold GC;rw[Dm h1];refine⟨λhc=>⟨(h.1 hc).1,λj d X hj hl hd=>(h.1 hc).2 j d X hj ?_ ?_⟩,h.2⟩
 ·rw[Dm (by rw[beq_eq_false_iff_ne];intro e;subst e;rw[hj]at hR;cases hR)]at hl;exact hl
 ·unfold upd at hd;rw[Bool.or_eq_false_iff]at hd;exact hd.2
theorem GC.k(h:GC K R cl Y V L w)(hc:L cl=cA):K w:=(h.1 hc).1
def GC.val(h:GC K R cl Y V L w)(hc:L cl=cA)(hR:R i=cP (c,X))(hi:L i=cC)(hd:L c=cA):X (V i) w:=(h.1 hc).2 i c X hR hi hd
theorem GC.made(h:GC K R cl Y V L w)(hs:xK R i V L w w2)(hk:K w2)(hc:L cl=cA)(hR:R i=cP (c,X))(hx:X v w2)(h1:(cl==i)=cA):GC K R cl Y (EB V i v) (upd L i) w2:=by grind [GC,xK,EB,upd,Dm,BL,Gq,Br]
theorem GC.call(hy:Y v w2):GC K R cl Y (EB V cl v) (upd L cl) w2:=by simp_all[GC,EB,upd]
def GC.done(h:GC K R cl Y V L w)(hc:L cl=cC):Y (V cl) w:=h.2 hc
end
def XW(l:List ByteArray)(v:Value)(w:World):Prop:=∃pb,v=cY (cP ⟨pb,0,cX⟩) l.length l.length/\Ws w v l
def XW.new(w:World)(l:List ByteArray)(hl:l.length<=maxLen):XW l (cY (cP ⟨w.heap.size,0,cX⟩) l.length l.length) (w.alloc (Obj.cells (l.map Value.string).toArray 9)):=⟨_,rfl,Ws.new w l hl⟩
theorem Yk{l:List Vr}(h:q<l.length):CY (l.take (q+1))=CY (l.take q)+(1+l[q].n.size+l[q].t.size):=by grind [CY,BD,cases Vr]
theorem mM(l:List Vr)(q:Nat):CY (l.take q)<=CY l:=by
 have:=D5 (λv:Vr=>v.n.size+v.t.size) (l.take q) (l.drop q);rw[List.take_append_drop]at this;unfold CY;grind
theorem I9(h0:AA6 w0 w){l:List Vr}{s:ByteArray}(hs:s.size<=10)(hv:BU w B v n)(hl:Row IU 2 w0 u l)(hB:B<=w.heap.size)(hB0:w0.heap.size<=B)(hn:n+100*CY l<=100000000):Calls prog 171 #[v,cS s,u] w λe w'=>∃v',e=.returned v'/\BU w' B v' (n+100*CY l)/\Kp 5 B w w':=by
 obtain⟨p,c,rfl,-,hl2,hl⟩:=hl;obtain⟨p0,m0,c0,rfl⟩:=hv.sl;go_enter func171,ntmps171;go_wp2;go_loopw[0,7] (λv i wr=>∃(q:Nat),q<=l.length/\i=cI cJ (q:Int)/\BU wr B v (n+100*CY (l.take q))/\Kp 5 B w wr) (λ_ i _=>l.length-(intOf i).toNat);exact⟨0,AY,rfl,hv,.refl⟩;obtain⟨q,hq,rfl,hv,hk⟩:=hrel;obtain⟨p0,m0,c0,rfl⟩:=hv.sl;have hBr:B<=wr.heap.size:=AX hB hk.b.size;by_cases hend:q=l.length
 ·subst hend;rw[List.take_length]at hv;go_wp2;go_ret;exact⟨_,rfl,hv,hk⟩
 ·have hlt:q<l.length:=by omega
  have A8:(q:Int)<l.length:=by omega
  obtain⟨a,rfl,⟨g0,z0⟩,g1,z1⟩:=hl q l[q] (by simp[hlt]);have hw:=h0.trans (hk.b.mono hB0);replace g0:=AA hw g0;replace g1:=AA hw g1;have hs1:=Yk hlt;have hs2:=mM l (q+1);generalize l[q]=x at*;have hbd:=(Below.refl wr.heap.size wr).drew;go_wp2;refine ALR (S:=GC (λv=>AA6 wr v) (R1 12 13 (XW [s,x.n,x.t])) 13 (λv' w'=>∃p m c,v'=cY p m c/\BU w' B v' (n+100*CY (l.take (q+1)))/\Kp 5 B wr w')) (GC.start hbd) ?_;iterate 12((refine AU.f (λz=>z.s.keep rfl rfl) (λz=>have hI:=z.s.k (z.f 13);ALS (AA hI g0) (AA hI g1)) ?_))
  refine AU.free (λ_=>rfl) (λV L w1 K' Q' hS hi hR hd hK=>?_) ?_
  ·have hc:=hR.out.far (j:=13) (by kernel_rfl) hi;go_simp;(try simp only[pE]);exact hK.out _ _ rfl (hS.made (Cv λh=>absurd rfl h) ((hS.k hc).alloc (hS.k hc).size _) hc rfl (XW.new w1 [s,x.n,x.t] (show 3<=maxLen by decide)) rfl)
  (try simp only[pE]);refine AU.free (λ_=>rfl) (λV L w1 K' Q' hS hi hR hd hK=>?_) ?_
  ·obtain⟨pb,hp,hx⟩:=hS.val hi rfl (hd.out 12 (by kernel_rfl)) hi;have hI:=hS.k hi;rw[hp]at hx;simp only[hp];go_simp;(go_wp2_with(refine(Cx (hv.nx hI) hx (AX hBr hI.size) (by simp[lens,Aj];omega)).mono ?_;rintro e w2 ⟨v',rfl,hv',hk'⟩));obtain⟨p3,m3,c3,rfl⟩:=hv'.sl;exact hK.out _ _ (by simp only[hp];rfl) (GC.call ⟨_,_,_,rfl,hv'.up (by simp[lens,Aj];omega),(Kp.of hI hBr).trans hk'⟩)
  (try simp only[pE]);((refine AU.step (a1:=?_) (λ_=>rfl) (λV L w1 K' Q' hS hi hR hd hK=>?_) ?_ ?_ ?_;rotate_left);(· (go_simp;(try simp only[pE]);exact hK.out _ (hS.keep rfl rfl)));(· (intro V;rfl));(· (exact λL V V' Kt hl hv=>hv (13) (Classical.byContradiction λh=>by have:=Kt (14) (13) (by kernel_rfl) (by simpa using h);rw[hl]at this;cases this))));refine AU.nil λV w3 hS=>?_;obtain⟨p3,m3,c3,GX,hv3,hk3⟩:=hS.done rfl;rw[GX]at hv3;simp only[GX];go_wp2;go_roundw;exact⟨q+1,by omega,by go_num,hv3,hk.trans hk3⟩;simp[intOf];omega
end
section
section
variable {w : World} {B n : Nat} {v : Value}
theorem Tt{rest:List Oper}{Q:Exit->Act->World->Prop}(hgd:o.guard=cX)(s x:Operand)(ho:o.op=.call {callee:=.builtin .append,args:=#[s,x],argTypes:=#[78,78]}) (hs:a.eval s=v) (hv:Ce w B v n)  {l:List ByteArray} (hx:a.eval x=u) (hl:Row DL 1 w u l)(hn:n+lens l<=100000000) (hB:B<=w.heap.size) (h:∀v' w',Ce w' B v' (n+lens l)->Kp 9 B w w'->wpList prog ops Q rest (a.put o.dst v') w'):wpList prog ops Q (o::rest) a w:=by
 obtain⟨i0,hi,hz0,hz1,hz2⟩:=Cq (P:=prog) (t:=9) (z:=cS .empty) (s:=1) (b:=16) (by kernel_rfl);obtain⟨p,c,rfl,h0,-,hl⟩:=hl;obtain⟨m,h1,h2⟩:=id hv
 cases p with
 |none=>
  obtain⟨e1,rfl⟩:=h0 rfl;obtain rfl:l=[]:=List.length_eq_zero_iff.1 e1
  exact wpList_append_own_none hgd s x 78 ho B 9 i0 1 underlying78 hi v _ _ hs h1 hx (h _ _ hv .refl)
 |some ad=>
  have l1:=Iu m;have l2:=Iu l;refine wpList_plain hgd λ_ hK=>?_;refine wp_append_own' s x 78 ho B 9 i0 _ 1 16 underlying78 hi hz0 hz1 hz2 rfl (by decide) v _ _ hs h1 ad _ _ (l.map Value.string) hx (by simp) (λj u hu=>?_) (λu hu=>by obtain⟨s,_,rfl⟩:=List.mem_map.1 hu;rfl) (by unfold maxLen;omega) (by omega) hB λv' w' k1 k2 _=>hK _ _ (h v' w' ⟨m++l,by rw[List.length_append,List.map_append];exact k1,by rw[Ru];omega⟩ (.grown h1 k2 hB));rw[List.getElem?_map]at hu
  cases hj:l[j]? with
  |none=>rw[hj]at hu;cases hu
  |some y=>
   rw[hj]at hu;obtain rfl:cS y=u:=(by simpa using hu);obtain⟨b,e,hb,-⟩:=hl j y hj;obtain rfl:ad=b:=(by simpa using e);rw[Nat.mul_one]at hb;exact hb
end
structure Ni(w:World)(p:Nat)(cs:List Value)(T:TypeId):Prop where
 b:Ae w p cs
 t:TG w p T
section
variable {w w1 : World} {p : Nat} {cs : List Value} {T e : TypeId} {B : Nat}
def Ni.new(w:World)(cs:List Value)(T:TypeId):Ni (w.alloc (.cells cs.toArray T)) w.heap.size cs T:=⟨Ae.alloc w cs T,TG.new w _ T⟩
theorem TG.lt'(h:TG w p T):p<w.heap.size:=by grind [TG]
theorem Ni.nx(h:Ni w p cs T)(hb:AA6 w w1):Ni w1 p cs T:=⟨h.b.same (hb.block p h.t.lt'),h.t.al hb⟩
def Ni.al(h:Ni w p cs T)(o:Obj):Ni (w.alloc o) p cs T:=h.nx (AJ _ o)
theorem Ni.kp(h:Ni w p cs T)(hk:Kp e B w w1)(hne:T≠e):Ni w1 p cs T:=⟨h.b.same (hk.typ h.t hne),h.t.kp hk hne⟩
end
structure zD(w:World)(v:Value)(x:Tm)(u:Value):Prop where
 e:v=.agg #[cI cJ x.k,cI cJ x.a.k,cS x.a.s,cI cJ x.a.n,u,cI cJ x.n]
 z:Sz x.a.s
 r:Bo x.a.n/\Bo x.n
 t:Row DL 1 w u x.to
theorem Aw(t:ByteArray):lens [t]=t.size+1:=by simp[lens,Aj]
theorem kW(l:List ByteArray):lens l=Aj F6 l:=by
 induction l with
 |nil=>rfl
 |cons x r ih=>
  unfold lens at ih⊢;simp only[Aj,ih,F6];omega
theorem YG(h0:AA6 w0 w){vt:Value}{x:Tm}(hv:BU w B v n)(hx:zD w0 vt x u)(hB:B<=w.heap.size)(hB0:w0.heap.size<=B)(hn:n+80+x.a.s.size+Aj F6 x.to<=100000000):Calls prog 175 #[v,vt] w λe w'=>∃v',e=.returned v'/\BU w' B v' (n+80+x.a.s.size+Aj F6 x.to)/\Kp 5 B w w':=by
 obtain⟨rfl,hz,⟨hr1,hr2⟩,ht⟩:=hx;obtain⟨p0,m0,c0,rfl⟩:=hv.sl;have htr:=ht;obtain⟨pt,ct,rfl,-⟩:=ht;rw[<-kW]at hn⊢;obtain⟨k,ag,tl,nn⟩:=x;dsimp only at*;have hT:=Ni.new w [cI cJ k,cI cJ ag.k,cS ag.s,cI cJ ag.n,cY pt tl.length ct,cI cJ nn] 80;have hb1:=AJ w (.cells #[cI cJ k,cI cJ ag.k,cS ag.s,cI cJ ag.n,cY pt tl.length ct,cI cJ nn] 80);have hb2:=hb1.alloc hb1.size (.cells #[cS ⟨#[]⟩,cS ⟨#[106,117,109,112]⟩,cS ⟨#[98,114,97,110,99,104]⟩,cS ⟨#[114,101,116]⟩,cS ⟨#[116,114,97,112]⟩] 9);have vM:=hT.al (.cells #[cS ⟨#[]⟩,cS ⟨#[106,117,109,112]⟩,cS ⟨#[98,114,97,110,99,104]⟩,cS ⟨#[114,101,116]⟩,cS ⟨#[116,114,97,112]⟩] 9);by_cases hk0:¬(1<=k/\k<=4)
 ·have c1:=vM.b.c 0 _ rfl;by_cases hk1:k<1
  ·go_enter func175,ntmps175;go_wp2;go_ret;exact⟨_,rfl,(hv.nx hb2).up (by omega),Kp.of hb2 hB⟩
  ·have hk4:4<k:=(by omega);go_enter func175,ntmps175;go_wp2;go_ret;exact⟨_,rfl,(hv.nx hb2).up (by omega),Kp.of hb2 hB⟩
 obtain⟨q,rfl⟩:=Int.eq_ofNat_of_zero_le (show 0<=k by omega);have hq1:1<=q:=by omega
 have hq4:q<=4:=by omega
 have hq5:(q:Int)<5:=by omega
 have AJN:¬(4:Int)<q:=by omega
 have hq11:¬(q:Int)<1:=by omega
 have AJM:¬4<q:=by omega
 have hP:=λw=>MZ hz hr1 w;have hQ:=λw=>KL hr2 w;obtain⟨wd,hwd,hcw⟩:∃wd:ByteArray,wd.size<=6/\((w.alloc (.cells #[cI cJ (q:Int),cI cJ ag.k,cS ag.s,cI cJ ag.n,cY pt tl.length ct,cI cJ nn] 80)).alloc (.cells #[cS ⟨#[]⟩,cS ⟨#[106,117,109,112]⟩,cS ⟨#[98,114,97,110,99,104]⟩,cS ⟨#[114,101,116]⟩,cS ⟨#[116,114,97,112]⟩] 9)).cell? ⟨w.heap.size+1,q,cX⟩=cP (cS wd):=by
  have ZC:=Ae.alloc (w.alloc (.cells #[cI cJ (q:Int),cI cJ ag.k,cS ag.s,cI cJ ag.n,cY pt tl.length ct,cI cJ nn] 80)) [cS ⟨#[]⟩,cS ⟨#[106,117,109,112]⟩,cS ⟨#[98,114,97,110,99,104]⟩,cS ⟨#[114,101,116]⟩,cS ⟨#[116,114,97,112]⟩] 9;have hs1:(w.alloc (.cells #[cI cJ (q:Int),cI cJ ag.k,cS ag.s,cI cJ ag.n,cY pt tl.length ct,cI cJ nn] 80)).heap.size=w.heap.size+1:=by simp
  rw[hs1]at ZC;have:q=1\/q=2\/q=3\/q=4:=by omega
  rcases this with rfl|rfl|rfl|rfl
  ·exact⟨_,by decide,ZC.c 1 _ rfl⟩
  ·exact⟨_,by decide,ZC.c 2 _ rfl⟩
  ·exact⟨_,by decide,ZC.c 3 _ rfl⟩
  ·exact⟨_,by decide,ZC.c 4 _ rfl⟩
 have hb3:=hb2.alloc hb2.size (.cells #[cS wd] 9);have hT3:=vM.al (.cells #[cS wd] 9);have hS:=Ce.new (B:=w.heap.size) _ hb2.size [wd] (show 1<=maxLen by decide);simp only[List.map_cons,List.map_nil,List.length_cons,List.length_nil,Nat.zero_add]at hS;have t0:=vM.b.c 0 _ rfl;go_enter func175,ntmps175;go_upto_region 5 with fail;generalize hW:(World.alloc (World.alloc (World.alloc _ _) _) _)=W at*;have hz3:((w.alloc (.cells #[cI cJ (q:Int),cI cJ ag.k,cS ag.s,cI cJ ag.n,cY pt tl.length ct,cI cJ nn] 80)).alloc (.cells #[cS ⟨#[]⟩,cS ⟨#[106,117,109,112]⟩,cS ⟨#[98,114,97,110,99,104]⟩,cS ⟨#[114,101,116]⟩,cS ⟨#[116,114,97,112]⟩] 9)).heap.size=w.heap.size+1+1:=by simp
 rw[hz3]at hS;have hBW:B<=W.heap.size:=AX hB hb3.size;have htW:=htr.s (AB h0 hb3);have uy:=hv.nx hb3;have Cr:w.heap.size<=W.heap.size:=hb3.size;obtain⟨t0,t1,t2,t3,t4,t5⟩:=hT3.b.c6;have tail:∀W1,Kp 9 w.heap.size W W1->Ae W1 w.heap.size [cI cJ (q:Int),cI cJ ag.k,cS ag.s,cI cJ ag.n,cY pt tl.length ct,cI cJ nn]/\BU W1 B (cY p0 m0 c0) n/\Row DL 1 W1 (cY pt tl.length ct) tl/\w.heap.size<=W1.heap.size/\AA6 w W1:=λW1 h1=>by
  obtain⟨bs,h2,h3⟩:=uy;have hb:=hb3.trans h1.b;exact⟨(hT3.kp h1 (by decide)).b,⟨bs,h2,h1.row h3 (by decide)⟩,htr.s (AB h0 hb),hb.size,hb⟩
 have hq:q=1\/(q=2\/q=3)\/q=4:=by omega
 rcases hq with rfl|h23|rfl
 ·go_wp2_with(at_builtin;refine Tt rfl _ _ rfl rfl hS rfl htW (by rw[Aw];omega) Cr ?_;intro v' w3 hv3 hk3;obtain⟨p3,m3,c3,rfl⟩:=hv3.sl;obtain⟨hB3,hv4,-,hw3,hb4⟩:=tail _ hk3;have t0:=hB3.c 0 _ rfl)
  obtain⟨lw,Sy,hll⟩:=hv3.ws;rw[Aw]at hll;refine(Cx hv4 Sy (AX hB hw3) (by omega)).mono ?_;rintro e w4 ⟨v4,rfl,hv4,hk4⟩;obtain⟨p5,m5,c5,rfl⟩:=hv4.sl;go_wp2;go_ret;exact⟨_,rfl,hv4.up (by omega),(Kp.of hb4 hB).trans hk4⟩
 ·have hp:=hP W;rcases h23 with rfl|rfl;all_goals
   go_wp2_with fail;refine hp.mono ?_;rintro e W1 ⟨⟨t,rfl,ht⟩,hb4⟩;have hS1:=(hS.nx hb4).nx (AJ W1 (.cells #[cS t] 9));have hk1:=Kp.of (e:=9) (AB hb4 (AJ W1 (.cells #[cS t] 9))) Cr
   go_wp2_with first
    |(at_builtin;refine Fh rfl _ _ rfl rfl hS1 [t] _ rfl (Ae.alloc _ _ _) (by rw[Aw,Aw];omega) (by simp;have:=hb4.size;omega) ?_;intro v' w2 hv2 hk2;obtain⟨p2,m2,c2,rfl⟩:=hv2.sl;obtain⟨hB2,-,ADf,hw2,-⟩:=tail _ (hk1.trans hk2);obtain⟨t0,-,-,-,t4,t5⟩:=hB2.c6)
    |(at_builtin;refine Tt rfl _ _ rfl rfl hv2 rfl ADf (by rw[Aw,Aw];omega) hw2 ?_;intro v' w3 hv3 hk3;obtain⟨p3,m3,c3,rfl⟩:=hv3.sl;obtain⟨hB3,hv4,-,hw3,hb5⟩:=tail _ ((hk1.trans hk2).trans hk3);have t0:=hB3.c 0 _ rfl)
   obtain⟨lw,Sy,hll⟩:=hv3.ws;rw[Aw,Aw]at hll;refine(Cx hv4 Sy (AX hB hw3) (by omega)).mono ?_;rintro e w4 ⟨v4,rfl,hv4,hk4⟩;obtain⟨p5,m5,c5,rfl⟩:=hv4.sl;go_wp2;go_ret;exact⟨_,rfl,hv4.up (by omega),(Kp.of hb5 hB).trans hk4⟩
 ·go_wp2_with(at_builtin;refine Tt rfl _ _ rfl rfl hS rfl htW (by rw[Aw];omega) Cr ?_;intro v' w3 hv3 hk3;obtain⟨p3,m3,c3,rfl⟩:=hv3.sl;obtain⟨hB3,hv4,-,hw3,hb4⟩:=tail _ hk3;obtain⟨t0,-,-,-,-,t5⟩:=hB3.c6)
  refine(hQ _).mono ?_;rintro e W1 ⟨⟨t,rfl,ht⟩,hb5⟩;have hS1:=(hv3.nx hb5).nx (AJ W1 (.cells #[cS t] 9));have hk1:=hk3.trans (Kp.of (e:=9) (AB hb5 (AJ W1 (.cells #[cS t] 9))) hw3);go_wp2_with(at_builtin;refine Fh rfl _ _ rfl rfl hS1 [t] _ rfl (Ae.alloc _ _ _) (by rw[Aw,Aw];omega) (by simp;have:=hb5.size;omega) ?_;intro v' w2 hv2 hk2;obtain⟨p2,m2,c2,rfl⟩:=hv2.sl;obtain⟨-,hv6,-,iF,hb6⟩:=tail _ (hk1.trans hk2))
  obtain⟨lw,Sy,hll⟩:=hv2.ws;rw[Aw,Aw]at hll;refine(Cx hv6 Sy (AX hB iF) (by omega)).mono ?_;rintro e w4 ⟨v4,rfl,hv4,hk4⟩;obtain⟨p5,m5,c5,rfl⟩:=hv4.sl;go_wp2;go_ret;exact⟨_,rfl,hv4.up (by omega),(Kp.of hb6 hB).trans hk4⟩
end
end Go.Proofs.YtlffomedflegdaaGreatDoor
