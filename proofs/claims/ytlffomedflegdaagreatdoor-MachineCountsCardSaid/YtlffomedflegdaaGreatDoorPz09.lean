/- Part 9 of 49 of the proof: Wq, Mex, Lie, Lig. -/
import Derived.Test.YtlffomedflegdaaGreatDoorPz00
import Derived.Test.YtlffomedflegdaaGreatDoorPz05
import Derived.Test.YtlffomedflegdaaGreatDoorPz08
set_option linter.all false
set_option maxHeartbeats 16000000
set_option maxRecDepth 100000
namespace Go.Proofs.YtlffomedflegdaaGreatDoor
open Go.RowKit
variable {B g n o:Nat}{e:TypeId}{v:Value}{w w':World}{x:Lv}
section
open Num Dp
section
variable {p : Pg} {ans fails : List Int} {fuel : Int} {s s1 t u : St} {j j1 k : Nat}
theorem KS{f:Fn}{rest:List Lv}{y:ByteArray}(h:H7 f s rest x y=some t):t={s with frames:=rest++[⟨x.f,y,0,x.vars⟩]}:=by
 unfold H7 at h;grind
theorem Il(_:DJ p)(hw:WT p s)(hst:s.status=0)(h:EP p ans fails fuel s j=some (t,k)):∃x f b,xH p s=some (x,f,b)/\s.frames=s.frames.dropLast++[x]/\Ca p s.heap x f b/\((H8 x b=true/\j=256/\t={s with status:=3}/\k=j)\/(H8 x b=true/\j≠256/\k=j+1/\El p ans fails s x f b=some t)\/(H8 x b=false/\fuel<=s.steps/\t={s with status:=3}/\k=j)\/(H8 x b=false/\s.steps<fuel/\k=0/\El p ans fails {s with steps:=s.steps+1} x f b=some t)):=by
 obtain⟨x,f,b,h1,h2,h3⟩:=Z8 hw hst;refine⟨x,f,b,h1,h2,h3,?_⟩;unfold EP at h;rw[h1]at h;dsimp only at h
 cases hfree:H8 x b with
 |true=>
  rw[hfree,if_pos rfl]at h;by_cases hj:j=256
  ·rw[if_pos hj]at h;injection h with h;injection h with h4 h5;exact .inl ⟨rfl,hj,h4.symm,h5.symm⟩
  ·rw[if_neg hj]at h
   cases hs:El p ans fails s x f b with
   |none=>rw[hs]at h;cases h
   |some t'=>
    rw[hs]at h;injection h with h;injection h with h4 h5;subst h4
    exact .inr (.inl ⟨rfl,hj,h5.symm,rfl⟩)
 |false=>
  rw[hfree,if_neg (by decide)]at h;by_cases hs:fuel<=s.steps
  ·rw[if_pos hs]at h;injection h with h;injection h with h4 h5;exact .inr (.inr (.inl ⟨rfl,hs,h4.symm,h5.symm⟩))
  ·rw[if_neg hs]at h
   cases hs2:El p ans fails {s with steps:=s.steps+1} x f b with
   |none=>rw[hs2]at h;cases h
   |some t'=>
    rw[hs2]at h;injection h with h;injection h with h4 h5;subst h4;exact .inr (.inr (.inr ⟨rfl,by omega,h5.symm,rfl⟩))
theorem JX{b:Bk}(h:H8 x b=true):x.i=b.cs.length/\b.e.k=1:=by simp_all[H8]
theorem O9(hg:DJ p){f:Fn}{b:Bk}(hx:Ca p s.heap x f b)(hf:H8 x b=true)(h:El p ans fails s x f b=some t):∃y b',b.e.to=[y]/\Ai Bk.n y f.bs=some b'/\t={s with frames:=s.frames.dropLast++[⟨x.f,y,0,x.vars⟩]}:=by
 obtain⟨h1,h2⟩:=JX hf;have hgb:=(hg.fs f (Ak hx.1).1).b b (Ak hx.2.1).1;obtain⟨y,hy⟩:=Fg (hgb.to1 h2);obtain⟨b',hb'⟩:=hgb.ways y (by rw[hy];simp);unfold El at h;rw[if_pos h1]at h;unfold La at h;rw[if_pos h2,hy]at h;exact⟨y,b',hy,hb',KS h⟩
theorem Oa(hg:DJ p)(hn:KO p)(hw:WT p s)(hc:ZH s)(hst:s.status=0)(h:EP p ans fails fuel s j=some (t,k)):ZH t/\(∃l,t.trace=s.trace++l)/\s.guards<=t.guards/\(s.steps<=fuel->t.steps<=fuel)/\(t.steps=s.steps\/t.steps<=fuel)/\t.globals.length=s.globals.length:=by
 obtain⟨x,f,b,h1,h2,h3,h4⟩:=Il hg hw hst h;have hl:=hw.live hst;have spent:ZH {s with status:=3}:=⟨hc.st,hc.al,hc.gu,hc.asks,hc.tr,hc.o8,hc.ms,hc.up,hc.ar,hc.fr,by simp[hl]⟩;rcases h4 with⟨_,_,rfl,_⟩|⟨hf,hj,rfl,hs⟩|⟨_,_,rfl,_⟩|⟨hf,hlt,rfl,hs⟩
 ·exact⟨spent,⟨[],by simp⟩,Int.le_refl _,id,.inl rfl,rfl⟩
 ·obtain⟨y,b',_,_,rfl⟩:=O9 hg h3 hf hs;refine⟨⟨hc.st,hc.al,hc.gu,hc.asks,hc.tr,hc.o8,hc.ms,hc.up,hc.ar,?_,by simp[hst]⟩,⟨[],by simp⟩,Int.le_refl _,id,.inl rfl,rfl⟩;have:=hc.fr;rw[h2]at this;simp at this⊢;omega
 ·exact⟨spent,⟨[],by simp⟩,Int.le_refl _,id,.inl rfl,rfl⟩
 ·have ht:=XQ (s:={s with steps:=s.steps+1}) hg hn hst h2 h3 hs;have hsteps:t.steps=s.steps+1:=ht.steps;refine⟨hc.turn ht,?_,?_,fun _=>by omega,.inr (by omega),ht.globals⟩
  ·rcases ht.seen with⟨e,_⟩|⟨e,e1,_⟩
   ·exact⟨[],by rw[e];simp⟩
   ·exact⟨[e],e1⟩
  ·rcases ht.guards with e|e<;>(dsimp only at e;omega)
theorem Reach.cnt(hg:DJ p)(hn:KO p)(h:Reach p ans fails fuel s j t k)(hw:WT p s)(hc:ZH s):ZH t/\(∃l,t.trace=s.trace++l)/\s.guards<=t.guards/\(t.steps=s.steps\/t.steps<=fuel)/\t.globals.length=s.globals.length:=by
 induction h with
 |refl=>exact⟨hc,⟨[],by simp⟩,Int.le_refl _,.inl rfl,rfl⟩
 |step a b _ ih=>
  obtain⟨c1,⟨l1,c2⟩,c3,c4,c5,c7⟩:=Oa hg hn hw hc a b;obtain⟨t1,k1,e,hw1⟩:=Ml hg hw a ans fails fuel _;rw[b]at e;injection e with e;injection e with e1 e2;subst e1;obtain⟨d1,⟨l2,d2⟩,d3,d4,d5⟩:=ih hw1 c1;refine⟨d1,⟨l1++l2,by rw[d2,c2,List.append_assoc]⟩,Int.le_trans c3 d3,?_,d5.trans c7⟩;rcases d4 with d4|d4
  ·rcases c5 with c5|c5
   ·exact .inl (d4.trans c5)
   ·exact .inr (by omega)
  ·exact .inr d4
end
end
section
open Num Dp
abbrev fS:ByteArray:=⟨#[102]⟩
abbrev kS:ByteArray:=⟨#[107]⟩
abbrev aS:ByteArray:=⟨#[97]⟩
def RI:Is:=⟨33,Bv,Bv,[⟨1,kS,0⟩],[],[]⟩
def Pp:Bk:=⟨aS,[],[RI],⟨3,⟨1,kS,0⟩,[],0⟩⟩
def Nu:Fn:=⟨fS,BA,[⟨kS,BA⟩],[],[Pp]⟩
def FN:Pg:=⟨false,[],[],[],[Nu]⟩
def IY:St:={st0 with frames:=[⟨fS,aS,0,[(kS,(BA,5))]⟩]}
def yx:Ev:=⟨Bv,[5],0,false⟩
def jO:St:={st0 with frames:=[⟨fS,aS,1,[(kS,(BA,5))]⟩],trace:=[yx],marks:=[0],steps:=1}
def yw:St:={st0 with status:=1,result:=(BA,5),frames:=[],trace:=[yx],marks:=[0],steps:=2}
def yu:St:={jO with status:=3}
theorem fG:GK FN fS [5]=some IY:=by rfl
theorem oK(fuel:Int)(h:0<fuel):EP FN [] [] fuel IY 0=some (jO,0):=by
 unfold EP;rw[show xH FN IY=some (⟨fS,aS,0,[(kS,(BA,5))]⟩,Nu,Pp)from rfl];dsimp only;rw[if_neg (by decide),if_neg (show¬fuel<=IY.steps by show¬fuel<=0;omega)];rfl
theorem AAh:EP FN [] [] 9 jO 0=some (yw,0):=by rfl
theorem AAg:EP FN [] [] 1 jO 0=some (yu,0):=by rfl
theorem lW:Runs FN [] [] 9 IY 0 yw:=.step rfl (oK 9 (by decide)) (.step rfl AAh (.stop (by decide)))
theorem tT:Runs FN [] [] 1 IY 0 yu:=.step rfl (oK 1 (by decide)) (.step rfl AAg (.stop (by decide)))
theorem V9:DJ FN where
 names:=fun c hc=>by simp[FN]at hc
 heads:=by rfl
 fs:=fun f hf=>by
  obtain rfl:f=Nu:=by simpa[FN]using hf
  refine⟨by simp[Nu],fun b hb=>?_⟩;obtain rfl:b=Pp:=by simpa[Nu]using hb
  refine⟨rfl,fun i hi=>?_,rfl,fun h=>absurd h (by decide),fun h=>absurd h (by decide),fun y hy=>by simp[Pp]at hy⟩;obtain rfl:i=RI:=by simpa[Pp]using hi
  exact⟨rfl,fun fm hf=>by
   have:fm=⟨false,false,1,1⟩:=by
    have h2:BH RI.op=some ⟨false,false,1,1⟩:=rfl;rw[h2]at hf;injection hf with hf;exact hf.symm
   subst this
   rfl⟩
end
section
inductive Dt where
 |cell (v:Value)
 |agg (l:List Dt)
 |row (e:TypeId) (s:Nat) (l:List Dt)
 |mp (m:Vm)
mutual
def Dt.wd:Dt->Nat
 |.cell _=>1
 |.agg l=>Dt.DF l
 |.row _ _ _=>1
 |.mp _=>1
def Dt.DF:List Dt->Nat
 | []=>0
 |d::r=>d.wd+Dt.DF r
end
mutual
def Af(w:World)(B:Nat):Dt->Nat->Nat->List Nat->Prop
 |.cell v,g,o,fp=>w.cell? ⟨g,o,none⟩=some v/\fp=[]/\v.oneCell'=true
 |.agg l,g,o,fp=>AP w B l g o fp
 |.row e s l,g,o,fp=>(w.cell? ⟨g,o,none⟩=some (.slice none 0 0)/\l=[]/\fp=[])\/
  ∃g' cap cur f',w.cell? ⟨g,o,none⟩=some (.slice (some ⟨g',0,none⟩) l.length cap)/\B<=g'/\w.heap[g']? =some (.cells cur e (0,0))/\
   l.length<=cap/\cap<=maxLen/\cur.size=cap*s/\fp=g'::f'/\(∀d∈l,d.wd=s)/\AP w B l g' 0 f'
 |.mp m,g,o,fp=>∃b,w.cell? ⟨g,o,none⟩=some (.map (some b))/\B<=b/\CQ w b m/\fp=[b]
def AP(w:World)(B:Nat):List Dt->Nat->Nat->List Nat->Prop
 | [],_,_,fp=>fp=[]
 |d::r,g,o,fp=>∃f1 f2,fp=f1++f2/\Af w B d g o f1/\AP w B r g (o+d.wd) f2
end
theorem BM{b:Nat}(h:w'.heap[b]? =w.heap[b]?)(o:Nat):w'.cell? ⟨b,o,none⟩=w.cell? ⟨b,o,none⟩:=World.cell?_of_block (w:=w) (w':=w') (a:=⟨b,o,none⟩) h
section
variable {w w' : World} {B : Nat}
mutual
theorem Af.move:∀{d:Dt} {g o:Nat} {fp:List Nat} {g2 o2:Nat},Af w B d g o fp->(∀j,j<d.wd->w'.cell? ⟨g2,o2+j,none⟩=w.cell? ⟨g,o+j,none⟩)->(∀b,b∈fp->w'.heap[b]? =w.heap[b]?)->Af w' B d g2 o2 fp
 |.cell v,g,o,fp,g2,o2,h,hc,hf=>by
  unfold Af at h⊢;have:=hc 0 (by simp[Dt.wd])
  exact⟨this.trans h.1,h.2.1,h.2.2⟩
 |.agg l,g,o,fp,g2,o2,h,hc,hf=>by
  unfold Af at h⊢
  exact AP.move h (fun j hj=>hc j (by simpa[Dt.wd]using hj)) hf
 |.row e s l,g,o,fp,g2,o2,h,hc,hf=>by
  unfold Af at h⊢;have h0:=hc 0 (by simp[Dt.wd]);simp only[Nat.add_zero]at h0;rcases h with⟨h1,h2,h3⟩|⟨g',cap,cur,f',h1,h2,h3,h4,h5,h6,h7,h8,h9⟩
  ·exact .inl ⟨h0.trans h1,h2,h3⟩
  ·have hg:=hf g' (by rw[h7];simp)
   exact .inr ⟨g',cap,cur,f',h0.trans h1,h2,hg.trans h3,h4,h5,h6,h7,h8,AP.move h9 (fun j _=>BM hg _) (fun b hb=>hf b (by rw[h7];simp[hb]))⟩
 |.mp m,g,o,fp,g2,o2,h,hc,hf=>by
  unfold Af at h⊢;obtain⟨b,h1,h2,h3,rfl⟩:=h;have:=hc 0 (by simp[Dt.wd]);exact⟨b,this.trans h1,h2,h3.other (hf b (by simp)),rfl⟩
theorem AP.move:∀{l:List Dt} {g o:Nat} {fp:List Nat} {g2 o2:Nat},AP w B l g o fp->(∀j,j<Dt.DF l->w'.cell? ⟨g2,o2+j,none⟩=w.cell? ⟨g,o+j,none⟩)->(∀b,b∈fp->w'.heap[b]? =w.heap[b]?)->AP w' B l g2 o2 fp
 | [],g,o,fp,g2,o2,h,hc,hf=>by
  unfold AP at h⊢
  exact h
 |d::r,g,o,fp,g2,o2,h,hc,hf=>by
  unfold AP at h⊢;obtain⟨f1,f2,rfl,h1,h2⟩:=h;refine⟨f1,f2,rfl,Af.move h1 (fun j hj=>hc j (by simp only[Dt.DF];omega)) (fun b hb=>hf b (by simp[hb])),AP.move h2 (fun j hj=>?_) (fun b hb=>hf b (by simp[hb]))⟩;have:=hc (d.wd+j) (by simp only[Dt.DF];omega);rw[<-Nat.add_assoc,<-Nat.add_assoc]at this;exact this
end
mutual
theorem Af.fp:∀{d:Dt} {g o:Nat} {fp:List Nat},Af w B d g o fp->∀b,b∈fp->B<=b/\b<w.heap.size
 |.cell v,g,o,fp,h,b,hb=>by
  unfold Af at h;rw[h.2.1]at hb
  cases hb
 |.agg l,g,o,fp,h,b,hb=>by
  unfold Af at h
  exact AP.fp h b hb
 |.row e s l,g,o,fp,h,b,hb=>by
  unfold Af at h;rcases h with⟨h1,h2,h3⟩|⟨g',cap,cur,f',h1,h2,h3,h4,h5,h6,h7,h8,h9⟩
  ·rw[h3]at hb;cases hb
  ·rw[h7]at hb;rcases List.mem_cons.1 hb with rfl|hb
   ·exact⟨h2,(Array.getElem?_eq_some_iff.1 h3).1⟩
   ·exact AP.fp h9 b hb
 |.mp m,g,o,fp,h,b,hb=>by
  unfold Af at h;obtain⟨b',h1,h2,h3,rfl⟩:=h;obtain rfl:b=b':=by simpa using hb
  exact⟨h2,h3.lt⟩
theorem AP.fp:∀{l:List Dt} {g o:Nat} {fp:List Nat},AP w B l g o fp->∀b,b∈fp->B<=b/\b<w.heap.size
 | [],g,o,fp,h,b,hb=>by
  unfold AP at h;rw[h]at hb
  cases hb
 |d::r,g,o,fp,h,b,hb=>by
  unfold AP at h;obtain⟨f1,f2,rfl,h1,h2⟩:=h;rcases List.mem_append.1 hb with hb|hb
  ·exact Af.fp h1 b hb
  ·exact AP.fp h2 b hb
end
theorem AP.app:∀{l r:List Dt} {g o:Nat} {fp:List Nat},AP w B (l++r) g o fp↔∃f1 f2,fp=f1++f2/\AP w B l g o f1/\AP w B r g (o+Dt.DF l) f2
 | [],r,g,o,fp=>by
  simp only[List.nil_append,Dt.DF,Nat.add_zero];constructor
  ·intro h;exact⟨[],fp,rfl,by unfold AP;rfl,h⟩
  ·rintro⟨f1,f2,rfl,h1,h2⟩;unfold AP at h1;subst h1
   exact h2
 |d::l,r,g,o,fp=>by
  simp only[List.cons_append,Dt.DF];constructor
  ·intro h;unfold AP at h;obtain⟨f1,f2,rfl,h1,h2⟩:=h;obtain⟨f3,f4,rfl,h3,h4⟩:=AP.app.1 h2;rw[<-Nat.add_assoc];refine⟨f1++f3,f4,by simp,?_,h4⟩;unfold AP;exact⟨f1,f3,rfl,h1,h3⟩
  ·rintro⟨f1,f2,rfl,h1,h2⟩;unfold AP at h1;obtain⟨f3,f4,rfl,h3,h4⟩:=h1;unfold AP;exact⟨f3,f4++f2,by simp,h3,AP.app.2 ⟨f4,f2,rfl,h4,by rwa[Nat.add_assoc]⟩⟩
end
def BS(w w':World)(g o n:Nat):Prop:=
 ∃cur cur' t m,w.heap[g]? =some (.cells cur t m)/\w'.heap[g]? =some (.cells cur' t m)/\cur'.size=cur.size/\∀j,(j<o\/o+n<=j)->cur'[j]? =cur[j]?
theorem BS.of_eq{k:Nat}(hc:w.cell? ⟨g,k,none⟩=some v)(h:w'.heap[g]? =w.heap[g]?):BS w w' g o n:=by
 unfold World.cell? at hc;dsimp only at hc
 cases hg:w.heap[g]? with
 |none=>rw[hg]at hc;simp at hc
 |some ob=>
  rw[hg]at hc
  cases ob with
  |cells cur t m=>exact⟨cur,cur,t,m,hg,h.trans hg,rfl,fun _ _=>rfl⟩
  |_=>simp at hc
theorem NT{cur:Array Value}{t:TypeId}{m:Nat×Nat}(h:w.heap[g]? =some (.cells cur t m))(j:Nat):w.cell? ⟨g,j,none⟩=cur[j]? :=by
 unfold World.cell?;grind
theorem BS.cell(h:BS w w' g o n){j:Nat}(hj:j<o\/o+n<=j):w'.cell? ⟨g,j,none⟩=w.cell? ⟨g,j,none⟩:=by
 obtain⟨cur,cur',t,m,h1,h2,h3,h4⟩:=h;grind [NT]
theorem BS.mono{o' n':Nat}(h:BS w w' g o n)(h1:o'<=o)(h2:o+n<=o'+n'):BS w w' g o' n':=by grind [BS]
theorem BS.trans{w2:World}(h:BS w w' g o n)(k:BS w' w2 g o n):BS w w2 g o n:=by grind [BS]
theorem BS.set{k:Nat}{i:Nat}(hc:w.cell? ⟨g,i,none⟩=some v)(u:Value)(h1:o<=k)(h2:k<o+n):BS w (w.setCell ⟨g,k,none⟩ u) g o n:=by
 obtain⟨cur,_,t,m,h,_,_,_⟩:=BS.of_eq (o:=0) (n:=0) hc (rfl:w.heap[g]? =w.heap[g]?);refine⟨cur,cur.setIfInBounds k u,t,m,h,?_,by simp,fun j hj=>?_⟩
 ·unfold World.setCell;simp only[Array.getElem?_modify,if_true,h,Option.map_some];rfl
 grind
structure Hole(w:World)(B:Nat)(d:Dt)(g o:Nat)(fp:List Nat)(d0:Dt)(g0 o0:Nat)(Fj:List Nat)(F:Dt->Dt):Prop where
 lies:Af w B d0 g0 o0 Fj
 sub:∀b,b∈Fj->b∈fp
 at':g0=g\/g0∈fp
 nd:(g0::Fj).Nodup
 fill:∀w' Io d1,d1.wd=d0.wd->(∀b,b=g\/b∈fp->b≠g0->b∉Fj->w'.heap[b]? =w.heap[b]?)->BS w w' g0 o0 d0.wd->Af w' B d1 g0 o0 Io->
  (∀b,b∈Io->b∈Fj\/(b≠g/\b∉fp))->(g0::Io).Nodup->
  ∃fp',Af w' B (F d1) g o fp'/\(g::fp').Nodup/\(∀b,b∈fp'->b∈fp\/b∈Io)/\BS w w' g o d.wd/\(F d1).wd=d.wd
theorem Hole.whole{d:Dt}{fp:List Nat}(h:Af w B d g o fp)(hn:(g::fp).Nodup):Hole w B d g o fp d g o fp id where
 lies:=h
 sub:=fun _ h=>h
 at':=.inl rfl
 nd:=hn
 fill:=fun _ Io _ h1 _ h3 h4 _ h6=>⟨Io,h4,h6,fun _ hb=> .inr hb,h3,h1⟩
theorem Hole.trans{d d0 d1:Dt}{g0 o0 g1 o1:Nat}{fp Fj Io:List Nat}{F G:Dt->Dt}(h:Hole w B d g o fp d0 g0 o0 Fj F)(k:Hole w B d0 g0 o0 Fj d1 g1 o1 Io G):Hole w B d g o fp d1 g1 o1 Io (fun x=>F (G x)) where
 lies:=k.lies
 sub:=fun b hb=>h.sub b (k.sub b hb)
 at':=by
  rcases k.at' with e|e
  ·rw[e];exact h.at'
  ·exact .inr (h.sub _ e)
 nd:=k.nd
 fill:=fun w' f1 x h1 h2 h3 h4 h5 h6=>by
  have hg0:g0=g\/g0∈fp:=h.at'
  obtain⟨f',a1,a2,a3,a4,a5⟩:=k.fill w' f1 x h1 (fun b hb=>h2 b (by
   rcases hb with rfl|hb
   ·exact hg0
   ·exact .inr (h.sub b hb))) h3 h4 (fun b hb=>by
   rcases h5 b hb with h|⟨h7,h8⟩
   ·exact .inl h
   ·refine .inr ⟨fun e=>?_,fun e=>h8 (h.sub b e)⟩;subst e;rcases hg0 with e|e
    ·exact h7 e
    ·exact h8 e) h6
  obtain⟨f2,b1,b2,b3,b4,b5⟩:=h.fill w' f' (G x) a5 (fun b hb e1 e2=>h2 b hb (by
   rintro rfl;rcases k.at' with e|e
   ·exact e1 e
   ·exact e2 e) (fun e=>e2 (k.sub b e))) a4 a1 (fun b hb=>by
   rcases a3 b hb with h|h
   ·exact .inl h
   ·rcases h5 b h with h|h
    ·exact .inl (k.sub b h)
    ·exact .inr h) a2
  refine⟨f2,b1,b2,fun b hb=>?_,b4,b5⟩;rcases b3 b hb with h9|h9
  ·exact .inl h9
  ·rcases a3 b h9 with h10|h10
   ·exact .inl (h.sub b h10)
   ·exact .inr h10
def AZ(w:World)(B:Nat)(e:TypeId)(s:Nat)(l:List Dt)(v:Value)(fp:List Nat):Prop:=(v=.slice none 0 0/\l=[]/\fp=[])\/
 ∃g' cap cur f',v=.slice (some ⟨g',0,none⟩) l.length cap/\B<=g'/\w.heap[g']? =some (.cells cur e (0,0))/\
  l.length<=cap/\cap<=maxLen/\cur.size=cap*s/\fp=g'::f'/\(∀d∈l,d.wd=s)/\AP w B l g' 0 f'
section
variable {w w' : World} {B g o s : Nat} {e : TypeId} {l : List Dt} {F : List Nat} {v : Value}
theorem Af.row(h:Af w B (.row e s l) g o F):∃v,w.cell? ⟨g,o,none⟩=some v/\AZ w B e s l v F:=by
 unfold Af at h;rcases h with⟨h1,h2,h3⟩|⟨g',cap,cur,f',h1,h2⟩
 ·exact⟨_,h1,.inl ⟨rfl,h2,h3⟩⟩
 ·exact⟨_,h1,.inr ⟨g',cap,cur,f',rfl,h2⟩⟩
theorem AZ.lies(h:AZ w B e s l v F)(hc:w.cell? ⟨g,o,none⟩=some v):Af w B (.row e s l) g o F:=by simp_all[AZ,none,Af]
theorem AZ.nil:AZ w B e s [] (.slice none 0 0) []:=.inl ⟨rfl,rfl,rfl⟩
theorem AZ.same(h:AZ w B e s l v F)(hf:∀b,b∈F->w'.heap[b]? =w.heap[b]?):AZ w' B e s l v F:=by
 rcases h with h|⟨g',cap,cur,f',rfl,h2,h3,h4,h5,h6,rfl,h8,h9⟩
 ·exact .inl h
 ·exact .inr ⟨g',cap,cur,f',rfl,h2,(hf g' (by simp)).trans h3,h4,h5,h6,rfl,h8,h9.move (fun j _=>BM (hf g' (by simp)) _) (fun b hb=>hf b (by simp[hb]))⟩
theorem AZ.fp(h:AZ w B e s l v F):∀b,b∈F->B<=b/\b<w.heap.size:=by
 intro b hb;rcases h with⟨_,_,rfl⟩|⟨g',cap,cur,f',rfl,h2,h3,h4,h5,h6,rfl,h8,h9⟩
 ·cases hb
 ·rcases List.mem_cons.1 hb with rfl|hb
  ·exact⟨h2,(Array.getElem?_eq_some_iff.1 h3).1⟩
  ·exact h9.fp b hb
theorem AZ.slice(h:AZ w B e s l v F):∃p c,v=.slice p l.length c:=by
 rcases h with⟨rfl,rfl,_⟩|⟨g',cap,cur,f',rfl,_⟩
 ·exact⟨none,0,rfl⟩
 grind
theorem AZ.own(h:AZ w B e s l v F):∀k,v.ownBlock=some k->k∈F:=by
 intro k hk;rcases h with⟨rfl,rfl,_⟩|⟨g',cap,cur,f',rfl,h2,h3,h4,h5,h6,rfl,_⟩
 ·simp[Value.ownBlock]at hk
 ·simp[Value.ownBlock]at hk;simp[hk]
end
theorem HZ{s:Nat}:∀{l:List Dt},(∀d∈l,d.wd=s)->Dt.DF l=l.length*s
 | [],_=>by simp[Dt.DF]
 |d::r,h=>by
  simp only[Dt.DF,List.length_cons];rw[h d (by simp),HZ (fun d hd=>h d (by simp[hd])),Nat.add_mul,Nat.one_mul,Nat.add_comm]
theorem Va{l r:List Dt}:Dt.DF (l++r)=Dt.DF l+Dt.DF r:=by
 induction l with
 |nil=>simp[Dt.DF]
 |cons d l ih=>simp only[List.cons_append,Dt.DF,ih,Nat.add_assoc]
mutual
theorem Af.cells:∀{d:Dt} {g o:Nat} {fp:List Nat},Af w B d g o fp->∀j,j<d.wd->∃v,w.cell? ⟨g,o+j,none⟩=some v/\v.oneCell'=true
 |.cell v,g,o,fp,h,j,hj=>by
  unfold Af at h;have:j=0:=by simpa[Dt.wd]using hj
  subst this
  exact⟨v,h.1,h.2.2⟩
 |.agg l,g,o,fp,h,j,hj=>by
  unfold Af at h
  exact AP.cells h j (by simpa[Dt.wd]using hj)
 |.row e s l,g,o,fp,h,j,hj=>by
  obtain⟨v,hc,hv⟩:=h.row;have:j=0:=by simpa[Dt.wd]using hj
  subst this;obtain⟨p,c,rfl⟩:=hv.slice
  exact⟨_,hc,rfl⟩
 |.mp m,g,o,fp,h,j,hj=>by
  unfold Af at h;obtain⟨b,h1,_⟩:=h;have:j=0:=by simpa[Dt.wd]using hj
  subst this;exact⟨_,h1,rfl⟩
theorem AP.cells:∀{l:List Dt} {g o:Nat} {fp:List Nat},AP w B l g o fp->∀j,j<Dt.DF l->∃v,w.cell? ⟨g,o+j,none⟩=some v/\v.oneCell'=true
 | [],g,o,fp,h,j,hj=>by simp[Dt.DF]at hj
 |d::r,g,o,fp,h,j,hj=>by
  unfold AP at h;obtain⟨f1,f2,rfl,h1,h2⟩:=h;simp only[Dt.DF]at hj;by_cases hd:j<d.wd
  ·exact Af.cells h1 j hd
  ·obtain⟨v,hc,h1⟩:=AP.cells h2 (j-d.wd) (by omega);rw[show o+d.wd+(j-d.wd)=o+j by omega]at hc;exact⟨v,hc,h1⟩
end
theorem run_append_own'{P:Program}(base:Nat)(t ty e:TypeId)(i:TypeInfo)(z:Value)(size bytes:Nat)(ht:P.underlying t=some (.slice e))(hi:P.info? e=some i)(hz:i.zero=some z)(hsize:i.size=size) (hby:i.bytes=bytes) (hzs:z.cells.size=size) (hsz:0<size)(v:Value) (n:Nat) (xs:List Value) (hown:w.ownsRow base e size v n xs)(a:Addr) (m c:Nat) (news:List Value) (hl:news.length=m*size) (hnews:∀j u,news[j]? =some u->w.cell? (a.add j)=some u) (h1:∀u∈news,u.oneCell'=true)(h63:n+m<=maxLen) (hbytes:(n+m)*bytes<=140737488355328) (hbase:base<=w.heap.size):∃v' w',(Builtin.append_ #[t,t] ty #[v,.slice (some a) m c]).run P w=.ok v' w'/\w'.ownsRow base e size v' (n+m) (xs++news)/\w.grownBy w' v.ownBlock/\(∀k,v'.ownBlock=some k->v.ownBlock=some k\/w.heap.size<=k):=by
 obtain⟨v',w',hr,ho,hg,_⟩:=run_append_own (P:=P) w base t ty e i z size bytes ht hi hz hsize hby hzs hsz v n xs hown a m c news hl hnews h1 h63 hbytes hbase;refine⟨v',w',hr,ho,hg,?_⟩;rcases hown.2 with⟨rfl,rfl⟩|⟨g,cap,cur,rfl,hbg,hgg,hnc,hcm,hcs,htake⟩
 ·have hx:xs=[]:=List.eq_nil_of_length_eq_zero (by simpa using hown.1);subst hx;obtain⟨v2,w2,hr2,ho2,_,_⟩:=run_append_own (P:=P) w w.heap.size t ty e i z size bytes ht hi hz hsize hby hzs hsz _ 0 [] (World.ownsRow_nil w _ e size) a m c news hl hnews h1 h63 hbytes (AQ);rw[hr]at hr2;obtain⟨rfl,rfl⟩:v'=v2/\w'=w2:=by simpa using hr2
  exact fun k hk=> .inr (ho2.lt k hk).1
 ·subst hsize;subst hby;by_cases hroom:n+m<=cap
  ·have hfit:n*i.size+news.length<=cur.size:=(by rw[hl,hcs,<-Nat.add_mul];exact Nat.mul_le_mul_right _ hroom);have hr2:=run_append_room (P:=P) w t ty e i ht hi g n cap cur hgg a m c news hl hnews h1 hroom hfit;rw[hr]at hr2;obtain⟨rfl,-⟩:v'=_/\_:=(by simpa using hr2);exact fun k hk=> .inl hk
  ·have holds:∀j u,xs[j]? =some u->w.cell? ((⟨g,0,none⟩:Addr).add j)=some u:=hown.cells (g:=g) rfl;have hr2:=run_append_grow (P:=P) w t ty e i z ht hi hz ⟨g,0,none⟩ n cap xs hown.1 holds a m c news hl hnews (by omega) (by simp only[maxLen]at h63;omega) (growslice_fits (by omega) hbytes);rw[hr]at hr2;obtain⟨rfl,-⟩:v'=_/\_:=(by simpa using hr2);exact fun k hk=> .inr (by simp[Value.ownBlock]at hk;omega)
end
theorem BN{l:List Nat}:(g::l).Nodup↔g∉l/\l.Nodup:=List.nodup_cons
theorem GL{a b:List Nat}:(a++b).Nodup↔a.Nodup/\b.Nodup/\∀x,x∈a->x∉b:=by grind
theorem eU{l1 l2:List Dt}{d0:Dt}{fp:List Nat}(h:Af w B (.agg (l1++d0::l2)) g o fp)(hn:(g::fp).Nodup):∃Fj,Hole w B (.agg (l1++d0::l2)) g o fp d0 g (o+Dt.DF l1) Fj (fun x=> .agg (l1++x::l2)):=by
 unfold Af at h;obtain⟨f1,f2',rfl,h1,h2⟩:=AP.app.1 h;unfold AP at h2;obtain⟨f0,f2,rfl,h3,h4⟩:=h2;rw[BN,GL,GL]at hn;simp only[List.mem_append,not_or]at hn;obtain⟨⟨hg1,hg0,hg2⟩,n1,⟨n0,n2,wB⟩,n1'⟩:=hn;refine⟨f0,h3,fun b hb=>by simp[hb],.inl rfl,BN.2 ⟨hg0,n0⟩,fun w' Io d1 hd hk hs hl hf hn'=>?_⟩;rw[BN]at hn';have hl1:AP w' B l1 g o f1:=h1.move (fun j hj=>hs.cell (by omega)) (fun b hb=>hk b (.inr (by simp[hb])) (fun e=>hg1 (e▸hb)) (n1' b hb).1);have hl2:AP w' B l2 g (o+Dt.DF l1+d1.wd) f2:=by
  rw[hd];exact h4.move (fun j hj=>hs.cell (by omega)) (fun b hb=>hk b (.inr (by simp[hb])) (fun e=>hg2 (e▸hb)) (fun e=>wB b e hb))
 have hx:∀b,b∈Io->b∉f1/\b∉f2/\b≠g:=fun b hb=>by
  rcases hf b hb with h|⟨h5,h6⟩
  ·exact⟨fun e=>(n1' b e).1 h,wB b h,fun e=>hg0 (e▸h)⟩
  ·simp only[List.mem_append,not_or]at h6;exact⟨h6.1,h6.2.2,h5⟩
 refine⟨f1++(Io++f2),?_,?_,fun b hb=>?_,?_,?_⟩
 ·unfold Af;refine AP.app.2 ⟨f1,_,rfl,hl1,?_⟩;unfold AP;exact⟨Io,f2,rfl,hl,hl2⟩
 ·rw[BN,GL,GL];simp only[List.mem_append,not_or];exact⟨⟨hg1,hn'.1,hg2⟩,n1,⟨hn'.2,n2,fun x h=>(hx x h).2.1⟩,fun x h=>⟨fun e=>(hx x e).1 h,(n1' x h).2⟩⟩
 ·simp only[List.mem_append]at hb⊢;rcases hb with h|h|h
  ·exact .inl (.inl h)
  ·exact .inr h
  ·exact .inl (.inr (.inr h))
 ·exact hs.mono (by omega) (by simp only[Dt.wd,Va,Dt.DF];omega)
 ·simp only[Dt.wd,Va,Dt.DF,hd]
theorem eT{s:Nat}{l1 l2:List Dt}{d0:Dt}{fp:List Nat}(h:Af w B (.row e s (l1++d0::l2)) g o fp)(hn:(g::fp).Nodup):∃g' cap Fj,w.cell? ⟨g,o,none⟩=some (.slice (some ⟨g',0,none⟩) (l1.length+1+l2.length) cap)/\g'∈fp/\d0.wd=s/\(∀q,w.frozen? ⟨g',q,none⟩=false)/\Hole w B (.row e s (l1++d0::l2)) g o fp d0 g' (l1.length*s) Fj (fun x=> .row e s (l1++x::l2)):=by
 obtain⟨v,hc,hv⟩:=h.row;rcases hv with⟨rfl,h2,_⟩|⟨g',cap,cur,f',rfl,h2,h3,h4,h5,h6,rfl,h8,h9⟩
 ·simp at h2
 obtain⟨f1,f2',rfl,h10,h11⟩:=AP.app.1 h9;unfold AP at h11;obtain⟨f0,f2,rfl,h12,h13⟩:=h11;have hw1:Dt.DF l1=l1.length*s:=HZ fun d hd=>h8 d (by simp[hd]);have hw0:d0.wd=s:=h8 d0 (by simp);rw[hw1,Nat.zero_add]at h12 h13;simp only[BN,GL,List.mem_append,List.mem_cons,not_or]at hn;obtain⟨⟨hgg,hg1,hg0,hg2⟩,⟨nE,hh0,hh2⟩,n1,⟨n0,n2,wB⟩,n1'⟩:=hn;have hlen:(l1++d0::l2).length=l1.length+1+l2.length:=by simp;omega
 rw[hlen]at hc;refine⟨g',cap,f0,hc,by simp,hw0,fun q=>by unfold World.frozen?;dsimp only;rw[h3];rfl,h12,fun b hb=>by simp[hb],.inr (by simp),BN.2 ⟨hh0,n0⟩,fun w' Io d1 hd hk hs hl hf hn'=>?_⟩;rw[BN]at hn';have hgw:w'.heap[g]? =w.heap[g]? :=hk g (.inl rfl) hgg hg0;have hl1:AP w' B l1 g' 0 f1:=h10.move (fun j hj=>hs.cell (by omega)) (fun b hb=>hk b (.inr (by simp[hb])) (fun e=>nE (e▸hb)) (n1' b hb).1);have hl2:AP w' B l2 g' (l1.length*s+d1.wd) f2:=by
  rw[hd];exact h13.move (fun j hj=>hs.cell (by omega)) (fun b hb=>hk b (.inr (by simp[hb])) (fun e=>hh2 (e▸hb)) (fun e=>wB b e hb))
 have hx:∀b,b∈Io->b∉f1/\b∉f2/\b≠g/\b≠g':=fun b hb=>by
  rcases hf b hb with h|⟨h5,h6⟩
  ·exact⟨fun e=>(n1' b e).1 h,wB b h,fun e=>hg0 (e▸h),fun e=>hh0 (e▸h)⟩
  ·simp only[List.mem_append,List.mem_cons,not_or]at h6;exact⟨h6.2.1,h6.2.2.2,h5,h6.1⟩
 obtain⟨c0,c1,t,m,a1,a2,a3,a4⟩:=id hs;rw[h3]at a1;obtain⟨rfl,rfl,rfl⟩:cur=c0/\e=t/\(0,0)=m:=by simpa using a1
 refine⟨g'::(f1++(Io++f2)),?_,?_,fun b hb=>?_,?_,by simp[Dt.wd]⟩
 ·refine AZ.lies (v:=.slice (some ⟨g',0,none⟩) (l1.length+1+l2.length) cap) (.inr ⟨g',cap,c1,_,?_,h2,a2,?_,h5,a3.trans h6,rfl,?_,?_⟩) ((BM hgw o).trans hc)
  ·rw[show(l1++d1::l2).length=l1.length+1+l2.length by simp;omega]
  ·rw[show(l1++d1::l2).length=l1.length+1+l2.length by simp;omega,<-hlen];exact h4
  ·intro d hd';rcases List.mem_append.1 hd' with h|h
   ·exact h8 d (by simp[h])
   ·rcases List.mem_cons.1 h with rfl|h
    ·rw[hd,hw0]
    ·exact h8 d (by simp[h])
  ·refine AP.app.2 ⟨f1,_,rfl,hl1,?_⟩;unfold AP;rw[hw1,Nat.zero_add];exact⟨Io,f2,rfl,hl,hl2⟩
 ·simp only[BN,GL,List.mem_append,List.mem_cons,not_or];exact⟨⟨hgg,hg1,fun e=>(hx g e).2.2.1 rfl,hg2⟩,⟨nE,hn'.1,hh2⟩,n1,⟨hn'.2,n2,fun x h=>(hx x h).2.1⟩,fun x h=>⟨fun e=>(hx x e).1 h,(n1' x h).2⟩⟩
 ·simp only[List.mem_append,List.mem_cons]at hb⊢;rcases hb with h|h|h|h
  ·exact .inl (.inl h)
  ·exact .inl (.inr (.inl h))
  ·exact .inr h
  ·exact .inl (.inr (.inr (.inr h)))
 ·exact BS.of_eq hc hgw
theorem AZ.owns{s:Nat}{l:List Dt}{fp:List Nat}(h:AZ w B e s l v fp):∃xs,w.ownsRow B e s v l.length xs:=by
 rcases h with⟨rfl,rfl,_⟩|⟨g',cap,cur,f',rfl,h2,h3,h4,h5,h6,_⟩
 ·exact⟨[],World.ownsRow_nil _ _ _ _⟩
 ·refine⟨cur.toList.take (l.length*s),?_,.inr ⟨g',cap,cur,rfl,h2,h3,h4,h5,h6,rfl⟩⟩;have hc:cur.toList.length=cap*s:=by simpa using h6
  rw[List.length_take,hc,Nat.min_eq_left (Nat.mul_le_mul_right s h4)]
theorem Ep{s:Nat}{c:Nat}{xs:List Value}(h:w.ownsRow B e s (.slice (some ⟨g,0,none⟩) n c) n xs){j:Nat}(hj:j<n*s):w.cell? ⟨g,j,none⟩=xs[j]? :=h.cellAt j hj
theorem AZ.push{w1:World}{s:Nat}{l r:List Dt}{v':Value}{fp fd:List Nat}{ga oa:Nat}{xs news:List Value}(h:AZ w B e s l v fp)(hx:w.ownsRow B e s v l.length xs)(hr:AP w B r ga oa fd) (hs:∀d∈r,d.wd=s) (hr0:0<r.length) (hl:news.length=r.length*s) (hnews:∀j,j<r.length*s->w.cell? ⟨ga,oa+j,none⟩=news[j]?)(ho:w1.ownsRow B e s v' (l.length+r.length) (xs++news)) (hg:w.grownBy w1 v.ownBlock) (hf:∀k,v'.ownBlock=some k->v.ownBlock=some k\/w.heap.size<=k)(hn:fp.Nodup) (hn':fd.Nodup) (hd:∀b,b∈fd->b∉fp):∃fp',AZ w1 B e s (l++r) v' fp'/\fp'.Nodup/\∀b,b∈fp'->b∈fp\/b∈fd\/w.heap.size<=b:=by
 have hov:=h.own;have old:∀b,b∈fd->w1.heap[b]? =w.heap[b]? :=fun b hb=>hg.block b (hr.fp b hb).2 (fun e=>hd b hb (hov b e.symm));have hwr:Dt.DF r=r.length*s:=HZ hs;rcases ho.2 with⟨_,h1⟩|⟨g2,cap2,jP,rfl,k1,k2,k3,k4,k5,k6⟩
 ·omega
 have hat:∀j,j<(l.length+r.length)*s->w1.cell? ⟨g2,j,none⟩=(xs++news)[j]? :=fun j hj=>Ep ho hj
 have hnew:AP w1 B r g2 (l.length*s) fd:=hr.move (fun j hj=>by
  rw[hwr]at hj
  rw[hat _ (by rw[Nat.add_mul];omega),List.getElem?_append_right (by rw[hx.1];omega),hx.1,Nat.add_sub_cancel_left,hnews j hj]) old
 have hbig:∀b,b∈fd->b≠g2:=fun b hb e=>by
  subst e;rcases hf b rfl with h|h
  ·exact hd b hb (hov b h)
  ·have:=(hr.fp b hb).2;omega
 rcases h with⟨rfl,rfl,rfl⟩|⟨g',cap,cur,f',rfl,h2,h3,h4,h5,h6,rfl,h8,h9⟩
 ·refine⟨g2::fd,.inr ⟨g2,cap2,jP,fd,by simp,k1,k2,by simpa using k3,k4,k5,rfl,by simpa using hs,by simpa using hnew⟩,BN.2 ⟨fun e=>hbig _ e rfl,hn'⟩,fun b hb=>?_⟩;rcases List.mem_cons.1 hb with rfl|hb
  ·rcases hf b rfl with h|h
   ·simp[Value.ownBlock]at h
   ·exact .inr (.inr h)
  ·exact .inr (.inl hb)
 ·rw[BN]at hn;have hw1:Dt.DF l=l.length*s:=HZ h8
  have keep:∀b,b∈f'->w1.heap[b]? =w.heap[b]? :=fun b hb=>hg.block b (h9.fp b hb).2 (fun e=>by
   have:b=g':=(by simpa[Value.ownBlock]using e);subst this
   exact hn.1 hb)
  have hold:AP w1 B l g2 0 f':=h9.move (fun j hj=>by
   rw[hw1]at hj;rw[Nat.zero_add,hat j (by rw[Nat.add_mul];omega),List.getElem?_append_left (by rw[hx.1];omega)]
   exact(Ep hx hj).symm) keep
  have hg2:g2∉f':=fun e=>by
   rcases hf g2 rfl with h|h
   ·have:g'=g2:=(by simpa[Value.ownBlock]using h);subst this;exact hn.1 e
   ·have:=(h9.fp g2 e).2;omega
  refine⟨g2::(f'++fd),.inr ⟨g2,cap2,jP,f'++fd,by simp,k1,k2,by simpa using k3,k4,k5,rfl,?_,AP.app.2 ⟨f',fd,rfl,hold,by rw[hw1,Nat.zero_add];exact hnew⟩⟩,?_,fun b hb=>?_⟩
  ·intro d hd';rcases List.mem_append.1 hd' with h|h
   ·exact h8 d h
   ·exact hs d h
  ·simp only[BN,GL,List.mem_append,not_or];exact⟨⟨hg2,fun e=>hbig _ e rfl⟩,hn.2,hn',fun x hx hy=>hd x hy (by simp[hx])⟩
  ·rcases List.mem_cons.1 hb with rfl|hb
   ·rcases hf b rfl with h|h
    ·have:g'=b:=(by simpa[Value.ownBlock]using h);subst this;exact .inl (by simp)
    ·exact .inr (.inr h)
   ·rcases List.mem_append.1 hb with hb|hb
    ·exact .inl (by simp[hb])
    ·exact .inr (.inl hb)
end Go.Proofs.YtlffomedflegdaaGreatDoor
