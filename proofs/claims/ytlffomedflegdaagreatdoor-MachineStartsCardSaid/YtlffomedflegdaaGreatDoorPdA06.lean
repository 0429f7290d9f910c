/- Part A06 of the proof: Ve. -/
import Derived.Test.YtlffomedflegdaaGreatDoorPd22
import Derived.Test.YtlffomedflegdaaGreatDoorPdA04
set_option linter.all false
set_option maxHeartbeats 16000000
set_option maxRecDepth 100000
namespace Go.Proofs.YtlffomedflegdaaGreatDoor
open Go.RowKit
open Go.Value renaming int→cI,string→cS,slice→cY,bool→cE
open Go.IntKind renaming i64→cJ
open Option renaming some→cP,none→cX
open Bool renaming false→cA,true→cC
abbrev rs0:List Value:=rsC (cY cX 0 0) (cY cX 0 0)
structure ACX(W:World)(nm bn:ByteArray)(m:Vm)(g:List Vu)(V:Nat->Value)(L:Nat->Bool)(w:World):Prop where
 b:AA6 W w
 v6:L 6=cC->∃gl fr,V 6=.tuple #[rsV gl fr,cE cC]/\ABq w nm bn m g gl fr (Off V L)
 v7:L 7=cC->∃gl fr,V 7=.tuple #[rsV gl fr,cE cC]/\ABq w nm bn m g gl fr (Off V L)
 v8:L 8=cC->∃gl fr,V 8=rsV gl fr/\ABq w nm bn m g gl fr (Off V L)
 v9:L 9=cC->V 9=cE cC
 vb:L 10=cC->∃p,V 10=gY p/\W.heap.size<=p/\p<w.heap.size/\(L 11=cA->Ae w p rs0)/\(L 11=cC->∃gl fr,Ae w p (rsC gl fr)/\ABq w nm bn m g gl fr (Off V L))
section
variable {W w w2 : World} {nm bn : ByteArray} {m : Vm} {g : List Vu} {V : Nat -> Value} {L : Nat -> Bool}
def ACX.start(h:AA6 W w):ACX W nm bn m g V (λ_=>cA) w:=⟨h,(λe=>Bool.noConfusion e),(λe=>Bool.noConfusion e),(λe=>Bool.noConfusion e),(λe=>Bool.noConfusion e),(λe=>Bool.noConfusion e)⟩
def ACX.keep(h:ACX W nm bn m g V L w){i:Nat}(h6:((6:Nat)==i)=cA)(h7:((7:Nat)==i)=cA)(h8:((8:Nat)==i)=cA)(h9:((9:Nat)==i)=cA)(ha:((10:Nat)==i)=cA)(hb:((11:Nat)==i)=cA):ACX W nm bn m g V (upd L i) w:=by
 refine⟨h.b,?_,?_,?_,?_,?_⟩
 ·rw[upd_ne h6,Off.upd ha];exact h.v6
 ·rw[upd_ne h7,Off.upd ha];exact h.v7
 ·rw[upd_ne h8,Off.upd ha];exact h.v8
 ·rw[upd_ne h9];exact h.v9
 ·rw[upd_ne ha,upd_ne hb,Off.upd ha];exact h.vb
def ACX.kp(h:ACX W nm bn m g V L w)(hb:AA6 w w2):ACX W nm bn m g V L w2:=by
 have k:∀{gl fr:Value},ABq w nm bn m g gl fr (Off V L)->ABq w2 nm bn m g gl fr (Off V L):=λh=>h.same (λb h1 _=>hb.block b h1) hb.size λ_ _ h=>h;refine⟨AB h.b hb,λe=>?_,λe=>?_,λe=>?_,h.v9,λe=>?_⟩
 ·obtain⟨_,_,e1,e2⟩:=h.v6 e;exact⟨_,_,e1,k e2⟩
 ·obtain⟨_,_,e1,e2⟩:=h.v7 e;exact⟨_,_,e1,k e2⟩
 ·obtain⟨_,_,e1,e2⟩:=h.v8 e;exact⟨_,_,e1,k e2⟩
 ·obtain⟨p,e1,e2,e3,e4,e5⟩:=h.vb e;refine⟨p,e1,e2,A9 e3 hb.size,λe=>(e4 e).same (hb.block p e3),λe=>?_⟩;obtain⟨_,_,x1,x2⟩:=e5 e;exact⟨_,_,x1.same (hb.block p e3),k x2⟩
def ACX.set(h:ACX W nm bn m g V L w){i:Nat}(v:Value)(ha:((10:Nat)==i)=cA)(hb:((11:Nat)==i)=cA)(h6:i=6->∃gl fr,v=.tuple #[rsV gl fr,cE cC]/\ABq w nm bn m g gl fr (Off V L)) (h7:i=7->∃gl fr,v=.tuple #[rsV gl fr,cE cC]/\ABq w nm bn m g gl fr (Off V L))(h8:i=8->∃gl fr,v=rsV gl fr/\ABq w nm bn m g gl fr (Off V L)) (h9:i=9->v=cE cC):ACX W nm bn m g (EB V i v) (upd L i) w:=by
 have key:∀{Q:Value->Prop} (n:Nat),(i=n->Q v)->(L n=cC->Q (V n))->upd L i n=cC->Q (EB V i v n):=λn h1 h2 h3=>by
  by_cases e:i=n
  ·subst e;rw[BL];exact h1 rfl
  ·have hn:(n==i)=cA:=by simpa using λh=>e h.symm
   rw[upd_ne hn]at h3;rw[Br V v (λh=>e h.symm)];exact h2 h3
 refine⟨h.b,?_,?_,?_,?_,?_⟩
 ·rw[iY ha];exact key (Q:=λx=>∃gl fr,x=.tuple #[rsV gl fr,cE cC]/\ABq w nm bn m g gl fr (Off V L)) 6 h6 h.v6
 ·rw[iY ha];exact key (Q:=λx=>∃gl fr,x=.tuple #[rsV gl fr,cE cC]/\ABq w nm bn m g gl fr (Off V L)) 7 h7 h.v7
 ·rw[iY ha];exact key (Q:=λx=>∃gl fr,x=rsV gl fr/\ABq w nm bn m g gl fr (Off V L)) 8 h8 h.v8
 ·exact key (Q:=λx=>x=cE cC) 9 h9 h.v9
 ·rw[iY ha,upd_ne ha,upd_ne hb,Br V v (by simpa using ha)];exact h.vb
def ACX.made(h:ACX W nm bn m g V L w)(hl:L 10=cA)(h11:L 11=cA)(t:TypeId):ACX W nm bn m g (EB V 10 (gY w.heap.size)) (upd L 10) (w.alloc (.cells rs0.toArray t)):=by
 have hal:=AJ w (.cells rs0.toArray t);have k:∀{gl fr:Value},ABq w nm bn m g gl fr (Off V L)->ABq (w.alloc (.cells rs0.toArray t)) nm bn m g gl fr (Off (EB V 10 (gY w.heap.size)) (upd L 10)):=λh=>h.same (λb h1 _=>hal.block b h1) hal.size λb h1 _ _ e=>by
  rw[BL]at e;injection e with e;injection e with e;injection e with e;omega
 refine⟨AB h.b hal,?_,?_,?_,?_,λ_=>⟨w.heap.size,BL _ _ _,h.b.size,by simp,λ_=>Ae.alloc w rs0 t,λe=>?_⟩⟩
 ·rw[upd_ne (by rfl),Br V _ (by decide)];intro e;obtain⟨_,_,e1,e2⟩:=h.v6 e;exact⟨_,_,e1,k e2⟩
 ·rw[upd_ne (by rfl),Br V _ (by decide)];intro e;obtain⟨_,_,e1,e2⟩:=h.v7 e;exact⟨_,_,e1,k e2⟩
 ·rw[upd_ne (by rfl),Br V _ (by decide)];intro e;obtain⟨_,_,e1,e2⟩:=h.v8 e;exact⟨_,_,e1,k e2⟩
 ·rw[upd_ne (by rfl),Br V _ (by decide)];exact h.v9
 ·rw[upd_ne (by rfl),h11]at e;cases e
def ACX.fill(h:ACX W nm bn m g V L w){p:Nat}(hl:L 10=cC)(h11:L 11=cA)(hp:V 10=gY p){gl fr:Value}(hA:ABq w nm bn m g gl fr (Off V L)):ACX W nm bn m g V (upd L 11) (BZ w p 0 (rsC gl fr)):=by
 obtain⟨p',e1,e2,e3,e4,-⟩:=h.vb hl;obtain rfl:p=p':=by rw[hp]at e1;simpa[gY]using e1
 have hsz:=DK (p:=p) (rsC gl fr) 0 w;have ho:Off V (upd L 11)=Off V L:=Off.upd (by rfl);have k:∀{gl1 fr1:Value},ABq w nm bn m g gl1 fr1 (Off V L)->ABq (BZ w p 0 (rsC gl fr)) nm bn m g gl1 fr1 (Off V (upd L 11)):=λh=>h.same (λb _ h2=>Bu (λe=>h2 hl (by rw[hp,e])) _ _ _) (Nat.le_of_eq hsz.symm) λb _ h2=>by rw[ho];exact h2
 refine⟨h.b.trans (Ay e2 _ 0 w),?_,?_,?_,?_,λ_=>⟨p,hp,e2,by rw[hsz];exact e3,(λe=>by rw[Cc]at e;cases e),λ_=>⟨_,_,CK (rsC gl fr) _ 0 w (e4 h11) rfl,k hA⟩⟩⟩
 ·rw[upd_ne (by rfl)];intro e;obtain⟨_,_,e1,e2⟩:=h.v6 e;exact⟨_,_,e1,k e2⟩
 ·rw[upd_ne (by rfl)];intro e;obtain⟨_,_,e1,e2⟩:=h.v7 e;exact⟨_,_,e1,k e2⟩
 ·rw[upd_ne (by rfl)];intro e;obtain⟨_,_,e1,e2⟩:=h.v8 e;exact⟨_,_,e1,k e2⟩
 ·rw[upd_ne (by rfl)];exact h.v9
def ACX.called(h:ACX W nm bn m g V L w)(hb:AA6 w w2){gl fr:Value}(ho:ABq w2 nm bn m g gl fr (λb=>w.heap.size<=b)):ACX W nm bn m g (EB V 6 (.tuple #[rsV gl fr,cE cC])) (upd L 6) w2:=by
 refine(h.kp hb).set _ (by rfl) (by rfl) (λ_=>⟨_,_,rfl,ho.same (λ_ _ _=>rfl) (AQ) λb _ h2=>?_⟩) (λe=>absurd e (by decide)) (λe=>absurd e (by decide)) (λe=>absurd e (by decide));intro hl e;obtain⟨p,e1,-,e3,-⟩:=h.vb hl;rw[e1]at e;injection e with e;injection e with e;injection e with e;omega
end
end Go.Proofs.YtlffomedflegdaaGreatDoor
