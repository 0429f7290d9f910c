/- Part 02 of the proof: Lie, Lig, Lii, See, Pg. -/
import Derived.Deep.Slices
import Derived.Deep.Fields
import Derived.Lib.SmallJoins
import Derived.WideShapes
import Derived.SizedLaws
import Derived.Test.YtlffomedflegdaaGreatDoorPd01
set_option linter.all false
set_option maxHeartbeats 16000000
set_option maxRecDepth 100000
namespace Go.Proofs.YtlffomedflegdaaGreatDoor
open Go.RowKit
open Go.Value renaming int→cI,string→cS,slice→cY,bool→cE
open Go.IntKind renaming i64→cJ
open Option renaming some→cP,none→cX
open Bool renaming false→cA,true→cC
variable {B B' g k n o sz:Nat}{e:TypeId}{w w':World}{xs:List Value}{α:Type}
section
inductive Dt where
 |cell (v:Value)
 |agg (l:List Dt)
 |row (e:TypeId) (s:Nat) (l:List Dt)
 |mp (m:Vm)
mutual
def Dt.wd:Dt->Nat
 |.cell _=>1
 |.agg l=>Dt.DF l
 |.row _ _ _=>1
 |.mp _=>1
def Dt.DF:List Dt->Nat
 | []=>0
 |d::r=>d.wd+Dt.DF r
end
mutual
def Af(w:World)(B:Nat):Dt->Nat->Nat->List Nat->Prop
 |.cell v,g,o,fp=>w.cell? ⟨g,o,cX⟩=cP v/\fp=[]/\v.oneCell'=cC
 |.agg l,g,o,fp=>AP w B l g o fp
 |.row e s l,g,o,fp=>(w.cell? ⟨g,o,cX⟩=cP (cY cX 0 0)/\l=[]/\fp=[])\/
  ∃g' cap cur f',w.cell? ⟨g,o,cX⟩=cP (cY (cP ⟨g',0,cX⟩) l.length cap)/\B<=g'/\w.heap[g']? =cP (.cells cur e (0,0))/\
   l.length<=cap/\cap<=maxLen/\cur.size=cap*s/\fp=g'::f'/\(∀d∈l,d.wd=s)/\AP w B l g' 0 f'
 |.mp m,g,o,fp=>∃b,w.cell? ⟨g,o,cX⟩=cP (.map (cP b))/\B<=b/\CQ w b m/\fp=[b]
def AP(w:World)(B:Nat):List Dt->Nat->Nat->List Nat->Prop
 | [],_,_,fp=>fp=[]
 |d::r,g,o,fp=>∃f1 f2,fp=f1++f2/\Af w B d g o f1/\AP w B r g (o+d.wd) f2
end
theorem BM{b:Nat}(h:w'.heap[b]? =w.heap[b]?)(o:Nat):w'.cell? ⟨b,o,cX⟩=w.cell? ⟨b,o,cX⟩:=World.cell?_of_block (w:=w) (w':=w') (a:=⟨b,o,cX⟩) h
section
variable {w w' : World} {B : Nat}
mutual
theorem Af.move:∀{d:Dt} {g o:Nat} {fp:List Nat} {g2 o2:Nat},Af w B d g o fp->(∀j,j<d.wd->w'.cell? ⟨g2,o2+j,cX⟩=w.cell? ⟨g,o+j,cX⟩)->(∀b,b∈fp->w'.heap[b]? =w.heap[b]?)->Af w' B d g2 o2 fp
 |.cell v,g,o,fp,g2,o2,h,hc,hf=>by
  unfold Af at h⊢;have:=hc 0 (by simp[Dt.wd])
  exact⟨this.trans h.1,h.2.1,h.2.2⟩
 |.agg l,g,o,fp,g2,o2,h,hc,hf=>by
  unfold Af at h⊢
  exact AP.move h (λj hj=>hc j (by simpa[Dt.wd]using hj)) hf
 |.row e s l,g,o,fp,g2,o2,h,hc,hf=>by
  unfold Af at h⊢;have h0:=hc 0 (by simp[Dt.wd]);simp only[Nat.add_zero]at h0;rcases h with⟨h1,h2,h3⟩|⟨g',cap,cur,f',h1,h2,h3,h4,h5,h6,h7,h8,h9⟩
  ·exact .inl ⟨h0.trans h1,h2,h3⟩
  ·have hg:=hf g' (by rw[h7];simp)
   exact .inr ⟨g',cap,cur,f',h0.trans h1,h2,hg.trans h3,h4,h5,h6,h7,h8,AP.move h9 (λj _=>BM hg _) (λb hb=>hf b (by rw[h7];simp[hb]))⟩
 |.mp m,g,o,fp,g2,o2,h,hc,hf=>by
  unfold Af at h⊢;obtain⟨b,h1,h2,h3,rfl⟩:=h;have:=hc 0 (by simp[Dt.wd]);exact⟨b,this.trans h1,h2,h3.other (hf b (by simp)),rfl⟩
theorem AP.move:∀{l:List Dt} {g o:Nat} {fp:List Nat} {g2 o2:Nat},AP w B l g o fp->(∀j,j<Dt.DF l->w'.cell? ⟨g2,o2+j,cX⟩=w.cell? ⟨g,o+j,cX⟩)->(∀b,b∈fp->w'.heap[b]? =w.heap[b]?)->AP w' B l g2 o2 fp
 | [],g,o,fp,g2,o2,h,hc,hf=>by
  unfold AP at h⊢
  exact h
 |d::r,g,o,fp,g2,o2,h,hc,hf=>by
  unfold AP at h⊢;obtain⟨f1,f2,rfl,h1,h2⟩:=h;refine⟨f1,f2,rfl,Af.move h1 (λj hj=>hc j (by simp only[Dt.DF];omega)) (λb hb=>hf b (by simp[hb])),AP.move h2 (λj hj=>?_) (λb hb=>hf b (by simp[hb]))⟩;have:=hc (d.wd+j) (by simp only[Dt.DF];omega);rw[<-Nat.add_assoc,<-Nat.add_assoc]at this;exact this
end
mutual
theorem Af.fp:∀{d:Dt} {g o:Nat} {fp:List Nat},Af w B d g o fp->∀b,b∈fp->B<=b/\b<w.heap.size
 |.cell v,g,o,fp,h,b,hb=>by
  unfold Af at h;rw[h.2.1]at hb
  cases hb
 |.agg l,g,o,fp,h,b,hb=>by
  unfold Af at h
  exact AP.fp h b hb
 |.row e s l,g,o,fp,h,b,hb=>by
  unfold Af at h;rcases h with⟨h1,h2,h3⟩|⟨g',cap,cur,f',h1,h2,h3,h4,h5,h6,h7,h8,h9⟩
  ·rw[h3]at hb;cases hb
  ·rw[h7]at hb;rcases List.mem_cons.1 hb with rfl|hb
   ·exact⟨h2,(Array.getElem?_eq_some_iff.1 h3).1⟩
   ·exact AP.fp h9 b hb
 |.mp m,g,o,fp,h,b,hb=>by
  unfold Af at h;obtain⟨b',h1,h2,h3,rfl⟩:=h;obtain rfl:b=b':=by simpa using hb
  exact⟨h2,h3.lt⟩
theorem AP.fp:∀{l:List Dt} {g o:Nat} {fp:List Nat},AP w B l g o fp->∀b,b∈fp->B<=b/\b<w.heap.size
 | [],g,o,fp,h,b,hb=>by
  unfold AP at h;rw[h]at hb
  cases hb
 |d::r,g,o,fp,h,b,hb=>by
  unfold AP at h;obtain⟨f1,f2,rfl,h1,h2⟩:=h;rcases List.mem_append.1 hb with hb|hb
  ·exact Af.fp h1 b hb
  ·exact AP.fp h2 b hb
end
theorem AP.app:∀{l r:List Dt} {g o:Nat} {fp:List Nat},AP w B (l++r) g o fp↔∃f1 f2,fp=f1++f2/\AP w B l g o f1/\AP w B r g (o+Dt.DF l) f2
 | [],r,g,o,fp=>by
  simp only[List.nil_append,Dt.DF,Nat.add_zero];constructor
  ·intro h;exact⟨[],fp,rfl,by unfold AP;rfl,h⟩
  ·rintro⟨f1,f2,rfl,h1,h2⟩;unfold AP at h1;subst h1
   exact h2
 |d::l,r,g,o,fp=>by
  simp only[List.cons_append,Dt.DF];constructor
  ·intro h;unfold AP at h;obtain⟨f1,f2,rfl,h1,h2⟩:=h;obtain⟨f3,f4,rfl,h3,h4⟩:=AP.app.1 h2;rw[<-Nat.add_assoc];refine⟨f1++f3,f4,by simp,?_,h4⟩;unfold AP;exact⟨f1,f3,rfl,h1,h3⟩
  ·rintro⟨f1,f2,rfl,h1,h2⟩;unfold AP at h1;obtain⟨f3,f4,rfl,h3,h4⟩:=h1;unfold AP;exact⟨f3,f4++f2,by simp,h3,AP.app.2 ⟨f4,f2,rfl,h4,by rwa[Nat.add_assoc]⟩⟩
end
def BS(w w':World)(g o n:Nat):Prop:=
 ∃cur cur' t m,w.heap[g]? =cP (.cells cur t m)/\w'.heap[g]? =cP (.cells cur' t m)/\cur'.size=cur.size/\∀j,(j<o\/o+n<=j)->cur'[j]? =cur[j]?
theorem BS.of_eq{v:Value}(hc:w.cell? ⟨g,k,cX⟩=cP v)(h:w'.heap[g]? =w.heap[g]?):BS w w' g o n:=by
 unfold World.cell? at hc;dsimp only at hc
 cases hg:w.heap[g]? with
 |none=>rw[hg]at hc;simp at hc
 |some ob=>
  rw[hg]at hc
  cases ob with
  |cells cur t m=>exact⟨cur,cur,t,m,hg,h.trans hg,rfl,λ_ _=>rfl⟩
  |_=>simp at hc
theorem NT{cur:Array Value}{t:TypeId}{m:Nat×Nat}(h:w.heap[g]? =cP (.cells cur t m))(j:Nat):w.cell? ⟨g,j,cX⟩=cur[j]? :=by
 unfold World.cell?;grind
theorem BS.cell(h:BS w w' g o n){j:Nat}(hj:j<o\/o+n<=j):w'.cell? ⟨g,j,cX⟩=w.cell? ⟨g,j,cX⟩:=by
 obtain⟨cur,cur',t,m,h1,h2,h3,h4⟩:=h;grind [NT]
theorem BS.mono{o' n':Nat}(h:BS w w' g o n)(h1:o'<=o)(h2:o+n<=o'+n'):BS w w' g o' n':=by grind [BS]
theorem BS.trans{w2:World}(h:BS w w' g o n)(k:BS w' w2 g o n):BS w w2 g o n:=by grind [BS]
theorem BS.set{v:Value}{i:Nat}(hc:w.cell? ⟨g,i,cX⟩=cP v)(u:Value)(h1:o<=k)(h2:k<o+n):BS w (w.setCell ⟨g,k,cX⟩ u) g o n:=by
 obtain⟨cur,_,t,m,h,_,_,_⟩:=BS.of_eq (o:=0) (n:=0) hc (rfl:w.heap[g]? =w.heap[g]?);refine⟨cur,cur.setIfInBounds k u,t,m,h,?_,by simp,λj hj=>?_⟩
 ·unfold World.setCell;simp only[Array.getElem?_modify,if_true,h,Option.map_some];rfl
 grind
structure Hole(w:World)(B:Nat)(d:Dt)(g o:Nat)(fp:List Nat)(d0:Dt)(g0 o0:Nat)(Fj:List Nat)(F:Dt->Dt):Prop where
 lies:Af w B d0 g0 o0 Fj
 sub:∀b,b∈Fj->b∈fp
 at':g0=g\/g0∈fp
 nd:(g0::Fj).Nodup
 fill:∀w' Io d1,d1.wd=d0.wd->(∀b,b=g\/b∈fp->b≠g0->b∉Fj->w'.heap[b]? =w.heap[b]?)->BS w w' g0 o0 d0.wd->Af w' B d1 g0 o0 Io->
  (∀b,b∈Io->b∈Fj\/(b≠g/\b∉fp))->(g0::Io).Nodup->
  ∃fp',Af w' B (F d1) g o fp'/\(g::fp').Nodup/\(∀b,b∈fp'->b∈fp\/b∈Io)/\BS w w' g o d.wd/\(F d1).wd=d.wd
theorem Hole.whole{d:Dt}{fp:List Nat}(h:Af w B d g o fp)(hn:(g::fp).Nodup):Hole w B d g o fp d g o fp id where
 lies:=h
 sub:=λ_ h=>h
 at':=.inl rfl
 nd:=hn
 fill:=λ_ Io _ h1 _ h3 h4 _ h6=>⟨Io,h4,h6,λ_ hb=> .inr hb,h3,h1⟩
theorem Hole.trans{d d0 d1:Dt}{g0 o0 g1 o1:Nat}{fp Fj Io:List Nat}{F G:Dt->Dt}(h:Hole w B d g o fp d0 g0 o0 Fj F)(k:Hole w B d0 g0 o0 Fj d1 g1 o1 Io G):Hole w B d g o fp d1 g1 o1 Io (λx=>F (G x)) where
 lies:=k.lies
 sub:=λb hb=>h.sub b (k.sub b hb)
 at':=by
  rcases k.at' with e|e
  ·rw[e];exact h.at'
  ·exact .inr (h.sub _ e)
 nd:=k.nd
 fill:=λw' f1 x h1 h2 h3 h4 h5 h6=>by
  have hg0:g0=g\/g0∈fp:=h.at'
  obtain⟨f',a1,a2,a3,a4,a5⟩:=k.fill w' f1 x h1 (λb hb=>h2 b (by
   rcases hb with rfl|hb
   ·exact hg0
   ·exact .inr (h.sub b hb))) h3 h4 (λb hb=>by
   rcases h5 b hb with h|⟨h7,h8⟩
   ·exact .inl h
   ·refine .inr ⟨λe=>?_,λe=>h8 (h.sub b e)⟩;subst e;rcases hg0 with e|e
    ·exact h7 e
    ·exact h8 e) h6
  obtain⟨f2,b1,b2,b3,b4,b5⟩:=h.fill w' f' (G x) a5 (λb hb e1 e2=>h2 b hb (by
   rintro rfl;rcases k.at' with e|e
   ·exact e1 e
   ·exact e2 e) (λe=>e2 (k.sub b e))) a4 a1 (λb hb=>by
   rcases a3 b hb with h|h
   ·exact .inl h
   ·rcases h5 b h with h|h
    ·exact .inl (k.sub b h)
    ·exact .inr h) a2
  refine⟨f2,b1,b2,λb hb=>?_,b4,b5⟩;rcases b3 b hb with h9|h9
  ·exact .inl h9
  ·rcases a3 b h9 with h10|h10
   ·exact .inl (h.sub b h10)
   ·exact .inr h10
def AZ(w:World)(B:Nat)(e:TypeId)(s:Nat)(l:List Dt)(v:Value)(fp:List Nat):Prop:=(v=cY cX 0 0/\l=[]/\fp=[])\/
 ∃g' cap cur f',v=cY (cP ⟨g',0,cX⟩) l.length cap/\B<=g'/\w.heap[g']? =cP (.cells cur e (0,0))/\
  l.length<=cap/\cap<=maxLen/\cur.size=cap*s/\fp=g'::f'/\(∀d∈l,d.wd=s)/\AP w B l g' 0 f'
section
variable {w w' : World} {B g o s : Nat} {e : TypeId} {l : List Dt} {F : List Nat} {v : Value}
def Af.row(h:Af w B (.row e s l) g o F):∃v,w.cell? ⟨g,o,cX⟩=cP v/\AZ w B e s l v F:=by
 unfold Af at h;rcases h with⟨h1,h2,h3⟩|⟨g',cap,cur,f',h1,h2⟩
 ·exact⟨_,h1,.inl ⟨rfl,h2,h3⟩⟩
 ·exact⟨_,h1,.inr ⟨g',cap,cur,f',rfl,h2⟩⟩
def AZ.lies(h:AZ w B e s l v F)(hc:w.cell? ⟨g,o,cX⟩=cP v):Af w B (.row e s l) g o F:=by simp_all[AZ,cX,Af]
def AZ.nil:AZ w B e s [] (cY cX 0 0) []:=.inl ⟨rfl,rfl,rfl⟩
theorem AZ.same(h:AZ w B e s l v F)(hf:∀b,b∈F->w'.heap[b]? =w.heap[b]?):AZ w' B e s l v F:=by
 rcases h with h|⟨g',cap,cur,f',rfl,h2,h3,h4,h5,h6,rfl,h8,h9⟩
 ·exact .inl h
 ·exact .inr ⟨g',cap,cur,f',rfl,h2,(hf g' (by simp)).trans h3,h4,h5,h6,rfl,h8,h9.move (λj _=>BM (hf g' (by simp)) _) (λb hb=>hf b (by simp[hb]))⟩
theorem AZ.fp(h:AZ w B e s l v F):∀b,b∈F->B<=b/\b<w.heap.size:=by
 intro b hb;rcases h with⟨_,_,rfl⟩|⟨g',cap,cur,f',rfl,h2,h3,h4,h5,h6,rfl,h8,h9⟩
 ·cases hb
 ·rcases List.mem_cons.1 hb with rfl|hb
  ·exact⟨h2,(Array.getElem?_eq_some_iff.1 h3).1⟩
  ·exact h9.fp b hb
theorem AZ.slice(h:AZ w B e s l v F):∃p c,v=cY p l.length c:=by
 rcases h with⟨rfl,rfl,_⟩|⟨g',cap,cur,f',rfl,_⟩
 ·exact⟨cX,0,rfl⟩
 grind
def AZ.own(h:AZ w B e s l v F):∀k,v.ownBlock=cP k->k∈F:=by
 intro k hk;rcases h with⟨rfl,rfl,_⟩|⟨g',cap,cur,f',rfl,h2,h3,h4,h5,h6,rfl,_⟩
 ·simp[Value.ownBlock]at hk
 ·simp[Value.ownBlock]at hk;simp[hk]
end
theorem HZ{s:Nat}:∀{l:List Dt},(∀d∈l,d.wd=s)->Dt.DF l=l.length*s
 | [],_=>by simp[Dt.DF]
 |d::r,h=>by
  simp only[Dt.DF,List.length_cons];rw[h d (by simp),HZ (λd hd=>h d (by simp[hd])),Nat.add_mul,Nat.one_mul,Nat.add_comm]
theorem Va{l r:List Dt}:Dt.DF (l++r)=Dt.DF l+Dt.DF r:=by
 induction l with
 |nil=>simp[Dt.DF]
 |cons d l ih=>simp only[List.cons_append,Dt.DF,ih,Nat.add_assoc]
mutual
theorem Af.cells:∀{d:Dt} {g o:Nat} {fp:List Nat},Af w B d g o fp->∀j,j<d.wd->∃v,w.cell? ⟨g,o+j,cX⟩=cP v/\v.oneCell'=cC
 |.cell v,g,o,fp,h,j,hj=>by
  unfold Af at h;have:j=0:=by simpa[Dt.wd]using hj
  subst this
  exact⟨v,h.1,h.2.2⟩
 |.agg l,g,o,fp,h,j,hj=>by
  unfold Af at h
  exact AP.cells h j (by simpa[Dt.wd]using hj)
 |.row e s l,g,o,fp,h,j,hj=>by
  obtain⟨v,hc,hv⟩:=h.row;have:j=0:=by simpa[Dt.wd]using hj
  subst this;obtain⟨p,c,rfl⟩:=hv.slice
  exact⟨_,hc,rfl⟩
 |.mp m,g,o,fp,h,j,hj=>by
  unfold Af at h;obtain⟨b,h1,_⟩:=h;have:j=0:=by simpa[Dt.wd]using hj
  subst this;exact⟨_,h1,rfl⟩
theorem AP.cells:∀{l:List Dt} {g o:Nat} {fp:List Nat},AP w B l g o fp->∀j,j<Dt.DF l->∃v,w.cell? ⟨g,o+j,cX⟩=cP v/\v.oneCell'=cC
 | [],g,o,fp,h,j,hj=>by simp[Dt.DF]at hj
 |d::r,g,o,fp,h,j,hj=>by
  unfold AP at h;obtain⟨f1,f2,rfl,h1,h2⟩:=h;simp only[Dt.DF]at hj;by_cases hd:j<d.wd
  ·exact Af.cells h1 j hd
  ·obtain⟨v,hc,h1⟩:=AP.cells h2 (j-d.wd) (by omega);rw[show o+d.wd+(j-d.wd)=o+j by omega]at hc;exact⟨v,hc,h1⟩
end
theorem run_append_own'{P:Program}(base:Nat)(t ty e:TypeId)(i:TypeInfo)(z:Value)(size bytes:Nat)(ht:P.underlying t=cP (.slice e))(hi:P.info? e=cP i)(hz:i.zero=cP z)(hsize:i.size=size) (hby:i.bytes=bytes) (hzs:z.cells.size=size) (hsz:0<size)(v:Value) (n:Nat) (xs:List Value) (hown:w.ownsRow base e size v n xs)(a:Addr) (m c:Nat) (news:List Value) (hl:news.length=m*size) (hnews:∀j u,news[j]? =cP u->w.cell? (a.add j)=cP u) (h1:∀u∈news,u.oneCell'=cC)(h63:n+m<=maxLen) (hbytes:(n+m)*bytes<=140737488355328) (hbase:base<=w.heap.size):∃v' w',(Builtin.append_ #[t,t] ty #[v,cY (cP a) m c]).run P w=.ok v' w'/\w'.ownsRow base e size v' (n+m) (xs++news)/\w.grownBy w' v.ownBlock/\(∀k,v'.ownBlock=cP k->v.ownBlock=cP k\/w.heap.size<=k):=by
 obtain⟨v',w',hr,ho,hg,_⟩:=run_append_own (P:=P) w base t ty e i z size bytes ht hi hz hsize hby hzs hsz v n xs hown a m c news hl hnews h1 h63 hbytes hbase;refine⟨v',w',hr,ho,hg,?_⟩;rcases hown.2 with⟨rfl,rfl⟩|⟨g,cap,cur,rfl,hbg,hgg,hnc,hcm,hcs,htake⟩
 ·have hx:xs=[]:=List.eq_nil_of_length_eq_zero (by simpa using hown.1);subst hx;obtain⟨v2,w2,hr2,ho2,_,_⟩:=run_append_own (P:=P) w w.heap.size t ty e i z size bytes ht hi hz hsize hby hzs hsz _ 0 [] (World.ownsRow_nil w _ e size) a m c news hl hnews h1 h63 hbytes (AQ);rw[hr]at hr2;obtain⟨rfl,rfl⟩:v'=v2/\w'=w2:=by simpa using hr2
  exact λk hk=> .inr (ho2.lt k hk).1
 ·subst hsize;subst hby;by_cases hroom:n+m<=cap
  ·have hfit:n*i.size+news.length<=cur.size:=(by rw[hl,hcs,<-Nat.add_mul];exact Nat.mul_le_mul_right _ hroom);have hr2:=run_append_room (P:=P) w t ty e i ht hi g n cap cur hgg a m c news hl hnews h1 hroom hfit;rw[hr]at hr2;obtain⟨rfl,-⟩:v'=_/\_:=(by simpa using hr2);exact λk hk=> .inl hk
  ·have holds:∀j u,xs[j]? =cP u->w.cell? ((⟨g,0,cX⟩:Addr).add j)=cP u:=hown.cells (g:=g) rfl;have hr2:=run_append_grow (P:=P) w t ty e i z ht hi hz ⟨g,0,cX⟩ n cap xs hown.1 holds a m c news hl hnews (by omega) (by simp only[maxLen]at h63;omega) (growslice_fits (by omega) hbytes);rw[hr]at hr2;obtain⟨rfl,-⟩:v'=_/\_:=(by simpa using hr2);exact λk hk=> .inr (by simp[Value.ownBlock]at hk;omega)
end
theorem BN{l:List Nat}:(g::l).Nodup↔g∉l/\l.Nodup:=List.nodup_cons
theorem GL{a b:List Nat}:(a++b).Nodup↔a.Nodup/\b.Nodup/\∀x,x∈a->x∉b:=by grind
theorem eU{l1 l2:List Dt}{d0:Dt}{fp:List Nat}(h:Af w B (.agg (l1++d0::l2)) g o fp)(hn:(g::fp).Nodup):∃Fj,Hole w B (.agg (l1++d0::l2)) g o fp d0 g (o+Dt.DF l1) Fj (λx=> .agg (l1++x::l2)):=by
 unfold Af at h;obtain⟨f1,f2',rfl,h1,h2⟩:=AP.app.1 h;unfold AP at h2;obtain⟨f0,f2,rfl,h3,h4⟩:=h2;rw[BN,GL,GL]at hn;simp only[List.mem_append,not_or]at hn;obtain⟨⟨hg1,hg0,hg2⟩,n1,⟨n0,n2,wB⟩,n1'⟩:=hn;refine⟨f0,h3,λb hb=>by simp[hb],.inl rfl,BN.2 ⟨hg0,n0⟩,λw' Io d1 hd hk hs hl hf hn'=>?_⟩;rw[BN]at hn';have hl1:AP w' B l1 g o f1:=h1.move (λj hj=>hs.cell (by omega)) (λb hb=>hk b (.inr (by simp[hb])) (λe=>hg1 (e▸hb)) (n1' b hb).1);have hl2:AP w' B l2 g (o+Dt.DF l1+d1.wd) f2:=by
  rw[hd];exact h4.move (λj hj=>hs.cell (by omega)) (λb hb=>hk b (.inr (by simp[hb])) (λe=>hg2 (e▸hb)) (λe=>wB b e hb))
 have hx:∀b,b∈Io->b∉f1/\b∉f2/\b≠g:=λb hb=>by
  rcases hf b hb with h|⟨h5,h6⟩
  ·exact⟨λe=>(n1' b e).1 h,wB b h,λe=>hg0 (e▸h)⟩
  ·simp only[List.mem_append,not_or]at h6;exact⟨h6.1,h6.2.2,h5⟩
 refine⟨f1++(Io++f2),?_,?_,λb hb=>?_,?_,?_⟩
 ·unfold Af;refine AP.app.2 ⟨f1,_,rfl,hl1,?_⟩;unfold AP;exact⟨Io,f2,rfl,hl,hl2⟩
 ·rw[BN,GL,GL];simp only[List.mem_append,not_or];exact⟨⟨hg1,hn'.1,hg2⟩,n1,⟨hn'.2,n2,λx h=>(hx x h).2.1⟩,λx h=>⟨λe=>(hx x e).1 h,(n1' x h).2⟩⟩
 ·simp only[List.mem_append]at hb⊢;rcases hb with h|h|h
  ·exact .inl (.inl h)
  ·exact .inr h
  ·exact .inl (.inr (.inr h))
 ·exact hs.mono (by omega) (by simp only[Dt.wd,Va,Dt.DF];omega)
 ·simp only[Dt.wd,Va,Dt.DF,hd]
theorem eT{s:Nat}{l1 l2:List Dt}{d0:Dt}{fp:List Nat}(h:Af w B (.row e s (l1++d0::l2)) g o fp)(hn:(g::fp).Nodup):∃g' cap Fj,w.cell? ⟨g,o,cX⟩=cP (cY (cP ⟨g',0,cX⟩) (l1.length+1+l2.length) cap)/\g'∈fp/\d0.wd=s/\(∀q,w.frozen? ⟨g',q,cX⟩=cA)/\Hole w B (.row e s (l1++d0::l2)) g o fp d0 g' (l1.length*s) Fj (λx=> .row e s (l1++x::l2)):=by
 obtain⟨v,hc,hv⟩:=h.row;rcases hv with⟨rfl,h2,_⟩|⟨g',cap,cur,f',rfl,h2,h3,h4,h5,h6,rfl,h8,h9⟩
 ·simp at h2
 obtain⟨f1,f2',rfl,h10,h11⟩:=AP.app.1 h9;unfold AP at h11;obtain⟨f0,f2,rfl,h12,h13⟩:=h11;have hw1:Dt.DF l1=l1.length*s:=HZ λd hd=>h8 d (by simp[hd]);have hw0:d0.wd=s:=h8 d0 (by simp);rw[hw1,Nat.zero_add]at h12 h13;simp only[BN,GL,List.mem_append,List.mem_cons,not_or]at hn;obtain⟨⟨hgg,hg1,hg0,hg2⟩,⟨nE,hh0,hh2⟩,n1,⟨n0,n2,wB⟩,n1'⟩:=hn;have hlen:(l1++d0::l2).length=l1.length+1+l2.length:=by simp;omega
 rw[hlen]at hc;refine⟨g',cap,f0,hc,by simp,hw0,λq=>by unfold World.frozen?;dsimp only;rw[h3];rfl,h12,λb hb=>by simp[hb],.inr (by simp),BN.2 ⟨hh0,n0⟩,λw' Io d1 hd hk hs hl hf hn'=>?_⟩;rw[BN]at hn';have hgw:w'.heap[g]? =w.heap[g]? :=hk g (.inl rfl) hgg hg0;have hl1:AP w' B l1 g' 0 f1:=h10.move (λj hj=>hs.cell (by omega)) (λb hb=>hk b (.inr (by simp[hb])) (λe=>nE (e▸hb)) (n1' b hb).1);have hl2:AP w' B l2 g' (l1.length*s+d1.wd) f2:=by
  rw[hd];exact h13.move (λj hj=>hs.cell (by omega)) (λb hb=>hk b (.inr (by simp[hb])) (λe=>hh2 (e▸hb)) (λe=>wB b e hb))
 have hx:∀b,b∈Io->b∉f1/\b∉f2/\b≠g/\b≠g':=λb hb=>by
  rcases hf b hb with h|⟨h5,h6⟩
  ·exact⟨λe=>(n1' b e).1 h,wB b h,λe=>hg0 (e▸h),λe=>hh0 (e▸h)⟩
  ·simp only[List.mem_append,List.mem_cons,not_or]at h6;exact⟨h6.2.1,h6.2.2.2,h5,h6.1⟩
 obtain⟨c0,c1,t,m,a1,a2,a3,a4⟩:=id hs;rw[h3]at a1;obtain⟨rfl,rfl,rfl⟩:cur=c0/\e=t/\(0,0)=m:=by simpa using a1
 refine⟨g'::(f1++(Io++f2)),?_,?_,λb hb=>?_,?_,by simp[Dt.wd]⟩
 ·refine AZ.lies (v:=cY (cP ⟨g',0,cX⟩) (l1.length+1+l2.length) cap) (.inr ⟨g',cap,c1,_,?_,h2,a2,?_,h5,a3.trans h6,rfl,?_,?_⟩) ((BM hgw o).trans hc)
  ·rw[show(l1++d1::l2).length=l1.length+1+l2.length by simp;omega]
  ·rw[show(l1++d1::l2).length=l1.length+1+l2.length by simp;omega,<-hlen];exact h4
  ·intro d hd';rcases List.mem_append.1 hd' with h|h
   ·exact h8 d (by simp[h])
   ·rcases List.mem_cons.1 h with rfl|h
    ·rw[hd,hw0]
    ·exact h8 d (by simp[h])
  ·refine AP.app.2 ⟨f1,_,rfl,hl1,?_⟩;unfold AP;rw[hw1,Nat.zero_add];exact⟨Io,f2,rfl,hl,hl2⟩
 ·simp only[BN,GL,List.mem_append,List.mem_cons,not_or];exact⟨⟨hgg,hg1,λe=>(hx g e).2.2.1 rfl,hg2⟩,⟨nE,hn'.1,hh2⟩,n1,⟨hn'.2,n2,λx h=>(hx x h).2.1⟩,λx h=>⟨λe=>(hx x e).1 h,(n1' x h).2⟩⟩
 ·simp only[List.mem_append,List.mem_cons]at hb⊢;rcases hb with h|h|h|h
  ·exact .inl (.inl h)
  ·exact .inl (.inr (.inl h))
  ·exact .inr h
  ·exact .inl (.inr (.inr (.inr h)))
 ·exact BS.of_eq hc hgw
def AZ.owns{s:Nat}{l:List Dt}{v:Value}{fp:List Nat}(h:AZ w B e s l v fp):∃xs,w.ownsRow B e s v l.length xs:=by
 rcases h with⟨rfl,rfl,_⟩|⟨g',cap,cur,f',rfl,h2,h3,h4,h5,h6,_⟩
 ·exact⟨[],World.ownsRow_nil _ _ _ _⟩
 ·refine⟨cur.toList.take (l.length*s),?_,.inr ⟨g',cap,cur,rfl,h2,h3,h4,h5,h6,rfl⟩⟩;have hc:cur.toList.length=cap*s:=by simpa using h6
  rw[List.length_take,hc,Nat.min_eq_left (Nat.mul_le_mul_right s h4)]
theorem Ep{s:Nat}{c:Nat}(h:w.ownsRow B e s (cY (cP ⟨g,0,cX⟩) n c) n xs){j:Nat}(hj:j<n*s):w.cell? ⟨g,j,cX⟩=xs[j]? :=h.cellAt j hj
theorem AZ.push{w1:World}{s:Nat}{l r:List Dt}{v v':Value}{fp fd:List Nat}{ga oa:Nat}{news:List Value}(h:AZ w B e s l v fp)(hx:w.ownsRow B e s v l.length xs)(hr:AP w B r ga oa fd) (hs:∀d∈r,d.wd=s) (hr0:0<r.length) (hl:news.length=r.length*s) (hnews:∀j,j<r.length*s->w.cell? ⟨ga,oa+j,cX⟩=news[j]?)(ho:w1.ownsRow B e s v' (l.length+r.length) (xs++news)) (hg:w.grownBy w1 v.ownBlock) (hf:∀k,v'.ownBlock=cP k->v.ownBlock=cP k\/w.heap.size<=k)(hn:fp.Nodup) (hn':fd.Nodup) (hd:∀b,b∈fd->b∉fp):∃fp',AZ w1 B e s (l++r) v' fp'/\fp'.Nodup/\∀b,b∈fp'->b∈fp\/b∈fd\/w.heap.size<=b:=by
 have hov:=h.own;have old:∀b,b∈fd->w1.heap[b]? =w.heap[b]? :=λb hb=>hg.block b (hr.fp b hb).2 (λe=>hd b hb (hov b e.symm));have hwr:Dt.DF r=r.length*s:=HZ hs;rcases ho.2 with⟨_,h1⟩|⟨g2,cap2,jP,rfl,k1,k2,k3,k4,k5,k6⟩
 ·omega
 have hat:∀j,j<(l.length+r.length)*s->w1.cell? ⟨g2,j,cX⟩=(xs++news)[j]? :=λj hj=>Ep ho hj
 have hnew:AP w1 B r g2 (l.length*s) fd:=hr.move (λj hj=>by
  rw[hwr]at hj
  rw[hat _ (by rw[Nat.add_mul];omega),List.getElem?_append_right (by rw[hx.1];omega),hx.1,Nat.add_sub_cancel_left,hnews j hj]) old
 have hbig:∀b,b∈fd->b≠g2:=λb hb e=>by
  subst e;rcases hf b rfl with h|h
  ·exact hd b hb (hov b h)
  ·have:=(hr.fp b hb).2;omega
 rcases h with⟨rfl,rfl,rfl⟩|⟨g',cap,cur,f',rfl,h2,h3,h4,h5,h6,rfl,h8,h9⟩
 ·refine⟨g2::fd,.inr ⟨g2,cap2,jP,fd,by simp,k1,k2,by simpa using k3,k4,k5,rfl,by simpa using hs,by simpa using hnew⟩,BN.2 ⟨λe=>hbig _ e rfl,hn'⟩,λb hb=>?_⟩;rcases List.mem_cons.1 hb with rfl|hb
  ·rcases hf b rfl with h|h
   ·simp[Value.ownBlock]at h
   ·exact .inr (.inr h)
  ·exact .inr (.inl hb)
 ·rw[BN]at hn;have hw1:Dt.DF l=l.length*s:=HZ h8
  have keep:∀b,b∈f'->w1.heap[b]? =w.heap[b]? :=λb hb=>hg.block b (h9.fp b hb).2 (λe=>by
   have:b=g':=(by simpa[Value.ownBlock]using e);subst this
   exact hn.1 hb)
  have hold:AP w1 B l g2 0 f':=h9.move (λj hj=>by
   rw[hw1]at hj;rw[Nat.zero_add,hat j (by rw[Nat.add_mul];omega),List.getElem?_append_left (by rw[hx.1];omega)]
   exact(Ep hx hj).symm) keep
  have hg2:g2∉f':=λe=>by
   rcases hf g2 rfl with h|h
   ·have:g'=g2:=(by simpa[Value.ownBlock]using h);subst this;exact hn.1 e
   ·have:=(h9.fp g2 e).2;omega
  refine⟨g2::(f'++fd),.inr ⟨g2,cap2,jP,f'++fd,by simp,k1,k2,by simpa using k3,k4,k5,rfl,?_,AP.app.2 ⟨f',fd,rfl,hold,by rw[hw1,Nat.zero_add];exact hnew⟩⟩,?_,λb hb=>?_⟩
  ·intro d hd';rcases List.mem_append.1 hd' with h|h
   ·exact h8 d h
   ·exact hs d h
  ·simp only[BN,GL,List.mem_append,not_or];exact⟨⟨hg2,λe=>hbig _ e rfl⟩,hn.2,hn',λx hx hy=>hd x hy (by simp[hx])⟩
  ·rcases List.mem_cons.1 hb with rfl|hb
   ·rcases hf b rfl with h|h
    ·have:g'=b:=(by simpa[Value.ownBlock]using h);subst this;exact .inl (by simp)
    ·exact .inr (.inr h)
   ·rcases List.mem_append.1 hb with hb|hb
    ·exact .inl (by simp[hb])
    ·exact .inr (.inl hb)
section
structure Own(w:World)(B N:Nat)(d:Dt)(g o:Nat):Prop where
 ge:B<=g
 lt:g<N
 sz:N<=w.heap.size
 t:∃fp,Af w B d g o fp/\(g::fp).Nodup/\∀b∈fp,b<N
structure Aq(w:World)(B N:Nat)(d:Dt)(g o:Nat)(d0:Dt)(g0 o0:Nat)(F:Dt->Dt):Prop where
 ge:B<=g
 lt:g<N
 sz:N<=w.heap.size
 h:∃fp Fj,Af w B d g o fp/\(∀b∈fp,b<N)/\Hole w B d g o fp d0 g0 o0 Fj F
section
variable {w w1 w2 : World} {B N g o : Nat} {d : Dt}
theorem Af.far{fp:List Nat}(h:Af w B d g o fp)(he:∀b,b=g\/b∈fp->w1.heap[b]? =w.heap[b]?):Af w1 B d g o fp:=
 h.move (λ_ _=>BM (he g (.inl rfl)) _) (λb hb=>he b (.inr hb))
mutual
theorem Af.mono(hB:B<=B'):∀{d:Dt} {g o:Nat} {fp:List Nat},Af w B' d g o fp->Af w B d g o fp
 |.cell v,g,o,fp,h=>by unfold Af at h⊢;exact h
 |.agg l,g,o,fp,h=>by unfold Af at h⊢;exact AP.mono hB h
 |.row e s l,g,o,fp,h=>by
  unfold Af at h⊢;rcases h with h|⟨g',cap,cur,f',h1,h2,h3,h4,h5,h6,h7,h8,h9⟩
  ·exact .inl h
  ·exact .inr ⟨g',cap,cur,f',h1,AX hB h2,h3,h4,h5,h6,h7,h8,AP.mono hB h9⟩
 |.mp m,g,o,fp,h=>by
  unfold Af at h⊢;obtain⟨b,h1,h2,h3,h4⟩:=h;exact⟨b,h1,AX hB h2,h3,h4⟩
theorem AP.mono(hB:B<=B'):∀{l:List Dt} {g o:Nat} {fp:List Nat},AP w B' l g o fp->AP w B l g o fp
 | [],g,o,fp,h=>by unfold AP at h⊢;exact h
 |d::r,g,o,fp,h=>by
  unfold AP at h⊢;obtain⟨f1,f2,h1,h2,h3⟩:=h;exact⟨f1,f2,h1,Af.mono hB h2,AP.mono hB h3⟩
end
def AZ.mono{s:Nat}{l:List Dt}{v:Value}{F:List Nat}(hB:B<=B')(h:AZ w B' e s l v F):AZ w B e s l v F:=by
 rcases h with h|⟨g',cap,cur,f',h1,h2,h3,h4,h5,h6,h7,h8,h9⟩
 ·exact .inl h
 ·exact .inr ⟨g',cap,cur,f',h1,AX hB h2,h3,h4,h5,h6,h7,h8,h9.mono hB⟩
def Own.kp(h:Own w B N d g o)(hb:Below N w w1):Own w1 B N d g o:=by
 obtain⟨h1,h2,h2',fp,h3,h4,h5⟩:=h
 exact⟨h1,h2,AX h2' hb.size,fp,h3.far (λb hb'=>hb.block b (by
  rcases hb' with rfl|hb'
  ·exact h2
  ·exact h5 b hb')),h4,h5⟩
theorem Own.up(h:Own w B N d g o){N':Nat}(hN:N<=N')(hs:N'<=w.heap.size):Own w B N' d g o:=by
 obtain⟨h1,h2,_,fp,h3,h4,h5⟩:=h;exact⟨h1,A9 h2 hN,hs,fp,h3,h4,λb hb=>A9 (h5 b hb) hN⟩
def Own.spot(h:Own w B N d g o):Aq w B N d g o d g o id:=by
 obtain⟨h1,h2,h2',fp,h3,h4,h5⟩:=h;exact⟨h1,h2,h2',fp,fp,h3,h5,Hole.whole h3 h4⟩
variable {d0 : Dt} {g0 o0 : Nat} {F : Dt -> Dt}
def Aq.agg{l1 l2:List Dt}{x:Dt}(h:Aq w B N d g o (.agg (l1++x::l2)) g0 o0 F):Aq w B N d g o x g0 (o0+Dt.DF l1) (λy=>F (.agg (l1++y::l2))):=by
 obtain⟨h1,h2,h2',fp,Fj,h3,h3',h4⟩:=h;obtain⟨Io,h5⟩:=eU h4.lies h4.nd;exact⟨h1,h2,h2',fp,Io,h3,h3',h4.trans h5⟩
theorem Aq.nth{l:List Dt}{x:Dt}(h:Aq w B N d g o (.agg l) g0 o0 F)(i:Nat)(hi:l[i]? =cP x)(hn:Dt.DF (l.take i)=n):Aq w B N d g o x g0 (o0+n) (λy=>F (.agg (l.set i y))):=by
 obtain⟨hlt,hx⟩:=List.getElem?_eq_some_iff.1 hi;have e:l=l.take i++x::l.drop (i+1):=by
  rw[<-hx,<-List.drop_eq_getElem_cons hlt,List.take_append_drop]
 have e2:∀y,l.set i y=l.take i++y::l.drop (i+1):=λy=>List.set_eq_take_append_cons_drop▸by rw[if_pos hlt]
 rw[e]at h;have h2:=h.agg;grind
def Aq.row{s:Nat}{l1 l2:List Dt}{x:Dt}(h:Aq w B N d g o (.row e s (l1++x::l2)) g0 o0 F):∃g' cap,w.cell? ⟨g0,o0,cX⟩=cP (cY (cP ⟨g',0,cX⟩) (l1.length+1+l2.length) cap)/\(∀q,w.frozen? ⟨g',q,cX⟩=cA)/\x.wd=s/\Aq w B N d g o x g' (l1.length*s) (λy=>F (.row e s (l1++y::l2))):=by
 obtain⟨h1,h2,h2',fp,Fj,h3,h3',h4⟩:=h;obtain⟨g',cap,Io,h5,_,h6,h7,h8⟩:=eT h4.lies h4.nd;exact⟨g',cap,h5,h7,h6,h1,h2,h2',fp,Io,h3,h3',h4.trans h8⟩
theorem Aq.at(h:Aq w B N d g o d0 g0 o0 F):B<=g0/\g0<N/\∃Fj,Af w B d0 g0 o0 Fj:=by
 obtain⟨h1,h2,h2',fp,Fj,h3,h3',h4⟩:=h;rcases h4.at' with rfl|e
 ·exact⟨h1,h2,Fj,h4.lies⟩
 ·exact⟨(h3.fp _ e).1,h3' _ e,Fj,h4.lies⟩
def Aq.cell{v:Value}(h:Aq w B N d g o (.cell v) g0 o0 F):w.cell? ⟨g0,o0,cX⟩=cP v:=by
 obtain⟨_,_,Fj,h3⟩:=h.at;unfold Af at h3;exact h3.1
theorem Aq.kp(h:Aq w B N d g o d0 g0 o0 F)(hb:Below N w w1):Aq w1 B N d g o d0 g0 o0 F:=by
 obtain⟨h1,h2,h2',fp,Fj,h3,h3',h4⟩:=h
 have hsm:∀b,b=g\/b∈fp->w1.heap[b]? =w.heap[b]? :=λb hb'=>hb.block b (by
  rcases hb' with rfl|hb'
  ·exact h2
  ·exact h3' b hb')
 refine⟨h1,h2,AX h2' hb.size,fp,Fj,h3.far hsm,h3',h4.lies.far (λb hb'=>hsm b ?_),h4.sub,h4.at',h4.nd,λw' Io d1 a1 a2 a3 a4 a5 a6=>?_⟩
 ·rcases hb' with rfl|hb'
  ·exact h4.at'
  ·exact .inr (h4.sub b hb')
 ·have e0:w1.heap[g0]? =w.heap[g0]? :=hsm g0 h4.at';have back:∀{g2 o2 n:Nat},w1.heap[g2]? =w.heap[g2]?->BS w1 w' g2 o2 n->BS w w' g2 o2 n:=λe hs=>by
   obtain⟨c,c',t,m,b1,b2,b3,b4⟩:=hs;exact⟨c,c',t,m,e.symm.trans b1,b2,b3,b4⟩
  obtain⟨fp',c1,c2,c3,c4,c5⟩:=h4.fill w' Io d1 a1 (λb hb' h6 h7=>(a2 b hb' h6 h7).trans (hsm b hb')) (back e0 a3) a4 a5 a6;obtain⟨c,c',t,m,b1,b2,b3,b4⟩:=c4;exact⟨fp',c1,c2,c3,⟨c,c',t,m,(hsm g (.inl rfl)).trans b1,b2,b3,b4⟩,c5⟩
theorem Aq.fill{d1:Dt}{N':Nat}(h:Aq w B N d g o d0 g0 o0 F)(hN:N<=N')(hw:d1.wd=d0.wd)(hs:BS w w' g0 o0 d0.wd)(hsz:N'<=w'.heap.size)(hk:∀Fj,Af w B d0 g0 o0 Fj->(g0::Fj).Nodup->(∀b∈Fj,b<N)->(∀b,b<N->b≠g0->b∉Fj->w'.heap[b]? =w.heap[b]?)/\∃Io,Af w' B d1 g0 o0 Io/\(∀b,b∈Io->b∈Fj\/(N<=b/\b<N'))/\(g0::Io).Nodup):Own w' B N' (F d1) g o:=by
 obtain⟨h1,h2,h2',fp,Fj,h3,h3',h4⟩:=h;obtain⟨k1,Io,k2,k3,k4⟩:=hk Fj h4.lies h4.nd (λb hb=>h3' b (h4.sub b hb));have hl:∀b,b=g\/b∈fp->b<N:=λb hb'=>by
  rcases hb' with rfl|hb'
  ·exact h2
  ·exact h3' b hb'
 obtain⟨fp',c1,c2,c3,c4,c5⟩:=h4.fill w' Io d1 hw (λb hb' h6 h7=>k1 b (hl b hb') h6 h7) hs k2 (λb hb'=>by
  rcases k3 b hb' with h|h
  ·exact .inl h
  ·refine .inr ⟨λe=>?_,λe=>?_⟩
   ·have:=hl b (.inl e);omega
   ·have:=hl b (.inr e);omega) k4
 refine⟨h1,A9 h2 hN,hsz,fp',c1,c2,λb hb'=>?_⟩;rcases c3 b hb' with h|h
 ·exact A9 (h3' b h) hN
 ·rcases k3 b h with h|h
  ·exact A9 (h3' b (h4.sub b h)) hN
  ·exact h.2
theorem G7(w:World)(a:Addr)(v:Value):(w.setCell a v).heap.size=w.heap.size:=by simp[World.setCell]
theorem Aq.set1{v0:Value}(h:Aq w B N d g o (.cell v0) g0 o0 F){v1:Value}(h1:v1.oneCell'=cC):Own (w.setCell ⟨g0,o0,cX⟩ v1) B N (F (.cell v1)) g o:=by
 have hc:=h.cell;refine h.fill (AQ) (by rfl) (BS.set hc v1 (AQ) (by simp[Dt.wd])) (by rw[G7];exact h.sz) λFj _ _ _=>?_;refine⟨λb _ hb _=>Below.heap_setCell _ _ _ _ (λe=>hb e),[],?_,?_,?_⟩
 ·unfold Af;exact⟨World.cell?_setCell_same _ _ _ hc,rfl,h1⟩
 ·intro b hb;cases hb
 ·simp
theorem Dh{s:Nat}{v:Value}{C:Nat}(h:w.ownsRow B e s v n xs)(hb:Below C w w1)(hC:w.heap.size<=C):w1.ownsRow B e s v n xs:=World.ownsRow.kept h (Ez hb hC) (by cases v.ownBlock<;>simp)
def Aq.owns{s:Nat}{l:List Dt}(h:Aq w B N d g o (.row e s l) g0 o0 F):∃v xs,w.cell? ⟨g0,o0,cX⟩=cP v/\w.ownsRow B e s v l.length xs/\∃p c,v=cY p l.length c:=by
 obtain⟨p1,p2,Fj,p3⟩:=h.at;obtain⟨v,hc,hv⟩:=p3.row;obtain⟨xs,hx⟩:=hv.owns;exact⟨v,xs,hc,hx,hv.slice⟩
theorem Aq.push{s:Nat}{l r:List Dt}{v v':Value}{fd:List Nat}{ga oa:Nat}{news:List Value}(h:Aq w B N d g o (.row e s l) g0 o0 F)(hb:Below N w w1)(hr:AP w1 N r ga oa fd)(hn:fd.Nodup)(hs:∀x∈r,x.wd=s) (hr0:0<r.length) (hl:news.length=r.length*s) (hnews:∀j,j<r.length*s->w1.cell? ⟨ga,oa+j,cX⟩=news[j]?) (hc:w.cell? ⟨g0,o0,cX⟩=cP v) (hx:w1.ownsRow B e s v l.length xs)(ho:w2.ownsRow B e s v' (l.length+r.length) (xs++news)) (hg:w1.grownBy w2 v.ownBlock) (hf:∀k,v'.ownBlock=cP k->v.ownBlock=cP k\/w1.heap.size<=k):Own (w2.setCell ⟨g0,o0,cX⟩ v') B w2.heap.size (F (.row e s (l++r))) g o:=by
 have hlt:=h.lt;obtain⟨p1,p2,fq,p3⟩:=h.at;have hge:=h.ge;have hB:B<=N:=by omega
 have hsz0:=h.sz;have hsz:w.heap.size<=w1.heap.size:=hb.size;have hsz2:w1.heap.size<=w2.heap.size:=hg.size;obtain⟨v0,hc',hv0⟩:=p3.row;rw[hc]at hc';obtain rfl:v=v0:=by simpa using hc'
 have hc1:w1.cell? ⟨g0,o0,cX⟩=cP v:=by rw[hb.cell p2];exact hc
 have hrB:AP w1 B r ga oa fd:=hr.mono (by omega);have qm:∀b,b∈fd->N<=b:=λb hb'=>(hr.fp b hb').1;refine h.fill (N':=w2.heap.size) (by omega) (by rfl) (w':=w2.setCell ⟨g0,o0,cX⟩ v') ?_ (by rw[G7];exact AQ) λFj hl0 hn0 hN0=>?_
 ·have qj:v.ownBlock≠cP g0:=λe1=>by
   obtain⟨h1,h2,h2',fp,Fj,h3,h3',h4⟩:=h;obtain⟨v0,hc',hv0⟩:=h4.lies.row;rw[hc]at hc';obtain rfl:v=v0:=(by simpa using hc');exact(BN.1 h4.nd).1 (hv0.own g0 e1)
  have e0:w2.heap[g0]? =w.heap[g0]? :=(hg.block g0 (by omega) (λe=>qj e.symm)).trans (hb.block g0 p2);have hc2:w2.cell? ⟨g0,o0,cX⟩=cP v:=(BM e0 _).trans hc;obtain⟨c,c',t,m,b1,b2,b3,b4⟩:=BS.set (w:=w2) (g:=g0) (k:=o0) (o:=o0) (n:=Dt.wd (.row e s l)) hc2 v' (AQ) (by simp[Dt.wd]);exact⟨c,c',t,m,e0.symm.trans b1,b2,b3,b4⟩
 ·obtain⟨v0,hc',hv⟩:=hl0.row;rw[hc]at hc';obtain rfl:v=v0:=by simpa using hc'
  have yE:∀b,b∈Fj->b<N:=hN0;have hv1:AZ w1 B e s l v Fj:=hv.same λb hb'=>hb.block b (yE b hb')
  obtain⟨Io,k1,k2,k3⟩:=hv1.push hx hrB hs hr0 hl hnews ho hg hf (BN.1 hn0).2 hn (λb hb' e=>by
   have:=qm b hb';have:=yE b e
   omega)
  have qj:v.ownBlock≠cP g0:=λe1=>(BN.1 hn0).1 (hv.own g0 e1);have hg1:g0∉Io:=λe1=>by
   rcases k3 g0 e1 with h|h|h
   ·exact(BN.1 hn0).1 h
   ·have:=qm g0 h;omega
   ·omega
  have e0:w2.heap[g0]? =w.heap[g0]? :=(hg.block g0 (by omega) (λe=>qj e.symm)).trans (hb.block g0 p2);have hc2:w2.cell? ⟨g0,o0,cX⟩=cP v:=(BM e0 _).trans hc;refine⟨λb hb1 hb2 hb3=>(Below.heap_setCell _ _ _ _ (λe=>hb2 e)).trans ((hg.block b (by omega) (λe=>hb3 (hv.own b e.symm))).trans (hb.block b hb1)),Io,?_,?_,BN.2 ⟨hg1,k2⟩⟩
  ·exact(k1.same λb hb'=>Below.heap_setCell _ _ _ _ (λe=>hg1 (by rw[show g0=b from e.symm];exact hb'))).lies (World.cell?_setCell_same _ _ _ hc2)
  ·intro b hb';have hlt2:=(k1.fp b hb').2;rcases k3 b hb' with h|h|h
   ·exact .inl h
   ·have:=qm b h;exact .inr ⟨by omega,hlt2⟩
   ·exact .inr ⟨by omega,hlt2⟩
theorem Aq.cut{s:Nat}{l:List Dt}{x:Dt}(h:Aq w B N d g o (.row e s (l++[x])) g0 o0 F):∃g' cap,w.cell? ⟨g0,o0,cX⟩=cP (cY (cP ⟨g',0,cX⟩) (l.length+1) cap)/\l.length+1<=cap/\Own (w.setCell ⟨g0,o0,cX⟩ (cY (cP ⟨g',0,cX⟩) l.length cap)) B N (F (.row e s l)) g o:=by
 obtain⟨p1,p2,fq,p3⟩:=h.at;obtain⟨v,hc,hv⟩:=p3.row;rcases hv with⟨_,h2,_⟩|⟨g',cap,cur,f',rfl,h2,h3,h4,h5,h6,rfl,h8,h9⟩
 ·simp at h2
 rw[List.length_append,List.length_singleton]at hc h4;refine⟨g',cap,hc,h4,?_⟩;refine h.fill (AQ) (by rfl) (BS.set hc _ (AQ) (by simp[Dt.wd])) (by rw[G7];exact h.sz) λFj hl0 hn0 _=>?_;obtain⟨v0,hc',hv0⟩:=hl0.row;rw[hc]at hc';obtain rfl:cY (cP ⟨g',0,cX⟩) (l.length+1) cap=v0:=by simpa using hc'
 rcases hv0 with⟨_,k2,_⟩|⟨g2,cap2,jP,f2,k1,k2,k3,k4,k5,k6,rfl,k8,k9⟩
 ·simp at k2
 have hcap:cP g'=cP g2/\cap=cap2:=by simpa using k1
 obtain⟨hgg,rfl⟩:=hcap;obtain rfl:g'=g2:=by simpa using hgg
 obtain⟨f3,f4,rfl,m1,m2⟩:=AP.app.1 k9;have hgn:g0≠g'/\g0∉f3:=by
  have:=(BN.1 hn0).1;simp only[List.mem_cons,List.mem_append,not_or]at this;exact⟨this.1,this.2.1⟩
 have hnn:=(BN.1 hn0).2;rw[BN,GL]at hnn;refine⟨λb _ hb _=>Below.heap_setCell _ _ _ _ (λe=>hb e),g'::f3,?_,λb hb=> .inl ?_,?_⟩
 ·refine AZ.lies (v:=cY (cP ⟨g',0,cX⟩) l.length cap) (.inr ⟨g',cap,jP,f3,rfl,k2,(Below.heap_setCell _ _ _ _ (λe=>hgn.1 e.symm)).trans k3,by omega,k5,k6,rfl,λd hd=>k8 d (by simp[hd]),?_⟩) (World.cell?_setCell_same _ _ _ hc);refine m1.move (λj _=>BM (Below.heap_setCell _ _ _ _ (λe=>hgn.1 e.symm)) _) (λb hb=>Below.heap_setCell _ _ _ _ (λe=>hgn.2 (by rw[show g0=b from e.symm];exact hb)))
 ·simp only[List.mem_cons,List.mem_append]at hb⊢;rcases hb with h|h
  ·exact .inl h
  ·exact .inr (.inl h)
 ·simp only[BN,List.mem_cons,not_or];simp only[List.mem_append,not_or]at hnn;exact⟨⟨hgn.1,hgn.2⟩,hnn.1.1,hnn.2.1⟩
theorem Aq.put{m:Vm}(h:Aq w B N d g o (.mp m) g0 o0 F):∃b,w.cell? ⟨g0,o0,cX⟩=cP (.map (cP b))/\B<=b/\CQ w b m/\b<N/\∀w' m',CQ w' b m'->(∀k,k≠b->w'.heap[k]? =w.heap[k]?)->w.heap.size<=w'.heap.size->Own w' B N (F (.mp m')) g o:=by
 obtain⟨b,hc,hB,hm,hbN⟩:∃b,w.cell? ⟨g0,o0,cX⟩=cP (.map (cP b))/\B<=b/\CQ w b m/\b<N:=by
  obtain⟨h1,h2,h2',fp,Fj,h3,h3',h4⟩:=h;have p3:=h4.lies;unfold Af at p3;obtain⟨b,hc,hB,hm,rfl⟩:=p3;exact⟨b,hc,hB,hm,h3' b (h4.sub b (by simp))⟩
 refine⟨b,hc,hB,hm,hbN,λw' m' hm' hk hsz=>?_⟩;have hgb:g0≠b:=by
  obtain⟨h1,h2,h2',fp,Fj,h3,h3',h4⟩:=h;have hl:=h4.lies;unfold Af at hl;obtain⟨b',hc',_,_,rfl⟩:=hl;rw[hc]at hc';obtain rfl:b=b':=by simpa using hc'
  simpa using(BN.1 h4.nd).1
 refine h.fill (AQ) (by rfl) (BS.of_eq hc (hk g0 hgb)) (AX h.sz hsz) λFj hl0 hn0 _=>?_;unfold Af at hl0;obtain⟨b',hc',_,_,rfl⟩:=hl0;rw[hc]at hc';obtain rfl:b=b':=by simpa using hc'
 refine⟨λk _ _ hb=>hk k (by simpa using hb),[b],?_,λk hk'=> .inl hk',hn0⟩;unfold Af;exact⟨b,(BM (hk g0 hgb) _).trans hc,hB,hm',rfl⟩
end
end
section
open Go.ChangeShapes Go.WideShapes Go.Deep
def Rd{H:Type}(enc:TypeId×Value->H)(P:Program)(w:World)(base:Nat)(spare:Nat->Bool)(held:Bool)(t:TypeId)(cs:List Value):Prop:=
 ∃fuel x,DataW.trod enc P w base spare held fuel t cs=cP x/\∀k∈DataW.weights P t x.1,k<=140737488351232
theorem Im{H:Type}{P:Program}:∀{l:List (DataW H)} {d:DataW H},d∈l->k∈d.weights P e->k∈DataW.weightsAll P e l
 |d0::r,d,hd,hk=>by
  simp only[DataW.weightsAll,List.mem_append];rcases List.mem_cons.1 hd with rfl|hd
  ·exact .inl hk
  ·exact .inr (Im hd hk)
theorem VF{Q:Nat->α->Prop}(h:∀i,i<n->∃x,Q i x):∃l:List α,l.length=n/\∀(i:Nat) x,l[i]? =cP x->Q i x:=by
 induction n with
 |zero=>exact⟨[],rfl,λi x e=>by simp at e⟩
 |succ n ih=>
  obtain⟨l,hl,hq⟩:=ih λi hi=>h i (by omega);obtain⟨x,hx⟩:=h n (by omega);refine⟨l++[x],by simp[hl],λi y e=>?_⟩;rcases Nat.lt_or_ge i l.length with hi|hi
  ·exact hq i y (by rwa[List.getElem?_append_left hi]at e)
  ·rw[List.getElem?_append_right hi]at e;have h0:i-l.length=0:=by
    rcases Nat.eq_zero_or_pos (i-l.length)with h0|h0
    ·exact h0
    ·rw[List.getElem?_eq_none (by simp;omega)]at e;cases e
   rw[h0]at e;have hxy:x=y:=(by simpa using e);subst hxy;have:i=n:=(by omega);rw[this];exact hx
def Row{α:Type}(E:World->Addr->α->Prop)(sz:Nat)(w:World)(v:Value)(l:List α):Prop:=
 ∃p cu,v=cY p l.length cu/\(p=cX->l.length=0/\cu=0)/\(l.length<=140737488351232/\l.length<=cu)/\∀(i:Nat) x,l[i]? =cP x->∃a,p=cP a/\E w (a.add (i*sz)) x
theorem Row.map{E:World->Addr->α->Prop}{v:Value}{l:List α}(h:Row E sz w v l)(hE:∀a x,E w a x->E w' a x):Row E sz w' v l:=by grind [Row]
theorem Row.slice{E:World->Addr->α->Prop}{v:Value}{l:List α}(h:Row E sz w v l):∃p cu,v=cY p l.length cu:=by grind [Row]
section
variable {H : Type} {enc : TypeId × Value -> H} {P : Program} {w : World} {base : Nat} {spare : Nat -> Bool} {held : Bool} {t : TypeId} {cs : List Value}
def Rd.str(ht:P.underlying t=cP .string)(h:Rd enc P w base spare held t cs):∃s:ByteArray,cs=[cS s]/\s.size<=140737488351232:=by
 obtain⟨f,x,h,hk⟩:=h;obtain⟨s,h1,rfl,h3⟩:=DataW.trod_string ht h;refine⟨s,h1,?_⟩;have:=hk s.data.toList.length (by simp[DataW.weights]);simpa using this
theorem Rd.int{k:IntKind}(ht:P.underlying t=cP (.int k))(h:Rd enc P w base spare held t cs):∃n,cs=[cI k n]/\(Lit.int k n).wf=cC:=by
 obtain⟨f,x,h,hk⟩:=h;obtain⟨s,h1,-,h3⟩:=DataW.trod_int ht h;exact⟨s,h1,h3⟩
theorem Rd.bool(ht:P.underlying t=cP .bool)(h:Rd enc P w base spare held t cs):∃b,cs=[cE b]:=by
 obtain⟨f,x,h,hk⟩:=h;obtain⟨s,h1,-⟩:=DataW.trod_bool ht h;exact⟨s,h1⟩
theorem Rd.struct{fs:Array Field}(ht:P.underlying t=cP (.struct fs))(h:Rd enc P w base spare held t cs):cs.length=P.cellsOf t/\∀(i:Nat) (f:Field),fs[i]? =cP f->Rd enc P w base spare held f.type ((cs.drop f.offset).take (P.cellsOf f.type)):=by
 obtain⟨n,x,h,hk⟩:=h;obtain⟨xs,m,-,rfl,hlen,hxl,hf⟩:=DataW.trod_struct ht h;refine⟨hlen,λi f hi=>?_⟩;have hil:i<fs.size:=(Array.getElem?_eq_some_iff.1 hi).1;have h1:=hf i f hi;rw[List.getElem?_eq_getElem (by omega)]at h1;refine⟨m,_,h1,λk hk1=>hk k ?_⟩;simp only[DataW.weights,ht];exact DataW.weights_mem_each (j:=i) (t:=f.type) (d:=(xs[i]'(by omega)).1) (by simp[hi]) (by simp[show i<xs.length by omega]) k hk1
theorem Rd.slice(ht:P.underlying t=cP (.slice e))(hby:1<=P.bytesOf e)(h:Rd enc P w base spare held t cs):∃p len cap,cs=[cY p len cap]/\(p=cX->len=0/\cap=0)/\(len<=140737488351232/\len<=cap)/\∀a,p=cP a->∀i,i<len->∃cs',cs'.length=P.cellsOf e/\(∀j,j<P.cellsOf e->w.cell? ((a.add (i*P.cellsOf e)).add j)=cs'[j]?)/\Rd enc P w base spare held e cs':=by
 obtain⟨n,x,h,hk⟩:=h;rcases open_slice ht h with⟨rfl,-⟩|⟨a,len,cap,m,n,D,Pl,rfl,hb,hl,hm,hmm,rfl,hi⟩
 ·exact⟨cX,0,0,rfl,λ_=>⟨rfl,rfl⟩,⟨AY,AQ⟩,λa e=>by cases e⟩
 ·have hlm:len<=m:=by rw[hmm];split<;>omega
  refine⟨cP a,len,cap,rfl,(λe=>by cases e),⟨?_,hl⟩,λa' ea i hil=>?_⟩
  ·have:=hk ((len+(m-len))*P.bytesOf e) (by simp[DataW.weights,ht]);have h2:len*1<=(len+(m-len))*P.bytesOf e:=Nat.mul_le_mul (by omega) hby;omega
  ·obtain rfl:a=a':=(by simpa using ea);obtain⟨cs',h1,h2⟩:=hi i (by omega);obtain⟨-,h3,h4⟩:=World.cells?_some h1;refine⟨cs',h3,h4,n,_,h2,λk hk1=>hk k ?_⟩;simp only[DataW.weights,ht,List.mem_cons,List.mem_append];exact .inr (.inl (Im (List.mem_map.2 ⟨i,List.mem_range.2 hil,rfl⟩) hk1))
def Rd.row{E:World->Addr->α->Prop}{v:Value}(ht:P.underlying t=cP (.slice e))(hby:1<=P.bytesOf e)(hsz:P.cellsOf e=sz)(h:Rd enc P w base spare held t [v])(hE:∀(a:Addr) (cs:List Value),Rd enc P w base spare held e cs->cs.length=sz->(∀j,j<sz->w.cell? (a.add j)=cs[j]?)->∃x,E w a x):∃l,Row E sz w v l:=by
 obtain⟨p,len,cap,hv,hp,hl,hi⟩:=h.slice ht hby;obtain rfl:v=cY p len cap:=by simpa using hv
 have each:∀i,i<len->∃x,∃a,p=cP a/\E w (a.add (i*sz)) x:=λi hil=>by
  cases p with
  |none=>have:=(hp rfl).1;omega
  |some a=>
   obtain⟨cs',h1,h2,h3⟩:=hi a rfl i hil;rw[hsz]at h1 h2;obtain⟨x,hx⟩:=hE _ _ h3 h1 h2;exact⟨x,a,rfl,hx⟩
 obtain⟨l,hl2,hq⟩:=VF each;subst hl2;exact⟨l,p,cap,rfl,hp,hl,hq⟩
end
end
section
structure Vr where (n t:ByteArray)
structure Cl where (n:ByteArray) (fs:List Vr)
structure Ex where (n:ByteArray) (k:Int)
structure Ag where (k:Int) (s:ByteArray) (n:Int)
structure Bd where (n:ByteArray) (a:Ag)
structure Fr where (f b:ByteArray) (i:Int) (vs:List Bd)
structure Vt where (c:ByteArray) (vs:List Ag)
structure Is where (op:Int) (d n:ByteArray) (as:List Ag) (fr:List Fr) (ob:List Vt)
structure TH where (b:ByteArray) (a:Ag)
structure Ph where (d:ByteArray) (is:List TH)
structure Tm where (k:Int) (a:Ag) (to:List ByteArray) (n:Int)
structure Bk where (n:ByteArray) (ps:List Ph) (cs:List Is) (e:Tm)
structure Fn where (n r:ByteArray) (ps vs:List Vr) (bs:List Bk)
structure Pg where (ssa:Bool) (cs:List Cl) (gs:List Vr) (xs:List Ex) (fs:List Fn)
abbrev At(w:World)(a:Addr)(k:Nat)(v:Value):Prop:=w.cell? ⟨a.block,a.off+k,cX⟩=cP v
abbrev Sz(s:ByteArray):Prop:=s.size<=140737488351232
def DL(w:World)(a:Addr)(x:ByteArray):Prop:=w.cell? a=cP (cS x)/\Sz x
def IU(w:World)(a:Addr)(x:Vr):Prop:=(w.cell? a=cP (cS x.n)/\Sz x.n)/\At w a 1 (cS x.t)/\Sz x.t
def Y0(w:World)(a:Addr)(x:Cl):Prop:=(w.cell? a=cP (cS x.n)/\Sz x.n)/\∃u,At w a 1 u/\Row IU 2 w u x.fs
def gV(w:World)(a:Addr)(x:Ex):Prop:=(w.cell? a=cP (cS x.n)/\Sz x.n)/\At w a 1 (cI cJ x.k)
def Lg(w:World)(a:Addr)(x:Ag):Prop:=w.cell? a=cP (cI cJ x.k)/\(At w a 1 (cS x.s)/\Sz x.s)/\At w a 2 (cI cJ x.n)
def Q5(w:World)(a:Addr)(k:Nat)(x:Ag):Prop:=At w a k (cI cJ x.k)/\(At w a (k+1) (cS x.s)/\Sz x.s)/\At w a (k+2) (cI cJ x.n)
def iQ(w:World)(a:Addr)(x:Bd):Prop:=(w.cell? a=cP (cS x.n)/\Sz x.n)/\Q5 w a 1 x.a
def Py(w:World)(a:Addr)(x:Fr):Prop:=(w.cell? a=cP (cS x.f)/\Sz x.f)/\(At w a 1 (cS x.b)/\Sz x.b)/\At w a 2 (cI cJ x.i)/\∃u,At w a 3 u/\Row iQ 4 w u x.vs
def Pw(w:World)(a:Addr)(x:Vt):Prop:=(w.cell? a=cP (cS x.c)/\Sz x.c)/\∃u,At w a 1 u/\Row Lg 3 w u x.vs
def WZ(w:World)(a:Addr)(x:Is):Prop:=w.cell? a=cP (cI cJ x.op)/\(At w a 1 (cS x.d)/\Sz x.d)/\(At w a 2 (cS x.n)/\Sz x.n)/\
 (∃u,At w a 3 u/\Row Lg 3 w u x.as)/\(∃u,At w a 4 u/\Row Py 4 w u x.fr)/\∃u,At w a 5 u/\Row Pw 2 w u x.ob
def AtIn(w:World)(a:Addr)(x:TH):Prop:=(w.cell? a=cP (cS x.b)/\Sz x.b)/\Q5 w a 1 x.a
def Px(w:World)(a:Addr)(x:Ph):Prop:=(w.cell? a=cP (cS x.d)/\Sz x.d)/\∃u,At w a 1 u/\Row AtIn 4 w u x.is
def XD(w:World)(a:Addr)(k:Nat)(x:Tm):Prop:=At w a k (cI cJ x.k)/\Q5 w a (k+1) x.a/\(∃u,At w a (k+4) u/\Row DL 1 w u x.to)/\At w a (k+5) (cI cJ x.n)
def Jf(w:World)(a:Addr)(x:Bk):Prop:=(w.cell? a=cP (cS x.n)/\Sz x.n)/\(∃u,At w a 1 u/\Row Px 2 w u x.ps)/\(∃u,At w a 2 u/\Row WZ 6 w u x.cs)/\XD w a 3 x.e
def VP(w:World)(a:Addr)(x:Fn):Prop:=(w.cell? a=cP (cS x.n)/\Sz x.n)/\(At w a 1 (cS x.r)/\Sz x.r)/\
 (∃u,At w a 2 u/\Row IU 2 w u x.ps)/\(∃u,At w a 3 u/\Row IU 2 w u x.vs)/\∃u,At w a 4 u/\Row Jf 9 w u x.bs
section
variable {w w' : World} (hb : Below w.heap.size w w')
include hb
theorem AA{a:Addr}{v:Value}(h:w.cell? a=cP v):w'.cell? a=cP v:=by rw[hb.cell (World.block_lt_of_cell? w _ h)];exact h
theorem DL.kp{a x}(h:DL w a x):DL w' a x:=⟨AA hb h.1,h.2⟩
theorem IU.kp{a x}(h:IU w a x):IU w' a x:=by grind [IU,AA]
theorem Y0.kp{a x}(h:Y0 w a x):Y0 w' a x:=by
 obtain⟨h1,u,h2,h3⟩:=h;exact⟨⟨AA hb h1.1,h1.2⟩,u,AA hb h2,h3.map λ_ _=>IU.kp hb⟩
theorem gV.kp{a x}(h:gV w a x):gV w' a x:=by grind [gV,AA]
theorem Lg.kp{a x}(h:Lg w a x):Lg w' a x:=by grind [Lg,AA]
theorem Q5.kp{a k x}(h:Q5 w a k x):Q5 w' a k x:=by grind [Q5,AA]
theorem iQ.kp{a x}(h:iQ w a x):iQ w' a x:=⟨⟨AA hb h.1.1,h.1.2⟩,h.2.kp hb⟩
theorem Py.kp{a x}(h:Py w a x):Py w' a x:=by
 obtain⟨h1,h2,h3,u,h4,h5⟩:=h;exact⟨⟨AA hb h1.1,h1.2⟩,⟨AA hb h2.1,h2.2⟩,AA hb h3,u,AA hb h4,h5.map λ_ _=>iQ.kp hb⟩
theorem Pw.kp{a x}(h:Pw w a x):Pw w' a x:=by
 obtain⟨h1,u,h4,h5⟩:=h;exact⟨⟨AA hb h1.1,h1.2⟩,u,AA hb h4,h5.map λ_ _=>Lg.kp hb⟩
theorem WZ.kp{a x}(h:WZ w a x):WZ w' a x:=by
 obtain⟨h1,h2,h3,⟨u,h4,h5⟩,⟨u2,h6,h7⟩,u3,h8,h9⟩:=h;exact⟨AA hb h1,⟨AA hb h2.1,h2.2⟩,⟨AA hb h3.1,h3.2⟩,⟨u,AA hb h4,h5.map λ_ _=>Lg.kp hb⟩,⟨u2,AA hb h6,h7.map λ_ _=>Py.kp hb⟩,u3,AA hb h8,h9.map λ_ _=>Pw.kp hb⟩
theorem AtIn.kp{a x}(h:AtIn w a x):AtIn w' a x:=⟨⟨AA hb h.1.1,h.1.2⟩,h.2.kp hb⟩
theorem Px.kp{a x}(h:Px w a x):Px w' a x:=by
 obtain⟨h1,u,h4,h5⟩:=h;exact⟨⟨AA hb h1.1,h1.2⟩,u,AA hb h4,h5.map λ_ _=>AtIn.kp hb⟩
theorem XD.kp{a k x}(h:XD w a k x):XD w' a k x:=by
 obtain⟨h1,h2,⟨u,h4,h5⟩,h6⟩:=h;exact⟨AA hb h1,h2.kp hb,⟨u,AA hb h4,h5.map λ_ _=>DL.kp hb⟩,AA hb h6⟩
theorem Jf.kp{a x}(h:Jf w a x):Jf w' a x:=by
 obtain⟨h1,⟨u,h2,h3⟩,⟨u2,h4,h5⟩,h6⟩:=h;exact⟨⟨AA hb h1.1,h1.2⟩,⟨u,AA hb h2,h3.map λ_ _=>Px.kp hb⟩,⟨u2,AA hb h4,h5.map λ_ _=>WZ.kp hb⟩,h6.kp hb⟩
theorem VP.kp{a x}(h:VP w a x):VP w' a x:=by
 obtain⟨h1,h0,⟨u,h2,h3⟩,⟨u2,h4,h5⟩,u3,h6,h7⟩:=h;exact⟨⟨AA hb h1.1,h1.2⟩,⟨AA hb h0.1,h0.2⟩,⟨u,AA hb h2,h3.map λ_ _=>IU.kp hb⟩,⟨u2,AA hb h4,h5.map λ_ _=>IU.kp hb⟩,u3,AA hb h6,h7.map λ_ _=>Jf.kp hb⟩
theorem Row.v{v l}(h:Row IU 2 w v l):Row IU 2 w' v l:=h.map λ_ _=>IU.kp hb
theorem Row.cl{v l}(h:Row Y0 2 w v l):Row Y0 2 w' v l:=h.map λ_ _=>Y0.kp hb
theorem Row.x{v l}(h:Row gV 2 w v l):Row gV 2 w' v l:=h.map λ_ _=>gV.kp hb
theorem Row.fn{v l}(h:Row VP 5 w v l):Row VP 5 w' v l:=h.map λ_ _=>VP.kp hb
theorem Row.s{v l}(h:Row DL 1 w v l):Row DL 1 w' v l:=h.map λ_ _=>DL.kp hb
end
structure jQ(w:World)(v:Value)(x:Cl)(u:Value):Prop where
 e:v=.agg #[cS x.n,u]
 z:Sz x.n
 f:Row IU 2 w u x.fs
structure EL(w:World)(v:Value)(x:Fn)(u1 u2 u3:Value):Prop where
 e:v=.agg #[cS x.n,cS x.r,u1,u2,u3]
 z:Sz x.n/\Sz x.r
 p:Row IU 2 w u1 x.ps
 v:Row IU 2 w u2 x.vs
 b:Row Jf 9 w u3 x.bs
structure Cj(w:World)(v:Value)(x:Pg)(u1 u2 u3 u4:Value):Prop where
 e:v=.agg #[cE x.ssa,u1,u2,u3,u4]
 c:Row Y0 2 w u1 x.cs
 g:Row IU 2 w u2 x.gs
 xt:Row gV 2 w u3 x.xs
 f:Row VP 5 w u4 x.fs
theorem Cj.kp{v:Value}{x:Pg}{u1 u2 u3 u4:Value}(h:Cj w v x u1 u2 u3 u4)(hb:AA6 w w'):Cj w' v x u1 u2 u3 u4:=⟨h.e,h.c.cl hb,h.g.v hb,h.xt.x hb,h.f.fn hb⟩
end
end Go.Proofs.YtlffomedflegdaaGreatDoor
