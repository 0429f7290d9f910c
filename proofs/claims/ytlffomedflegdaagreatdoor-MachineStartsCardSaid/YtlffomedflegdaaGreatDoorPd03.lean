/- Part 03 of the proof: Lih, Kit, Lift, Arg, Find, Typ, RLook, Var, Frm, Fld, Knt, Knu, App, Ask, Rta, Rtb, Rtc, Rte, Rth, Num. -/
import Derived.WalkSpells
import Derived.WalkLawsBesides
import Derived.LoopTactic
import Derived.Laws.IdiomStrings
import Derived.Laws.AppendOwnNone
import Derived.Test.YtlffomedflegdaaGreatDoorRows
import Derived.ProofKit
import Derived.OpenShut
import Derived.Carry
import Derived.Deep.QuietTactic
import Derived.BigQuiet
import Derived.Deep.RegionHeld3
import Derived.Deep.CutBlock
import Derived.Laws.BitsAllLaws
import Derived.Test.YtlffomedflegdaaGreatDoorPd02
set_option linter.all false
set_option maxHeartbeats 16000000
set_option maxRecDepth 100000
namespace Go.Proofs.YtlffomedflegdaaGreatDoor
open Go.Proofs.Tryz
open Go.RowKit
open Go.Value renaming int→cI,string→cS,slice→cY,bool→cE
open Go.IntKind renaming i64→cJ
open Option renaming some→cP,none→cX
open Bool renaming false→cA,true→cC
variable {B m n:Nat}{H α:Type}{P:Program}{T e:TypeId}{W w w0:World}{b k:Int}{f:Fn}{s x:ByteArray}{u1 u2 u3 v v1 v2 v3 v4:Value}
section
def dS(s:ByteArray):Dt:=.cell (cS s)
def dN(n:Int):Dt:=.cell (cI cJ n)
def IQ(x:Vr):Dt:=.agg [dS x.n,dS x.t]
def gP(x:Cl):Dt:=.agg [dS x.n,.row 71 2 (x.fs.map IQ)]
def nS(x:Ex):Dt:=.agg [dS x.n,dN x.k]
def Ls(x:Ag):Dt:=.agg [dN x.k,dS x.s,dN x.n]
def nT(x:Bd):Dt:=.agg [dS x.n,Ls x.a]
def nR(x:Fr):Dt:=.agg [dS x.f,dS x.b,dN x.i,.row 234 4 (x.vs.map nT)]
def nQ(x:Vt):Dt:=.agg [dS x.c,.row 77 3 (x.vs.map Ls)]
def TD(x:Is):Dt:=.agg [dN x.op,dS x.d,dS x.n,.row 77 3 (x.as.map Ls),.row 232 4 (x.fr.map nR),.row 238 2 (x.ob.map nQ)]
def xG(x:TH):Dt:=.agg [dS x.b,Ls x.a]
def PZ(x:Ph):Dt:=.agg [dS x.d,.row 213 4 (x.is.map xG)]
def TW(x:Tm):Dt:=.agg [dN x.k,Ls x.a,.row 9 1 (x.to.map dS),dN x.n]
def Pb(x:Bk):Dt:=.agg [dS x.n,.row 211 2 (x.ps.map PZ),.row 133 6 (x.cs.map TD),TW x.e]
def dFn(x:Fn):Dt:=.agg [dS x.n,dS x.r,.row 71 2 (x.ps.map IQ),.row 71 2 (x.vs.map IQ),.row 82 9 (x.bs.map Pb)]
def Qk(x:Pg):Dt:=.agg [.cell (cE x.ssa),.row 153 2 (x.cs.map gP),.row 71 2 (x.gs.map IQ),.row 155 2 (x.xs.map nS),.row 66 5 (x.fs.map dFn)]
def P9(x:Vr):(IQ x).wd=2:=rfl
def uM(x:Cl):(gP x).wd=2:=rfl
def uL(x:Ex):(nS x).wd=2:=rfl
def MX(x:Ag):(Ls x).wd=3:=rfl
def aU(x:Bd):(nT x).wd=4:=rfl
def uJ(x:Fr):(nR x).wd=4:=rfl
def uF(x:Vt):(nQ x).wd=2:=rfl
def uH(x:Is):(TD x).wd=6:=rfl
def uI(x:TH):(xG x).wd=4:=rfl
def uG(x:Ph):(PZ x).wd=2:=rfl
def uN(x:Bk):(Pb x).wd=9:=rfl
def uK(x:Fn):(dFn x).wd=5:=rfl
theorem Ig(x:Pg):(Qk x).wd=5:=rfl
abbrev Ln{α:Type}(l:List α):Prop:=l.length<=140737488351232
def oq(x:Vr):Prop:=Sz x.n/\Sz x.t
def oCl(x:Cl):Prop:=Sz x.n/\Ln x.fs/\∀v∈x.fs,oq v
def oEx(x:Ex):Prop:=Sz x.n
def VJ(x:Ag):Prop:=Sz x.s
def oBd(x:Bd):Prop:=Sz x.n/\VJ x.a
def oFr(x:Fr):Prop:=Sz x.f/\Sz x.b/\Ln x.vs/\∀v∈x.vs,oBd v
def oVt(x:Vt):Prop:=Sz x.c/\Ln x.vs/\∀v∈x.vs,VJ v
def oIs(x:Is):Prop:=Sz x.d/\Sz x.n/\(Ln x.as/\∀v∈x.as,VJ v)/\(Ln x.fr/\∀v∈x.fr,oFr v)/\Ln x.ob/\∀v∈x.ob,oVt v
def oIn(x:TH):Prop:=Sz x.b/\VJ x.a
def oPh(x:Ph):Prop:=Sz x.d/\Ln x.is/\∀v∈x.is,oIn v
def oTm(x:Tm):Prop:=VJ x.a/\Ln x.to/\∀v∈x.to,Sz v
def oBk(x:Bk):Prop:=Sz x.n/\(Ln x.ps/\∀v∈x.ps,oPh v)/\(Ln x.cs/\∀v∈x.cs,oIs v)/\oTm x.e
def oFn(x:Fn):Prop:=Sz x.n/\Sz x.r/\(Ln x.ps/\∀v∈x.ps,oq v)/\(Ln x.vs/\∀v∈x.vs,oq v)/\Ln x.bs/\∀v∈x.bs,oBk v
def oPg(x:Pg):Prop:=(Ln x.cs/\∀v∈x.cs,oCl v)/\(Ln x.gs/\∀v∈x.gs,oq v)/\(Ln x.xs/\∀v∈x.xs,oEx v)/\Ln x.fs/\∀v∈x.fs,oFn v
section
variable {w : World} {B g o : Nat} {F : List Nat}
theorem Af.c(h:Af w B (.cell v) g o F):w.cell? ⟨g,o,cX⟩=cP v:=by
 unfold Af at h;exact h.1
theorem AP.hd{d:Dt}{r:List Dt}(h:AP w B (d::r) g o F):∃f1 f2,Af w B d g o f1/\AP w B r g (o+d.wd) f2:=by grind [AP,Af]
theorem Af.l{l:List Dt}(h:Af w B (.agg l) g o F):AP w B l g o F:=by
 unfold Af at h;exact h
def AP.nth{enc:α->Dt}{s:Nat}:∀{l:List α} {g o:Nat} {F:List Nat},AP w B (l.map enc) g o F->(∀x,(enc x).wd=s)->∀(i:Nat) x,l[i]? =cP x->∃f,Af w B (enc x) g (o+i*s) f
 | [],_,_,_,_,_,i,x,h=>by simp at h
 |y::r,g,o,F,h,hs,0,x,hx=>by
  obtain rfl:y=x:=by simpa using hx
  obtain⟨f1,f2,h1,_⟩:=AP.hd (show AP w B (enc y::r.map enc) g o F from h)
  exact⟨f1,by rw[Nat.zero_mul,Nat.add_zero];exact h1⟩
 |y::r,g,o,F,h,hs,i+1,x,hx=>by
  obtain⟨f1,f2,_,h2⟩:=AP.hd (show AP w B (enc y::r.map enc) g o F from h);obtain⟨f,hf⟩:=AP.nth h2 hs i x (by simpa using hx);refine⟨f,?_⟩;rw[hs,Nat.add_assoc]at hf;rw[Nat.add_mul,Nat.one_mul,Nat.add_comm (i*s) s];exact hf
def AZ.view{enc:α->Dt}{E:World->Addr->α->Prop}{ok:α->Prop}{s:Nat}{l:List α}(h:AZ w B e s (l.map enc) v F)(hs:∀x,(enc x).wd=s)(hE:∀x g o f,ok x->Af w B (enc x) g o f->E w ⟨g,o,cX⟩ x) (hl:Ln l) (ho:∀x∈l,ok x):Row E s w v l:=by
 rcases h with⟨rfl,h2,_⟩|⟨g',cap,cur,f',rfl,h2,h3,h4,h5,h6,rfl,h8,h9⟩
 ·have:l=[]:=by simpa using h2
  subst this;exact⟨cX,0,rfl,λ_=>⟨rfl,rfl⟩,⟨AY,AQ⟩,λi x hx=>by simp at hx⟩
 ·refine⟨cP ⟨g',0,cX⟩,cap,by simp,(λe=>by cases e),⟨hl,by simpa using h4⟩,λi x hx=>⟨_,rfl,?_⟩⟩;obtain⟨f,hf⟩:=h9.nth hs i x hx;rw[Dk];exact hE x _ _ f (ho x (List.mem_of_getElem? hx)) hf
theorem Af.view{enc:α->Dt}{E:World->Addr->α->Prop}{ok:α->Prop}{s:Nat}{l:List α}(h:Af w B (.row e s (l.map enc)) g o F)(hs:∀x,(enc x).wd=s)(hE:∀x g o f,ok x->Af w B (enc x) g o f->E w ⟨g,o,cX⟩ x) (hl:Ln l) (ho:∀x∈l,ok x):∃u,w.cell? ⟨g,o,cX⟩=cP u/\Row E s w u l:=by
 obtain⟨v,hc,hv⟩:=h.row;exact⟨v,hc,hv.view hs hE hl ho⟩
def vS(hx:Sz x)(h:Af w B (dS x) g o F):DL w ⟨g,o,cX⟩ x:=⟨h.c,hx⟩
def vV{x:Vr}(hx:oq x)(h:Af w B (IQ x) g o F):IU w ⟨g,o,cX⟩ x:=by
 obtain⟨_,_,h1,h2⟩:=h.l.hd;obtain⟨_,_,h3,_⟩:=h2.hd;exact⟨⟨h1.c,hx.1⟩,h3.c,hx.2⟩
theorem vC{x:Cl}(hx:oCl x)(h:Af w B (gP x) g o F):Y0 w ⟨g,o,cX⟩ x:=by
 obtain⟨_,_,h1,h2⟩:=h.l.hd;obtain⟨_,_,h3,_⟩:=h2.hd;exact⟨⟨h1.c,hx.1⟩,h3.view P9 (λ_ _ _ _ a b=>vV a b) hx.2.1 hx.2.2⟩
def vX{x:Ex}(hx:oEx x)(h:Af w B (nS x) g o F):gV w ⟨g,o,cX⟩ x:=by
 obtain⟨_,_,h1,h2⟩:=h.l.hd;obtain⟨_,_,h3,_⟩:=h2.hd;exact⟨⟨h1.c,hx⟩,h3.c⟩
def vA{x:Ag}(hx:VJ x)(h:Af w B (Ls x) g o F):Lg w ⟨g,o,cX⟩ x:=by
 obtain⟨_,_,h1,h2⟩:=h.l.hd;obtain⟨_,_,h3,h4⟩:=h2.hd;obtain⟨_,_,h5,_⟩:=h4.hd;exact⟨h1.c,⟨h3.c,hx⟩,h5.c⟩
def vA'{x:Ag}{k:Nat}(hx:VJ x)(h:Af w B (Ls x) g (o+k) F):Q5 w ⟨g,o,cX⟩ k x:=by
 obtain⟨h1,h2,h3⟩:=vA hx h;exact⟨h1,h2,h3⟩
def vB{x:Bd}(hx:oBd x)(h:Af w B (nT x) g o F):iQ w ⟨g,o,cX⟩ x:=by
 obtain⟨_,_,h1,h2⟩:=h.l.hd;obtain⟨_,_,h3,_⟩:=h2.hd;exact⟨⟨h1.c,hx.1⟩,vA' hx.2 h3⟩
theorem vFr{x:Fr}(hx:oFr x)(h:Af w B (nR x) g o F):Py w ⟨g,o,cX⟩ x:=by
 obtain⟨_,_,h1,h2⟩:=h.l.hd;obtain⟨_,_,h3,h4⟩:=h2.hd;obtain⟨_,_,h5,h6⟩:=h4.hd;obtain⟨_,_,h7,_⟩:=h6.hd;exact⟨⟨h1.c,hx.1⟩,⟨h3.c,hx.2.1⟩,h5.c,h7.view aU (λ_ _ _ _ a b=>vB a b) hx.2.2.1 hx.2.2.2⟩
theorem vVt{x:Vt}(hx:oVt x)(h:Af w B (nQ x) g o F):Pw w ⟨g,o,cX⟩ x:=by
 obtain⟨_,_,h1,h2⟩:=h.l.hd;obtain⟨_,_,h3,_⟩:=h2.hd;exact⟨⟨h1.c,hx.1⟩,h3.view MX (λ_ _ _ _ a b=>vA a b) hx.2.1 hx.2.2⟩
theorem vI{x:Is}(hx:oIs x)(h:Af w B (TD x) g o F):WZ w ⟨g,o,cX⟩ x:=by
 obtain⟨_,_,h1,h2⟩:=h.l.hd;obtain⟨_,_,h3,h4⟩:=h2.hd;obtain⟨_,_,h5,h6⟩:=h4.hd;obtain⟨_,_,h7,h8⟩:=h6.hd;obtain⟨_,_,h9,h10⟩:=h8.hd;obtain⟨_,_,h11,_⟩:=h10.hd
 exact⟨h1.c,⟨h3.c,hx.1⟩,⟨h5.c,hx.2.1⟩,h7.view MX (λ_ _ _ _ a b=>vA a b) hx.2.2.1.1 hx.2.2.1.2,h9.view uJ (λ_ _ _ _ a b=>vFr a b) hx.2.2.2.1.1 hx.2.2.2.1.2,
  h11.view uF (λ_ _ _ _ a b=>vVt a b) hx.2.2.2.2.1 hx.2.2.2.2.2⟩
def vIn{x:TH}(hx:oIn x)(h:Af w B (xG x) g o F):AtIn w ⟨g,o,cX⟩ x:=by
 obtain⟨_,_,h1,h2⟩:=h.l.hd;obtain⟨_,_,h3,_⟩:=h2.hd;exact⟨⟨h1.c,hx.1⟩,vA' hx.2 h3⟩
theorem vPh{x:Ph}(hx:oPh x)(h:Af w B (PZ x) g o F):Px w ⟨g,o,cX⟩ x:=by
 obtain⟨_,_,h1,h2⟩:=h.l.hd;obtain⟨_,_,h3,_⟩:=h2.hd;exact⟨⟨h1.c,hx.1⟩,h3.view uI (λ_ _ _ _ a b=>vIn a b) hx.2.1 hx.2.2⟩
theorem vT'{x:Tm}{k:Nat}(hx:oTm x)(h:Af w B (TW x) g (o+k) F):XD w ⟨g,o,cX⟩ k x:=by
 obtain⟨_,_,h1,h2⟩:=h.l.hd;obtain⟨_,_,h3,h4⟩:=h2.hd;obtain⟨_,_,h5,h6⟩:=h4.hd;obtain⟨_,_,h7,_⟩:=h6.hd;exact⟨h1.c,vA' (k:=k+1) hx.1 h3,h5.view (λ_=>rfl) (λ_ _ _ _ a b=>vS a b) hx.2.1 hx.2.2,h7.c⟩
theorem vBk{x:Bk}(hx:oBk x)(h:Af w B (Pb x) g o F):Jf w ⟨g,o,cX⟩ x:=by
 obtain⟨_,_,h1,h2⟩:=h.l.hd;obtain⟨_,_,h3,h4⟩:=h2.hd;obtain⟨_,_,h5,h6⟩:=h4.hd;obtain⟨_,_,h7,_⟩:=h6.hd;exact⟨⟨h1.c,hx.1⟩,h3.view uG (λ_ _ _ _ a b=>vPh a b) hx.2.1.1 hx.2.1.2,h5.view uH (λ_ _ _ _ a b=>vI a b) hx.2.2.1.1 hx.2.2.1.2,vT' (k:=3) hx.2.2.2 h7⟩
theorem vF{x:Fn}(hx:oFn x)(h:Af w B (dFn x) g o F):VP w ⟨g,o,cX⟩ x:=by
 obtain⟨_,_,h1,h2⟩:=h.l.hd;obtain⟨_,_,h3,h4⟩:=h2.hd;obtain⟨_,_,h5,h6⟩:=h4.hd;obtain⟨_,_,h7,h8⟩:=h6.hd;obtain⟨_,_,h9,_⟩:=h8.hd
 exact⟨⟨h1.c,hx.1⟩,⟨h3.c,hx.2.1⟩,h5.view P9 (λ_ _ _ _ a b=>vV a b) hx.2.2.1.1 hx.2.2.1.2,h7.view P9 (λ_ _ _ _ a b=>vV a b) hx.2.2.2.1.1 hx.2.2.2.1.2,
  h9.view uN (λ_ _ _ _ a b=>vBk a b) hx.2.2.2.2.1 hx.2.2.2.2.2⟩
theorem vP{x:Pg}(hx:oPg x)(h:Af w B (Qk x) g o F):∃u1 u2 u3 u4,w.cell? ⟨g,o,cX⟩=cP (cE x.ssa)/\w.cell? ⟨g,o+1,cX⟩=cP u1/\w.cell? ⟨g,o+2,cX⟩=cP u2/\w.cell? ⟨g,o+3,cX⟩=cP u3/\w.cell? ⟨g,o+4,cX⟩=cP u4/\Cj w (.agg #[cE x.ssa,u1,u2,u3,u4]) x u1 u2 u3 u4:=by
 obtain⟨_,_,h1,h2⟩:=h.l.hd;obtain⟨_,_,h3,h4⟩:=h2.hd;obtain⟨_,_,h5,h6⟩:=h4.hd;obtain⟨_,_,h7,h8⟩:=h6.hd;obtain⟨_,_,h9,_⟩:=h8.hd;obtain⟨u1,c1,r1⟩:=h3.view uM (λ_ _ _ _ a b=>vC a b) hx.1.1 hx.1.2;obtain⟨u2,c2,r2⟩:=h5.view P9 (λ_ _ _ _ a b=>vV a b) hx.2.1.1 hx.2.1.2;obtain⟨u3,c3,r3⟩:=h7.view uL (λ_ _ _ _ a b=>vX a b) hx.2.2.1.1 hx.2.2.1.2;obtain⟨u4,c4,r4⟩:=h9.view uK (λ_ _ _ _ a b=>vF a b) hx.2.2.2.1 hx.2.2.2.2;exact⟨u1,u2,u3,u4,h1.c,c1,c2,c3,c4,rfl,r1,r2,r3,r4⟩
end
end
def FQ{k:IntKind}{a:Int}(h:a=b):Ending.returned (cI k a)=.returned (cI k b):=by rw[h]
def EF{a b:Bool}(h:a=b):Ending.returned (cE a)=.returned (cE b):=by rw[h]
def Vk{a b:ByteArray}(h:a=b):Ending.returned (cS a)=.returned (cS b):=by rw[h]
theorem Ik{i j:Nat}(h:i≠j):(⟨B,i,cX⟩:Addr)≠⟨B,j,cX⟩:=by grind
def Gg(b:UInt8):Value:=cI .u8 (b.toNat:Int)
theorem D7{base:Nat}{src dst:TypeId}{l:List UInt8}(hs:P.underlying src=cP (.slice e))(he:P.underlying e=cP (.int .u8))(hd:P.underlying dst=cP .string)(hown:w.ownsRow base e 1 v n (l.map Gg)):(convert src dst v).run P w=.ok (cS ⟨l.toArray⟩) w:=by
 have hlen:l.length=n:=by simpa using hown.1
 rcases hown.2 with⟨rfl,h0⟩|⟨g,cap,cur,rfl,_⟩
 ·have:l=[]:=List.length_eq_zero_iff.1 (by omega);subst this;rw[run_convert_bytes_string w src dst e cX 0 0 hs he hd];rfl
 ·subst hlen;refine run_convert_bytes_back w src dst e ⟨g,0,cX⟩ cap l hs he hd λj hj=>?_;exact hown.cells rfl j _ (by simp[Gg,List.getElem?_eq_getElem hj])
def NM(w:World)(row:Option Nat):w.grownBy w row:=⟨rfl,rfl,rfl,AQ,λ_ _ _=>rfl⟩
theorem CP{ops:Array Oper}{rest:List Oper}{o:Oper}{a:Act}{Q:Exit->Act->World->Prop}(hgd:o.guard=cX)(s x:Operand)(t:TypeId)(ho:o.op=.call {callee:=.builtin .append,args:=#[s,x],argTypes:=#[t,t]})(base:Nat) (e:TypeId) (i:TypeInfo) (z:Value) (size bytes:Nat) (ht:P.underlying t=cP (.slice e)) (hi:P.info? e=cP i) (hz:i.zero=cP z)(hsize:i.size=size) (hby:i.bytes=bytes) (hzs:z.cells.size=size) (hsz:0<size)(v:Value) (n:Nat) (xs:List Value) (hs:a.eval s=v) (hown:w.ownsRow base e size v n xs)(AAu:Nat) (vx:Value) (m:Nat) (news:List Value) (hx:a.eval x=vx) (hsrc:w.ownsRow AAu e size vx m news) (h1:∀u∈news,u.oneCell'=cC)(h63:n+m<=maxLen) (hbytes:(n+m)*bytes<=140737488355328) (hbase:base<=w.heap.size)(h:∀v' w',w'.ownsRow base e size v' (n+m) (xs++news)->w.grownBy w' v.ownBlock->wpList P ops Q rest (a.put o.dst v') w'):wpList P ops Q (o::rest) a w:=by
 rcases hsrc.2 with⟨rfl,h0⟩|⟨g,cap,cur,rfl,h2⟩
 ·have hn:news=[]:=List.length_eq_zero_iff.1 (by rw[hsrc.1,h0];simp);subst hn;subst h0;exact wpList_append_own_none hgd s x t ho base e i size ht hi v n xs hs hown hx (h v w (by simpa using hown) (NM _ _))
 ·exact wpList_append_own w hgd s x t ho base e i z size bytes ht hi hz hsize hby hzs hsz v n xs hs hown ⟨g,0,cX⟩ m cap news hx hsrc.1 (hsrc.cells rfl) h1 h63 hbytes hbase (λv' w' k1 k2 _=>h v' w' k1 k2)
theorem Es(l:List UInt8):∀u∈l.map Gg,u.oneCell'=cC:=by
 intro u hu;obtain⟨b,_,rfl⟩:=List.mem_map.1 hu;rfl
section
open Go.ChangeShapes Go.WideShapes Go.ChangeAt
def Tryz.ownKnob:ownKnob prog.godebug=cX:=by kernel_rfl
def Tryz.laidOut:laidOutB prog=cC:=by kernel_rfl
theorem Nw{enc:TypeId×Value->H}(hl:laidOutB P=cC){W':World}(hb:AA6 W W'):∀(ts:List TypeId) (vs:List Value) (ds:List (DataW H)) (ps:List MemPlace),(∀t∈ts,P.readableRec t=cC)->(∀t∈ts,t<P.types.size)->DataW.TrodAll enc P W 0 (λ_=>cC) cC ts vs ds ps->(∀x∈ps,x.block<W.heap.size)->DataW.TrodAll enc P W' 0 (λb=>decide (b<W.heap.size)) cC ts vs ds ps:=by
 intro ts
 induction ts with
 |nil=>
  intro vs ds ps _ _ h _;obtain⟨rfl,rfl,rfl⟩:=trodAll_nil h
  exact trodAll_mk0
 |cons t ts ih=>
  intro vs ds ps hr ht h hlt;obtain⟨v,vs',d,ds',p,q,rfl,rfl,rfl,h1,h2⟩:=trodAll_cons h;exact trodAll_cons_mk (Below.trod hl (hr t (by simp)) (ht t (by simp)) h1 hb (λx hx=>hlt x (by simp[hx])))
   (ih vs' ds' q (λt ht=>hr t (by simp[ht])) (λt h=>ht t (by simp[h])) h2 (λx hx=>hlt x (by simp[hx])))
theorem law_post{enc:TypeId×Value->H}{f:Func}{s:ChangeSpec}{W':World}{args:Array Value}{ds gs:List (DataW H)}{before:List MemPlace}(hl:laidOutB P=cC) (hr:∀t∈f.params.toList,P.readableRec t=cC) (ht:∀t∈f.params.toList,t<P.types.size) (hvars:s.vars=[]) (hres:f.resultTypes=#[T]) (hT:P.underlying T=cP .bool)(hW:DataW.Whole enc P f.params.toList s.vars cA W args.toList ds gs before) (hfn:s.fn H (ds++gs)={results:=[.lit (.bool cC)],args:=ds}) (hb:AA6 W W'):s.post enc P f cA cC cA cA W args (cE cC) W':=by
 have hW':=hW;obtain⟨p,q,hA,hV,rfl,hfz,hnd⟩:=hW;rw[hvars]at hV;obtain⟨rfl,rfl⟩:=trodVars_none hV;have hlt:∀x∈p,x.block<W.heap.size:=λx hx=>by simpa using hW'.lt x (by simp[hx])
 refine⟨ds,[],_,[],p,[],hW',?_,?_,?_,hb.frame _,λh=>by cases h⟩
 ·rw[hfn,hres];exact trodAll_cons_mk (shut_bool hT _) trodAll_mk0
 ·rw[hfn];exact Nw hl hb _ _ _ _ hr ht hA hlt
 ·rw[hfn,hvars];exact rfl
def law_calls{enc:TypeId×Value->H}{F:FuncId}{f:Func}{s:ChangeSpec}{args:Array Value}{ds gs:List (DataW H)}{before:List MemPlace}(hl:laidOutB P=cC) (hr:∀t∈f.params.toList,P.readableRec t=cC) (ht:∀t∈f.params.toList,t<P.types.size) (hvars:s.vars=[]) (hres:f.resultTypes=#[T]) (hT:P.underlying T=cP .bool)(hW:DataW.Whole enc P f.params.toList s.vars cA W args.toList ds gs before) (hfn:s.fn H (ds++gs)={results:=[.lit (.bool cC)],args:=ds})(hc:Calls P F args W λe W'=>e=.returned (cE cC)/\AA6 W W'):Calls P F args W λe W'=>∃v,e=.returned v/\s.post enc P f cA cC cA cA W args v W':=
 hc.mono λ_ _ ⟨he,hb⟩=>⟨_,he,law_post hl hr ht hvars hres hT hW hfn hb⟩
def AAt{w1 w2:World}(h1:AA6 w w1)(h2:AA6 w1 w2):AA6 w w2:=h1.trans (h2.mono h1.size)
end
section
@[go_sem] theorem AGm (a c b d:Int) (s t:ByteArray) (w:World):(Op.equalIn 10000 77 (.agg #[cI cJ a,cS s,cI cJ b]) (.agg #[cI cJ c,cS t,cI cJ d])).run prog w=.ok (a==c&& (s.toList==t.toList)&&b==d) w:=by
 have u3:=underlying3;have u9:=underlying9;have u2:=underlying2;have a3:=Tryz.isAgg3;have z3:=Tryz.sizeOf3;have a9:=Tryz.isAgg9;have z9:=Tryz.sizeOf9;have a2:=Tryz.isAgg2;have z2:=Tryz.sizeOf2;have hS:prog.underlying 77=cP (.struct (prog.fieldsOf 77)):=by kernel_rfl
 have hp:prog.stoodInHeld 77=cA:=by kernel_rfl
 rw[show(10000:Nat)=9999+1 from rfl,run_equalIn_agg w 9999 77 _ _ hS hp];simp only[Program.fieldsOf,underlying77];go_simp;by_cases h1:a=c<;>by_cases h2:b=d<;>by_cases h3:s.toList=t.toList<;>simp[h1,h2,h3]
@[go_sem] theorem AJz (w:World):(Instr.build 77 #[]).run prog w=.ok (.agg #[cI cJ 0,.string {data:=#[]},cI cJ 0]) w:=run_build w 77 _ _ (by kernel_rfl)
@[go_sem] theorem AJy (a:Int) (s:ByteArray) (w:World):(Instr.build 77 #[(0,cI cJ a),(1,cS s)]).run prog w=.ok (.agg #[cI cJ a,cS s,cI cJ 0]) w:=run_build w 77 _ _ (by kernel_rfl)
@[go_sem] theorem AJx (a b:Int) (w:World):(Instr.build 77 #[(0,cI cJ a),(2,cI cJ b)]).run prog w=.ok (.agg #[cI cJ a,.string {data:=#[]},cI cJ b]) w:=run_build w 77 _ _ (by kernel_rfl)
def GQ{fn:Func}{p:Tmp}{ty:TypeId}(h:fn.results=#[.cell p ty])(tmps:Array Value)(P:Program)(w:World):(results fn tmps).run P w=((asAddr (tmps.getD p undef)).run P w).andThen λa w₁=>(loadVar ty a).run P w₁:=by
 simp only[results,h];simp
section
variable {P : Program} {fn : Func} {R : Ending -> World -> Prop} {a : Act} {w : World} {v : Value} {p u t : Tmp} {ty oo : TypeId}
def rO(h:fn.results=#[.cell p ty])(hr:(((asAddr (a.tmps.getD p undef)).run P w).andThen λb w₁=>(loadVar ty b).run P w₁)=.ok v w)(hd:a.defers=[])(hR:R (.returned v) w):bodyPost P fn R .ret a w:=
 bodyPost_ret_by ((GQ h _ _ _).trans hr) hd hR
end
end
theorem EZ(h:s=x):(s.toList==x.toList)=cC:=by rw[h];simp
theorem Ea(h:s≠x):(s.toList==x.toList)=cA:=by
 rw[beq_eq_false_iff_ne];intro e;apply h;rw[ByteArray.toList_eq,ByteArray.toList_eq]at e;cases s;cases x;simp_all
def Ai{α:Type}(nm:α->ByteArray)(x:ByteArray):List α->Option α
 | []=>cX
 |y::r=>if nm y=x then cP y else Ai nm x r
def rR(w':World)(r:Option Cl)(e:Ending):Prop:=match r with
 |some c=>∃v u,e=.returned (.tuple #[v,cE cC])/\jQ w' v c u
 |none=>e=.returned (.tuple #[.agg #[cS ⟨#[]⟩,cY cX 0 0],cE cA])
def AEn(w':World)(r:Option Fn)(e:Ending):Prop:=match r with
 |some c=>∃v u1 u2 u3,e=.returned (.tuple #[v,cE cC])/\EL w' v c u1 u2 u3
 |none=>e=.returned (.tuple #[.agg #[cS ⟨#[]⟩,cS ⟨#[]⟩,cY cX 0 0,cY cX 0 0,cY cX 0 0],cE cA])
def XA(_:World)(r:Option Vr)(e:Ending):Prop:=match r with
 |some c=>e=.returned (.tuple #[.agg #[cS c.n,cS c.t],cE cC])/\Sz c.n/\Sz c.t
 |none=>e=.returned (.tuple #[.agg #[cS ⟨#[]⟩,cS ⟨#[]⟩],cE cA])
def AEm(_:World)(r:Option Ex)(e:Ending):Prop:=match r with
 |some c=>e=.returned (.tuple #[.agg #[cS c.n,cI cJ c.k],cE cC])/\Sz c.n
 |none=>e=.returned (.tuple #[.agg #[cS ⟨#[]⟩,cI cJ 0],cE cA])
def Oo(s:ByteArray)(u1:Value)(w:World):Calls prog 192 #[.agg #[cS s,u1]] w λe w'=>e=.returned (cS s)/\AA6 w w':=by
 go_enter func192,ntmps192;go_wp2;go_ret;exact⟨rfl,AJ _ _⟩
def Om(s t:ByteArray)(u1 u2 u3:Value)(w:World):Calls prog 43 #[.agg #[cS s,cS t,u1,u2,u3]] w λe w'=>e=.returned (cS s)/\AA6 w w':=by
 go_enter func43,ntmps43;go_wp2;go_ret;exact⟨rfl,AJ _ _⟩
abbrev BA:ByteArray:=⟨#[105,110,116]⟩
abbrev Ao:ByteArray:=⟨#[102,108,111,97,116]⟩
abbrev Fx:ByteArray:=⟨#[110,117,108,108]⟩
def Dq(s:ByteArray):Bool:=decide (s≠BA)&&decide (s≠Ao)
def Du(a b:ByteArray):Bool:=decide (a=b)||(decide (a=Fx)&&Dq b)
def varOf(f:Fn)(x:ByteArray):Option Vr:=match Ai Vr.n x f.ps with
 |some v=>cP v
 |none=>Ai Vr.n x f.vs
def GJ(f:Fn)(a:Ag):Option ByteArray:=
 if a.k=1 then(varOf f a.s).map Vr.t else if a.k=2 then cP BA else if a.k=3 then cP Ao else if a.k=4 then cP Fx else cX
def EH(p:Pg)(c x:ByteArray):Option Vr:=match Ai Cl.n c p.cs with
 |none=>cX
 |some c=>Ai Vr.n x c.fs
def rQ(r:Option ByteArray)(e:Ending):Prop:=match r with
 |some t=>e=.returned (.tuple #[cS t,cE cC])/\Sz t
 |none=>e=.returned (.tuple #[cS ⟨#[]⟩,cE cA])
theorem FE{l:List UInt8}(h:s=⟨l.toArray⟩):(s.toList==l)=cC:=by simp_all
theorem D9{l:List UInt8}(h:s≠⟨l.toArray⟩):(s.toList==l)=cA:=by
 rw[beq_eq_false_iff_ne];intro e;apply h;rw[ByteArray.toList_eq]at e;cases s;simp only[ByteArray.mk.injEq];grind
def Ii(s:ByteArray)(w:World):Calls prog 126 #[cS s] w λe w'=>e=.returned (cE (Dq s))/\w=w':=by
 unfold Dq;by_cases h1:s=BA
 ·have e1:=FE (l:=[105,110,116]) h1;rw[decide_eq_false (by simpa using h1),Bool.false_and];clear h1;go_enter func126,ntmps126;go_wp2;go_ret;exact⟨rfl,rfl⟩
 ·have e1:=D9 (l:=[105,110,116]) h1;rw[decide_eq_true (by simpa using h1),Bool.true_and];by_cases h2:s=Ao
  ·have e2:=FE (l:=[102,108,111,97,116]) h2;rw[decide_eq_false (by simpa using h2)];clear h1 h2;go_enter func126,ntmps126;go_wp2;go_ret;exact⟨rfl,rfl⟩
  ·have e2:=D9 (l:=[102,108,111,97,116]) h2;rw[decide_eq_true (by simpa using h2)];clear h1 h2;go_enter func126,ntmps126;go_wp2;go_ret;exact⟨rfl,rfl⟩
theorem Gt(s t:ByteArray)(w:World):Calls prog 182 #[cS s,cS t] w λe w'=>e=.returned (cE (Du s t))/\w=w':=by
 unfold Du;have hR:=Ii t w;by_cases h1:s=t
 ·have e1:=EZ h1;rw[decide_eq_true h1,Bool.true_or];clear h1 hR;go_enter func182,ntmps182;go_wp2;go_ret;exact⟨rfl,rfl⟩
 ·have e1:=Ea h1;rw[decide_eq_false h1,Bool.false_or];clear h1;by_cases h2:s=Fx
  ·have e2:=FE (l:=[110,117,108,108]) h2;rw[decide_eq_true h2,Bool.true_and];clear h2;generalize Dq t=b at*;go_enter func182,ntmps182;go_wp2_with fail;refine hR.mono ?_;rintro e w1 ⟨rfl,rfl⟩;go_wp2;go_ret;exact⟨rfl,rfl⟩
  ·have e2:=D9 (l:=[110,117,108,108]) h2;rw[decide_eq_false h2,Bool.false_and];clear h2 hR;go_enter func182,ntmps182;go_wp2;go_ret;exact⟨rfl,rfl⟩
theorem MU(h0:AA6 w0 w){l:List Vr}(hl:Row IU 2 w0 v l)(x:ByteArray):Calls prog 220 #[v,cS x] w λe w'=>AA6 w w'/\XA w0 (Ai Vr.n x l) e:=by
 obtain⟨p,cu,rfl,-,hn,hl⟩:=hl;generalize hf:Ai Vr.n x l=r0;go_enter func220,ntmps220;go_wp2;go_loopw[6] (λi wr=>∃q:Nat,q<=l.length/\i=cI cJ (q:Int)/\AA6 w wr/\Ae wr w.heap.size [cS ⟨#[]⟩,cS ⟨#[]⟩]/\Ai Vr.n x (l.drop q)=r0) (λi _=>l.length-(intOf i).toNat);exact⟨0,AY,rfl,AJ _ _,Ae.alloc w [cS ⟨#[]⟩,cS ⟨#[]⟩] _,hf⟩;obtain⟨q,hq,rfl,hb,hB,hf⟩:=hrel;obtain⟨d0,d1⟩:=hB.c2;obtain⟨g0,g1⟩:=hB.f2;by_cases hend:q=l.length
 ·subst hend;rw[List.drop_length]at hf;subst hf;have hb6:=(hb.setCell (p:=⟨w.heap.size,0,cX⟩) (AQ) (cS ⟨#[]⟩)).setCell (p:=⟨w.heap.size,1,cX⟩) (AQ) (cS ⟨#[]⟩);go_wp2;(refine rB rfl (by go_simp;try rfl) rfl ?_);exact⟨hb6,rfl⟩
 ·have hlt:q<l.length:=by omega
  have A8:(q:Int)<l.length:=by omega
  rw[List.drop_eq_getElem_cons hlt,Ai]at hf;obtain⟨a,rfl,hA⟩:=hl q l[q] (by simp[hlt]);generalize l[q]=y at*;obtain⟨⟨c0,z0⟩,c1,z1⟩:=hA;have c0:=AA (AB h0 hb) c0;have c1:=AA (AB h0 hb) c1;by_cases hy:y.n=x
  ·have he:=EZ hy;rw[if_pos hy]at hf;subst hf;have hb6:=(hb.setCell (p:=⟨w.heap.size,0,cX⟩) (AQ) (cS y.n)).setCell (p:=⟨w.heap.size,1,cX⟩) (AQ) (cS y.t);clear hy hB hb hend hq hlt;go_wp2;(refine rB rfl (by go_simp;try rfl) rfl ?_);exact⟨hb6,rfl,z0,z1⟩
  ·have he:=Ea hy;rw[if_neg hy]at hf;go_wp2;go_roundw;exact⟨q+1,by omega,by go_num,hb,hB,hf⟩;simp[intOf];omega
theorem Hq(h0:AA6 w0 w){p:Pg}(hp:Cj w0 v p v1 v2 v3 v4)(x:ByteArray):Calls prog 94 #[v,cS x] w λe w'=>AA6 w w'/\rR w0 (Ai Cl.n x p.cs) e:=by
 obtain⟨rfl,hc,hg,hx,hf⟩:=hp;obtain⟨pl,kl,rfl,-,hn,hl⟩:=hc;have hb1:=AJ w (.cells #[cE p.ssa,(cY pl p.cs.length kl),v2,v3,v4] 27);have hb2:=hb1.alloc hb1.size (.cells #[cS ⟨#[]⟩,cY cX 0 0] 153);have hP:=(Ae.alloc w [cE p.ssa,(cY pl p.cs.length kl),v2,v3,v4] 27).al (.cells #[cS ⟨#[]⟩,cY cX 0 0] 153);have hB:=Ae.alloc (w.alloc (.cells #[cE p.ssa,(cY pl p.cs.length kl),v2,v3,v4] 27)) [(cS ⟨#[]⟩),(cY cX 0 0)] 153;have hs:(w.alloc (.cells #[cE p.ssa,(cY pl p.cs.length kl),v2,v3,v4] 27)).heap.size=w.heap.size+1:=by simp
 rw[hs]at hB;generalize hf:Ai Cl.n x p.cs=r0;go_enter func94,ntmps94;go_wp2;go_loopw[6] (λi wr=>∃q:Nat,q<=p.cs.length/\i=cI cJ (q:Int)/\AA6 w wr/\Ae wr w.heap.size [cE p.ssa,(cY pl p.cs.length kl),v2,v3,v4]/\Ae wr (w.heap.size+1) [(cS ⟨#[]⟩),(cY cX 0 0)]/\Ai Cl.n x (p.cs.drop q)=r0) (λi _=>p.cs.length-(intOf i).toNat);exact⟨0,AY,rfl,hb2,hP,hB,hf⟩;clear hb2 hP hB hf;obtain⟨q,hq,rfl,hb,hP,hB,hf⟩:=hrel;have p1:=hP.c 1 _ rfl;have hw1:w.heap.size<=w.heap.size+1:=Aa;have hlt2:=hB.lt;obtain⟨d0,d1⟩:=hB.c2;obtain⟨g0,g1⟩:=hB.f2;by_cases hend:q=p.cs.length
 ·subst hend;rw[List.drop_length]at hf;subst hf;have hb6:=hb;have hb6:=hb6.setCell (p:=⟨w.heap.size+1,0,cX⟩) hw1 (cS ⟨#[]⟩);have hb6:=hb6.setCell (p:=⟨w.heap.size+1,1,cX⟩) hw1 (cY cX 0 0);go_wp2;(refine rB rfl (by go_simp;try rfl) rfl ?_);exact⟨hb6,rfl⟩
 ·have hlt:q<p.cs.length:=by omega
  have A8:(q:Int)<p.cs.length:=by omega
  rw[List.drop_eq_getElem_cons hlt,Ai]at hf;obtain⟨a,rfl,hA⟩:=hl q p.cs[q] (by simp[hlt]);clear hl;generalize p.cs[q]=y at*;obtain⟨⟨c0,z0⟩,u1,c1,r1⟩:=hA;have hb0:=AB h0 hb;have c0:=AA hb0 c0;have c1:=AA hb0 c1;obtain⟨p1',k1,rfl⟩:=r1.slice;by_cases hy:y.n=x
  ·have he:=EZ hy;rw[if_pos hy]at hf;subst hf;have hb6:=hb;have hb6:=hb6.setCell (p:=⟨w.heap.size+1,0,cX⟩) hw1 (cS y.n);have hb6:=hb6.setCell (p:=⟨w.heap.size+1,1,cX⟩) hw1 (cY p1' y.fs.length k1);clear hy hP hB hb hend hq hlt;go_wp2;(refine rB rfl (by go_simp;try rfl) rfl ?_);exact⟨hb6,_,_,rfl,⟨rfl,z0,r1⟩⟩
  ·have he:=Ea hy;rw[if_neg hy]at hf;go_wp2;go_roundw;exact⟨q+1,by omega,by go_num,hb,hP,hB,hf⟩;simp[intOf];omega
theorem Uf(h0:AA6 w0 w){p:Pg}(hp:Cj w0 v p v1 v2 v3 v4)(x:ByteArray):Calls prog 32 #[v,cS x] w λe w'=>AA6 w w'/\AEn w0 (Ai Fn.n x p.fs) e:=by
 obtain⟨rfl,hc,hg,hx,hf⟩:=hp;obtain⟨pl,kl,rfl,-,hn,hl⟩:=hf;have hb1:=AJ w (.cells #[cE p.ssa,v1,v2,v3,(cY pl p.fs.length kl)] 27);have hb2:=hb1.alloc hb1.size (.cells #[cS ⟨#[]⟩,cS ⟨#[]⟩,cY cX 0 0,cY cX 0 0,cY cX 0 0] 66);have hP:=(Ae.alloc w [cE p.ssa,v1,v2,v3,(cY pl p.fs.length kl)] 27).al (.cells #[cS ⟨#[]⟩,cS ⟨#[]⟩,cY cX 0 0,cY cX 0 0,cY cX 0 0] 66);have hB:=Ae.alloc (w.alloc (.cells #[cE p.ssa,v1,v2,v3,(cY pl p.fs.length kl)] 27)) [(cS ⟨#[]⟩),(cS ⟨#[]⟩),(cY cX 0 0),(cY cX 0 0),(cY cX 0 0)] 66;have hs:(w.alloc (.cells #[cE p.ssa,v1,v2,v3,(cY pl p.fs.length kl)] 27)).heap.size=w.heap.size+1:=by simp
 rw[hs]at hB;generalize hf:Ai Fn.n x p.fs=r0;go_enter func32,ntmps32;go_wp2;go_loopw[6] (λi wr=>∃q:Nat,q<=p.fs.length/\i=cI cJ (q:Int)/\AA6 w wr/\Ae wr w.heap.size [cE p.ssa,v1,v2,v3,(cY pl p.fs.length kl)]/\Ae wr (w.heap.size+1) [(cS ⟨#[]⟩),(cS ⟨#[]⟩),(cY cX 0 0),(cY cX 0 0),(cY cX 0 0)]/\Ai Fn.n x (p.fs.drop q)=r0) (λi _=>p.fs.length-(intOf i).toNat);exact⟨0,AY,rfl,hb2,hP,hB,hf⟩;clear hb2 hP hB hf;obtain⟨q,hq,rfl,hb,hP,hB,hf⟩:=hrel;have p1:=hP.c 4 _ rfl;have hw1:w.heap.size<=w.heap.size+1:=Aa;have hlt2:=hB.lt;obtain⟨d0,d1,d2,d3,d4⟩:=hB.c5;obtain⟨g0,g1,g2,g3,g4⟩:=hB.f5;by_cases hend:q=p.fs.length
 ·subst hend;rw[List.drop_length]at hf;subst hf;have hb6:=hb;have hb6:=hb6.setCell (p:=⟨w.heap.size+1,0,cX⟩) hw1 (cS ⟨#[]⟩);have hb6:=hb6.setCell (p:=⟨w.heap.size+1,1,cX⟩) hw1 (cS ⟨#[]⟩);have hb6:=hb6.setCell (p:=⟨w.heap.size+1,2,cX⟩) hw1 (cY cX 0 0);have hb6:=hb6.setCell (p:=⟨w.heap.size+1,3,cX⟩) hw1 (cY cX 0 0);have hb6:=hb6.setCell (p:=⟨w.heap.size+1,4,cX⟩) hw1 (cY cX 0 0);go_wp2;(refine rB rfl (by go_simp;try rfl) rfl ?_);exact⟨hb6,rfl⟩
 ·have hlt:q<p.fs.length:=by omega
  have A8:(q:Int)<p.fs.length:=by omega
  rw[List.drop_eq_getElem_cons hlt,Ai]at hf;obtain⟨a,rfl,hA⟩:=hl q p.fs[q] (by simp[hlt]);clear hl;generalize p.fs[q]=y at*;obtain⟨⟨c0,z0⟩,⟨c1,z1⟩,⟨u1,c2,r1⟩,⟨u2,c3,r2⟩,u3,c4,r3⟩:=hA;have hb0:=AB h0 hb;have c0:=AA hb0 c0;have c1:=AA hb0 c1;have c2:=AA hb0 c2;have c3:=AA hb0 c3;have c4:=AA hb0 c4;obtain⟨p1',k1,rfl⟩:=r1.slice;obtain⟨p2',k2,rfl⟩:=r2.slice;obtain⟨uw,k3,rfl⟩:=r3.slice;by_cases hy:y.n=x
  ·have he:=EZ hy;rw[if_pos hy]at hf;subst hf;have hb6:=hb;have hb6:=hb6.setCell (p:=⟨w.heap.size+1,0,cX⟩) hw1 (cS y.n);have hb6:=hb6.setCell (p:=⟨w.heap.size+1,1,cX⟩) hw1 (cS y.r);have hb6:=hb6.setCell (p:=⟨w.heap.size+1,2,cX⟩) hw1 (cY p1' y.ps.length k1);have hb6:=hb6.setCell (p:=⟨w.heap.size+1,3,cX⟩) hw1 (cY p2' y.vs.length k2);have hb6:=hb6.setCell (p:=⟨w.heap.size+1,4,cX⟩) hw1 (cY uw y.bs.length k3);clear hy hP hB hb hend hq hlt;go_wp2;(refine rB rfl (by go_simp;try rfl) rfl ?_);exact⟨hb6,_,_,_,_,rfl,⟨rfl,⟨z0,z1⟩,r1,r2,r3⟩⟩
  ·have he:=Ea hy;rw[if_neg hy]at hf;go_wp2;go_roundw;exact⟨q+1,by omega,by go_num,hb,hP,hB,hf⟩;simp[intOf];omega
theorem Ue(h0:AA6 w0 w){p:Pg}(hp:Cj w0 v p v1 v2 v3 v4)(x:ByteArray):Calls prog 186 #[v,cS x] w λe w'=>AA6 w w'/\AEm w0 (Ai Ex.n x p.xs) e:=by
 obtain⟨rfl,hc,hg,hx,hf⟩:=hp;obtain⟨pl,kl,rfl,-,hn,hl⟩:=hx;have hb1:=AJ w (.cells #[cE p.ssa,v1,v2,(cY pl p.xs.length kl),v4] 27);have hb2:=hb1.alloc hb1.size (.cells #[cS ⟨#[]⟩,cI cJ 0] 155);have hP:=(Ae.alloc w [cE p.ssa,v1,v2,(cY pl p.xs.length kl),v4] 27).al (.cells #[cS ⟨#[]⟩,cI cJ 0] 155);have hB:=Ae.alloc (w.alloc (.cells #[cE p.ssa,v1,v2,(cY pl p.xs.length kl),v4] 27)) [(cS ⟨#[]⟩),(cI cJ 0)] 155;have hs:(w.alloc (.cells #[cE p.ssa,v1,v2,(cY pl p.xs.length kl),v4] 27)).heap.size=w.heap.size+1:=by simp
 rw[hs]at hB;generalize hf:Ai Ex.n x p.xs=r0;go_enter func186,ntmps186;go_wp2;go_loopw[6] (λi wr=>∃q:Nat,q<=p.xs.length/\i=cI cJ (q:Int)/\AA6 w wr/\Ae wr w.heap.size [cE p.ssa,v1,v2,(cY pl p.xs.length kl),v4]/\Ae wr (w.heap.size+1) [(cS ⟨#[]⟩),(cI cJ 0)]/\Ai Ex.n x (p.xs.drop q)=r0) (λi _=>p.xs.length-(intOf i).toNat);exact⟨0,AY,rfl,hb2,hP,hB,hf⟩;clear hb2 hP hB hf;obtain⟨q,hq,rfl,hb,hP,hB,hf⟩:=hrel;have p1:=hP.c 3 _ rfl;have hw1:w.heap.size<=w.heap.size+1:=Aa;have hlt2:=hB.lt;obtain⟨d0,d1⟩:=hB.c2;obtain⟨g0,g1⟩:=hB.f2;by_cases hend:q=p.xs.length
 ·subst hend;rw[List.drop_length]at hf;subst hf;have hb6:=hb;have hb6:=hb6.setCell (p:=⟨w.heap.size+1,0,cX⟩) hw1 (cS ⟨#[]⟩);have hb6:=hb6.setCell (p:=⟨w.heap.size+1,1,cX⟩) hw1 (cI cJ 0);go_wp2;(refine rB rfl (by go_simp;try rfl) rfl ?_);exact⟨hb6,rfl⟩
 ·have hlt:q<p.xs.length:=by omega
  have A8:(q:Int)<p.xs.length:=by omega
  rw[List.drop_eq_getElem_cons hlt,Ai]at hf;obtain⟨a,rfl,hA⟩:=hl q p.xs[q] (by simp[hlt]);clear hl;generalize p.xs[q]=y at*;obtain⟨⟨c0,z0⟩,c1⟩:=hA;have hb0:=AB h0 hb;have c0:=AA hb0 c0;have c1:=AA hb0 c1;by_cases hy:y.n=x
  ·have he:=EZ hy;rw[if_pos hy]at hf;subst hf;have hb6:=hb;have hb6:=hb6.setCell (p:=⟨w.heap.size+1,0,cX⟩) hw1 (cS y.n);have hb6:=hb6.setCell (p:=⟨w.heap.size+1,1,cX⟩) hw1 (cI cJ y.k);clear hy hP hB hb hend hq hlt;go_wp2;(refine rB rfl (by go_simp;try rfl) rfl ?_);exact⟨hb6,rfl,z0⟩
  ·have he:=Ea hy;rw[if_neg hy]at hf;go_wp2;go_roundw;exact⟨q+1,by omega,by go_num,hb,hP,hB,hf⟩;simp[intOf];omega
theorem XF{v:Vr}(h:Ai Vr.n x f.ps=cP v):varOf f x=cP v:=by simp only[varOf,h]
theorem bC(h:Ai Vr.n x f.ps=cX):varOf f x=Ai Vr.n x f.vs:=by simp only[varOf,h]
theorem Rb(h0:AA6 w0 w)(hf:EL w0 v f u1 u2 u3)(x:ByteArray):Calls prog 180 #[v,cS x] w λe w'=>AA6 w w'/\XA w0 (varOf f x) e:=by
 obtain⟨rfl,hz,hp,hv,hbk⟩:=hf;obtain⟨p1,k1,rfl⟩:=hp.slice;obtain⟨p2,k2,rfl⟩:=hv.slice;obtain⟨p3,k3,rfl⟩:=hbk.slice;clear hbk;have hb1:=AJ w (.cells #[cS f.n,cS f.r,cY p1 f.ps.length k1,cY p2 f.vs.length k2,cY p3 f.bs.length k3] 66);have hb2:=hb1.alloc hb1.size (.cells #[cS ⟨#[]⟩,cS ⟨#[]⟩] 71);have hF:=(Ae.alloc w [cS f.n,cS f.r,cY p1 f.ps.length k1,cY p2 f.vs.length k2,cY p3 f.bs.length k3] 66).al (.cells #[cS ⟨#[]⟩,cS ⟨#[]⟩] 71);have hB:=Ae.alloc (w.alloc (.cells #[cS f.n,cS f.r,cY p1 f.ps.length k1,cY p2 f.vs.length k2,cY p3 f.bs.length k3] 66)) [cS ⟨#[]⟩,cS ⟨#[]⟩] 71;have hs:(w.alloc (.cells #[cS f.n,cS f.r,cY p1 f.ps.length k1,cY p2 f.vs.length k2,cY p3 f.bs.length k3] 66)).heap.size=w.heap.size+1:=by simp
 rw[hs]at hB;have hC:=MU (AB h0 hb2) hp x;have hw1:w.heap.size<=w.heap.size+1:=Aa;clear hb1 hs hp;obtain⟨R,hR⟩:∃R,R=varOf f x:=⟨_,rfl⟩;rw[<-hR];go_enter func180,ntmps180;go_wp2_with fail;refine hC.mono ?_;rintro e w1 ⟨hb3,ho⟩;have FM:=AB hb2 hb3;have hF1:=hF.nx hb3;have hB1:=hB.nx hb3;clear hC hb2 hb3 hF hB
 cases hr:Ai Vr.n x f.ps with
 |some c=>
  rw[hr]at ho;obtain⟨rfl,hz1,hz2⟩:=ho;rw[XF hr]at hR;subst hR;have hb6:=(FM.setCell (p:=⟨w.heap.size+1,0,cX⟩) hw1 (cS c.n)).setCell (p:=⟨w.heap.size+1,1,cX⟩) hw1 (cS c.t);have hb6:=hb6.alloc hb6.size (.cells #[cS c.n,cS c.t] 71);obtain⟨b0,b1⟩:=hB1.c2;obtain⟨g0,g1⟩:=hB1.f2;have hl1:=hB1.lt;clear hr hv hF1 hB1 FM;go_wp2;(refine rB rfl (by go_simp;try rfl) rfl ?_)
  exact⟨hb6,rfl,hz1,hz2⟩
 |none=>
  rw[hr]at ho;obtain rfl:e=_:=ho;rw[bC hr]at hR;have hb4:=FM.alloc FM.size (.cells #[cS ⟨#[]⟩,cS ⟨#[]⟩] 71);have hF2:=hF1.al (.cells #[cS ⟨#[]⟩,cS ⟨#[]⟩] 71);have hB2:=hB1.al (.cells #[cS ⟨#[]⟩,cS ⟨#[]⟩] 71);have hC:=MU (AB h0 hb4) hv x;have a3:=hF2.c 3 _ rfl;clear hr hv hF1 hB1 hF2 FM;go_wp2_with fail;refine hC.mono ?_;rintro e w2 ⟨hb5,ho⟩;have hB3:=hB2.nx hb5;have LY:=AB hb4 hb5;obtain⟨b0,b1⟩:=hB3.c2;obtain⟨g0,g1⟩:=hB3.f2;clear hC hb4 hb5 hB2 hB3 a3
  cases hr:Ai Vr.n x f.vs with
  |some c=>
   rw[hr]at ho hR;subst hR;obtain⟨rfl,hz1,hz2⟩:=ho;have hb6:=(LY.setCell (p:=⟨w.heap.size+1,0,cX⟩) hw1 (cS c.n)).setCell (p:=⟨w.heap.size+1,1,cX⟩) hw1 (cS c.t);clear hr LY;go_wp2;(refine rB rfl (by go_simp;try rfl) rfl ?_)
   exact⟨hb6,rfl,hz1,hz2⟩
  |none=>
   rw[hr]at ho hR;subst hR;obtain rfl:e=_:=ho;have hb6:=(LY.setCell (p:=⟨w.heap.size+1,0,cX⟩) hw1 (cS ⟨#[]⟩)).setCell (p:=⟨w.heap.size+1,1,cX⟩) hw1 (cS ⟨#[]⟩);clear hr LY;go_wp2;(refine rB rfl (by go_simp;try rfl) rfl ?_);exact⟨hb6,rfl⟩
theorem Vj(h0:AA6 w0 w)(hf:EL w0 v f u1 u2 u3)(a:Ag):Calls prog 181 #[v,.agg #[cI cJ a.k,cS a.s,cI cJ a.n]] w λe w'=>AA6 w w'/\rQ (GJ f a) e:=by
 obtain⟨k,s,n⟩:=a;have J6:=hf;obtain⟨rfl,hz,hp,hv,hbk⟩:=hf;obtain⟨p1,k1,rfl⟩:=hp.slice;obtain⟨p2,k2,rfl⟩:=hv.slice;obtain⟨p3,k3,rfl⟩:=hbk.slice;clear hbk hp hv;unfold GJ;dsimp only;have hb1:=AJ w (.cells #[cS f.n,cS f.r,cY p1 f.ps.length k1,cY p2 f.vs.length k2,cY p3 f.bs.length k3] 66);have hb2:=hb1.alloc hb1.size (.cells #[cI cJ k,cS s,cI cJ n] 77);have hC:=Rb (AB h0 hb2) J6 s;clear hb1;by_cases e1:k=1
 ·rw[if_pos e1];subst e1;generalize hr:varOf f s=r at*;clear hr;go_enter func181,ntmps181;go_wp2_with fail;refine hC.mono ?_;rintro e w1 ⟨hb3,ho⟩;have FM:=AB hb2 hb3;clear hC hb2 hb3
  cases r with
  |some c=>
   obtain⟨rfl,hz1,hz2⟩:=ho;have hb6:=FM.alloc FM.size (.cells #[cS c.n,cS c.t] 71);clear FM;go_wp2;go_ret2
   exact⟨hb6,rfl,hz2⟩
  |none=>
   obtain rfl:e=_:=ho;have hb6:=FM.alloc FM.size (.cells #[cS ⟨#[]⟩,cS ⟨#[]⟩] 71);clear FM;go_wp2;go_ret2;exact⟨hb6,rfl⟩
 ·rw[if_neg e1];clear hC;have hb6:=hb2.alloc hb2.size (.cells #[cS ⟨#[]⟩,cS ⟨#[]⟩,cS BA,cS Ao,cS Fx] 300);by_cases e2:k=2
  ·rw[if_pos e2];subst e2;clear e1;go_enter func181,ntmps181;go_wp2;go_ret2;exact⟨by first|exact hb6|exact hb2,rfl,by unfold Sz;decide⟩
  ·rw[if_neg e2];by_cases e3:k=3
   ·rw[if_pos e3];subst e3;clear e1 e2;go_enter func181,ntmps181;go_wp2;go_ret2;exact⟨by first|exact hb6|exact hb2,rfl,by unfold Sz;decide⟩
   ·rw[if_neg e3];by_cases e4:k=4
    ·rw[if_pos e4];subst e4;clear e1 e2 e3;go_enter func181,ntmps181;go_wp2;go_ret2;exact⟨by first|exact hb6|exact hb2,rfl,by unfold Sz;decide⟩
    ·rw[if_neg e4];clear hb6;by_cases g2:2<=k
     ·have g4:¬k<=4:=(by omega);go_enter func181,ntmps181;go_wp2;go_ret2;exact⟨hb2,rfl⟩
     ·go_enter func181,ntmps181;go_wp2;go_ret2;exact⟨hb2,rfl⟩
structure Fm where (d n:Bool) (l m:Int)
def BH(op:Int):Option Fm:=
 if 1<=op/\op<=21 then cP ⟨cC,cA,2,2⟩else if 22<=op/\op<=24 then cP ⟨cC,cA,1,1⟩
 else if op=25 then cP ⟨cC,cC,0,8⟩else if op=26 then cP ⟨cC,cC,1,1⟩else if op=27 then cP ⟨cA,cC,2,2⟩else if op=28 then cP ⟨cC,cA,2,2⟩
 else if op=29 then cP ⟨cC,cC,0,0⟩else if op=30 then cP ⟨cA,cC,1,1⟩else if op=31 then cP ⟨cC,cC,0,8⟩else if op=32 then cP ⟨cC,cC,0,8⟩
 else if op=33 then cP ⟨cA,cA,1,1⟩else if op=34 then cP ⟨cA,cA,0,0⟩else cX
theorem jv{E:World->Addr->α->Prop}{sz:Nat}:Row E sz w (cY cX 0 0) []:=⟨cX,0,rfl,λ_=>⟨rfl,rfl⟩,⟨AY,AQ⟩,λi x h=>by cases h⟩
theorem Sl{p:Pg}{c:ByteArray}{k:Cl}(h:Ai Cl.n c p.cs=cP k):EH p c x=Ai Vr.n x k.fs:=by simp only[EH,h]
theorem U5{p:Pg}{c:ByteArray}(h:Ai Cl.n c p.cs=cX):EH p c x=cX:=by simp only[EH,h]
theorem Ri(h0:AA6 w0 w){p:Pg}{u4:Value}(hp:Cj w0 v p u1 u2 u3 u4)(c x:ByteArray):Calls prog 184 #[v,cS c,cS x] w λe w'=>AA6 w w'/\XA w0 (EH p c x) e:=by
 have hpv:=hp;obtain⟨rfl,hc,hg,hx,hf⟩:=hp;obtain⟨p1,k1,rfl⟩:=hc.slice;obtain⟨p2,k2,rfl⟩:=hg.slice;obtain⟨p3,k3,rfl⟩:=hx.slice;obtain⟨p4,k4,rfl⟩:=hf.slice;clear hc hg hx hf;have hb1:=AJ w (.cells #[cE p.ssa,cY p1 p.cs.length k1,cY p2 p.gs.length k2,cY p3 p.xs.length k3,cY p4 p.fs.length k4] 27);have hb2:=hb1.alloc hb1.size (.cells #[cS ⟨#[]⟩,cS ⟨#[]⟩] 71);have hB:=Ae.alloc (w.alloc (.cells #[cE p.ssa,cY p1 p.cs.length k1,cY p2 p.gs.length k2,cY p3 p.xs.length k3,cY p4 p.fs.length k4] 27)) [cS ⟨#[]⟩,cS ⟨#[]⟩] 71;have hs:(w.alloc (.cells #[cE p.ssa,cY p1 p.cs.length k1,cY p2 p.gs.length k2,cY p3 p.xs.length k3,cY p4 p.fs.length k4] 27)).heap.size=w.heap.size+1:=by simp
 rw[hs]at hB;have hC:=Hq (AB h0 hb2) hpv c;have hw1:w.heap.size<=w.heap.size+1:=Aa;clear hb1 hs hpv;obtain⟨R,hR⟩:∃R,R=EH p c x:=⟨_,rfl⟩;rw[<-hR];go_enter func184,ntmps184;go_wp2_with fail;refine hC.mono ?_;rintro e w1 ⟨hb3,ho⟩;have FM:=AB hb2 hb3;have hB1:=hB.nx hb3;have hl1:=hB1.lt;clear hC hb2 hb3 hB
 cases hr:Ai Cl.n c p.cs with
 |none=>
  rw[hr]at ho;obtain rfl:e=_:=ho;rw[U5 hr]at hR;subst hR;clear hr;cases hcase:decide (1=0)
  case true=>
   first
    |(exact absurd hcase (by decide))
    |(
     have b0:=hB1.c 0 _ rfl;have b1:=hB1.c 1 _ rfl;obtain⟨g0,g1⟩:=hB1.f2;have hb6:=(FM.setCell (p:=⟨w.heap.size+1,0,cX⟩) hw1 (cS ⟨#[]⟩)).setCell (p:=⟨w.heap.size+1,1,cX⟩) hw1 (cS ⟨#[]⟩);have hb6:=hb6.alloc hb6.size (.cells #[cS ⟨#[]⟩,cY cX 0 0] 153);clear FM hB1 hcase;go_wp2_with fail;(refine rB rfl (by go_simp;try rfl) rfl ?_)
     exact⟨hb6,rfl⟩)
  case false=>
   first
    |(exact absurd hcase (by decide))
    |(
     have hb4:=FM.alloc FM.size (.cells #[cS ⟨#[]⟩,cY cX 0 0] 153);have hB2:=hB1.al (.cells #[cS ⟨#[]⟩,cY cX 0 0] 153);have hD:=MU (AB h0 hb4) (jv (E:=IU) (sz:=2) (w:=w0)) x;clear FM hB1 hcase;go_wp2_with fail;refine hD.mono ?_;rintro e w2 ⟨hb5,ho⟩;obtain rfl:e=_:=ho;have LY:=AB hb4 hb5;have hB3:=hB2.nx hb5;obtain⟨b0,b1⟩:=hB3.c2;obtain⟨g0,g1⟩:=hB3.f2;have hb6:=(LY.setCell (p:=⟨w.heap.size+1,0,cX⟩) hw1 (cS ⟨#[]⟩)).setCell (p:=⟨w.heap.size+1,1,cX⟩) hw1 (cS ⟨#[]⟩);clear hD hb4 hb5 LY hB2 hB3;go_wp2_with fail;(refine rB rfl (by go_simp;try rfl) rfl ?_)
     exact⟨hb6,rfl⟩)
 |some k=>
  rw[hr]at ho;obtain⟨v1,uf,rfl,rfl,hz,hkf⟩:=ho;obtain⟨pf,kf,rfl⟩:=hkf.slice;rw[Sl hr]at hR;clear hr;have hb4:=FM.alloc FM.size (.cells #[cS k.n,cY pf k.fs.length kf] 153);have hB2:=hB1.al (.cells #[cS k.n,cY pf k.fs.length kf] 153);have hD:=MU (AB h0 hb4) hkf x;clear FM hB1 hkf;go_wp2_with fail;refine hD.mono ?_;rintro e w2 ⟨hb5,ho⟩;have LY:=AB hb4 hb5;have hB3:=hB2.nx hb5;obtain⟨b0,b1⟩:=hB3.c2;obtain⟨g0,g1⟩:=hB3.f2;rw[<-hR]at ho;clear hD hb4 hb5 hB2 hB3 hR
  cases R with
  |none=>
   obtain rfl:e=_:=ho;have hb6:=(LY.setCell (p:=⟨w.heap.size+1,0,cX⟩) hw1 (cS ⟨#[]⟩)).setCell (p:=⟨w.heap.size+1,1,cX⟩) hw1 (cS ⟨#[]⟩);clear LY;go_wp2_with fail;(refine rB rfl (by go_simp;try rfl) rfl ?_)
   exact⟨hb6,rfl⟩
  |some y=>
   obtain⟨rfl,hz1,hz2⟩:=ho;have hb6:=(LY.setCell (p:=⟨w.heap.size+1,0,cX⟩) hw1 (cS y.n)).setCell (p:=⟨w.heap.size+1,1,cX⟩) hw1 (cS y.t);clear LY;go_wp2_with fail;(refine rB rfl (by go_simp;try rfl) rfl ?_);exact⟨hb6,rfl,hz1,hz2⟩
theorem Oc(h0:AA6 w0 w){p:Pg}{u4:Value}(hp:Cj w0 v p u1 u2 u3 u4)(x:ByteArray):Calls prog 185 #[v,cS x] w λe w'=>AA6 w w'/\XA w0 (Ai Vr.n x p.gs) e:=by
 obtain⟨rfl,hc,hg,hx,hf⟩:=hp;have hb1:=AJ w (.cells #[cE p.ssa,u1,u2,u3,u4] 27);have hb2:=hb1.alloc hb1.size (.cells #[cS ⟨#[]⟩,cS ⟨#[]⟩] 71);have hB:=Ae.alloc (w.alloc (.cells #[cE p.ssa,u1,u2,u3,u4] 27)) [cS ⟨#[]⟩,cS ⟨#[]⟩] 71;have hF:=MU (AB h0 hb2) hg x;generalize Ai Vr.n x p.gs=r at*;have hs:(w.alloc (.cells #[cE p.ssa,u1,u2,u3,u4] 27)).heap.size=w.heap.size+1:=by simp
 rw[hs]at hB;go_enter func185,ntmps185;go_wp2_with fail;refine hF.mono ?_;rintro e w1 ⟨hb4,ho⟩;have hB1:=hB.nx hb4;have hb5:=AB hb2 hb4;have hw1:w.heap.size<=w.heap.size+1:=by omega
 obtain⟨b0,b1⟩:=hB1.c2;obtain⟨g0,g1⟩:=hB1.f2
 cases r with
 |none=>
  obtain rfl:e=_:=ho;have hb6:=(hb5.setCell (p:=⟨w.heap.size+1,0,cX⟩) hw1 (cS ⟨#[]⟩)).setCell (p:=⟨w.heap.size+1,1,cX⟩) hw1 (cS ⟨#[]⟩);go_wp2;(refine rB rfl (by go_simp;try rfl) rfl ?_)
  exact⟨hb6,rfl⟩
 |some c=>
  obtain⟨rfl,hz⟩:=ho;have hb6:=(hb5.setCell (p:=⟨w.heap.size+1,0,cX⟩) hw1 (cS c.n)).setCell (p:=⟨w.heap.size+1,1,cX⟩) hw1 (cS c.t);go_wp2;(refine rB rfl (by go_simp;try rfl) rfl ?_);exact⟨hb6,rfl,hz⟩
abbrev Cn(n:Int)(k:Int):Prop:=0<=n/\n<=k
def GV(k:Int)(n:Nat):Prop:=k<=4000->k=(n:Int)
def GV.big(h:4000<k):GV k n:=λh2=>by omega
def GV.of:GV (n:Int) n:=λ_=>rfl
def GV.is(h:k=(n:Int)):GV k n:=λ_=>h
theorem GV.add{a:Int}(h:GV k n)(h2:GV a m)(h0:0<=k)(h1:0<=a):GV (k+a) (n+m):=by grind [GV]
def GV.cast(h:GV k n)(e:n=m):GV k m:=e▸h
def Aj{α:Type}(f:α->Nat):List α->Nat
 | []=>0
 |x::r=>f x+Aj f r
theorem D5(f:α->Nat):∀l r:List α,Aj f (l++r)=Aj f l+Aj f r
 | [],r=>by simp[Aj]
 |x::l,r=>by simp only[List.cons_append,Aj,D5 f l r];omega
theorem BD(f:α->Nat){l:List α}{q:Nat}(h:q<l.length):Aj f (l.take (q+1))=Aj f (l.take q)+f l[q]:=by
 rw[List.take_succ_eq_append_getElem h,D5];simp[Aj]
theorem DY(f:α->Nat)(l:List α):Aj f (l.take l.length)=Aj f l:=by rw[List.take_length]
def JF(l:List Ag):Nat:=l.length+Aj (λa=>a.s.size) l
def CY(l:List Vr):Nat:=l.length+Aj (λv=>v.n.size+v.t.size) l
theorem PL(h0:AA6 w0 w){l:List Ag}(hl:Row Lg 3 w0 v l):Calls prog 211 #[v,cI cJ 4000] w λe w'=>w=w'/\∃n:Int,e=.returned (cI cJ n)/\Cn n 281474976710656/\GV n (JF l):=by
 obtain⟨p,cu,rfl,-,hn,hl⟩:=hl;by_cases hbig:4000<l.length
 ·have wO:(4000:Int)<l.length:=by omega
  go_enter func211,ntmps211;go_wp2;go_ret;exact⟨rfl,_,rfl,⟨by omega,by omega⟩,.big (by omega)⟩
 have wO:¬(4000:Int)<l.length:=by omega
 go_enter func211,ntmps211;go_wp2;go_loopw[5,6] (λn i wr=>∃q:Nat,∃k:Int,q<=l.length/\i=cI cJ (q:Int)/\n=cI cJ k/\Cn k 281474976710656/\GV k (l.length+Aj (λa=>a.s.size) (l.take q))/\wr=w) (λ_ i _=>l.length-(intOf i).toNat);exact⟨0,_,AY,rfl,rfl,⟨by omega,by omega⟩,.of,rfl⟩;obtain⟨q,k,hq,rfl,rfl,hk,he,rfl⟩:=hrel;by_cases hend:q=l.length
 ·subst hend;rw[DY]at he;go_wp2;go_ret;exact⟨rfl,_,rfl,hk,he⟩
 ·have hlt:q<l.length:=by omega
  have A8:(q:Int)<l.length:=by omega
  by_cases hk2:k<=4000
  ·obtain⟨a,rfl,-,⟨c1,z1⟩,-⟩:=hl q l[q] (by simp[hlt]);have c1:=AA h0 c1;have hs:=BD (λa:Ag=>a.s.size) hlt;generalize l[q].s=s at*;have z2:(s.size:Int)<=140737488351232:=(by unfold Sz at z1;omega);obtain⟨hk0,hk1⟩:=hk;go_wp2;go_roundw;exact⟨q+1,k+s.size,by omega,by go_num,by go_num,⟨by omega,by omega⟩,(he.add (.of (n:=s.size)) hk0 (by omega)).cast (by omega),trivial⟩;simp[intOf];omega
  ·go_wp2;go_ret;exact⟨rfl,_,rfl,hk,.big (by omega)⟩
theorem JC(h0:AA6 w0 w){l:List Vr}(hl:Row IU 2 w0 v l):Calls prog 65 #[v,cI cJ 4000] w λe w'=>w=w'/\∃n:Int,e=.returned (cI cJ n)/\Cn n 281474976710656/\GV n (CY l):=by
 obtain⟨p,cu,rfl,-,hn,hl⟩:=hl;by_cases hbig:4000<l.length
 ·have wO:(4000:Int)<l.length:=by omega
  go_enter func65,ntmps65;go_wp2;go_ret;exact⟨rfl,_,rfl,⟨by omega,by omega⟩,.big (by omega)⟩
 have wO:¬(4000:Int)<l.length:=by omega
 go_enter func65,ntmps65;go_wp2;go_loopw[5,6] (λn i wr=>∃q:Nat,∃k:Int,q<=l.length/\i=cI cJ (q:Int)/\n=cI cJ k/\Cn k 281474976710656/\GV k (l.length+Aj (λv=>v.n.size+v.t.size) (l.take q))/\wr=w) (λ_ i _=>l.length-(intOf i).toNat);exact⟨0,_,AY,rfl,rfl,⟨by omega,by omega⟩,.of,rfl⟩;obtain⟨q,k,hq,rfl,rfl,hk,he,rfl⟩:=hrel;by_cases hend:q=l.length
 ·subst hend;rw[DY]at he;go_wp2;go_ret;exact⟨rfl,_,rfl,hk,he⟩
 ·have hlt:q<l.length:=by omega
  have A8:(q:Int)<l.length:=by omega
  by_cases hk2:k<=4000
  ·obtain⟨a,rfl,⟨c0,z0⟩,c1,z1⟩:=hl q l[q] (by simp[hlt]);have c0:=AA h0 c0;have c1:=AA h0 c1;have hs:=BD (λv:Vr=>v.n.size+v.t.size) hlt;generalize l[q].n=s at*;generalize l[q].t=t at*;have z2:(s.size:Int)<=140737488351232:=(by unfold Sz at z0;omega);have z3:(t.size:Int)<=140737488351232:=(by unfold Sz at z1;omega);obtain⟨hk0,hk1⟩:=hk;by_cases hk3:k+s.size<=4000
   ·go_wp2;go_roundw;exact⟨q+1,k+s.size+t.size,by omega,by go_num,by go_num,⟨by omega,by omega⟩,((he.add (.of (n:=s.size)) hk0 (by omega)).add (.of (n:=t.size)) (by omega) (by omega)).cast (by omega),trivial⟩;simp[intOf];omega
   ·go_wp2;go_roundw;exact⟨q+1,k+s.size,by omega,by go_num,by go_num,⟨by omega,by omega⟩,.big (by omega),trivial⟩;simp[intOf];omega
  ·go_wp2;go_ret;exact⟨rfl,_,rfl,hk,.big (by omega)⟩
structure Pv(w:World)(v:Value)(x:Is)(u1 u2 u3:Value):Prop where
 e:v=.agg #[cI cJ x.op,cS x.d,cS x.n,u1,u2,u3]
 z:Sz x.d/\Sz x.n
 a:Row Lg 3 w u1 x.as
 f:Row Py 4 w u2 x.fr
 o:Row Pw 2 w u3 x.ob
def Qe(h:Sz s):(s.size:Int)<=140737488351232:=by unfold Sz at h;omega
def WX(n:Value)(b:Int)(c:Nat):Prop:=∃k:Int,n=cI cJ k/\Cn k b/\GV k c
def JL(y:Bd):Nat:=1+y.n.size+y.a.s.size
def EW(y:Fr):Nat:=y.f.size+y.b.size+Aj JL y.vs
def Fz(y:Vt):Nat:=y.c.size+JF y.vs
def IJ(x:Is):Nat:=1+x.d.size+x.fr.length+x.ob.length+x.n.size+JF x.as+Aj EW x.fr+Aj Fz x.ob
def KE(z:Nat->Nat):Nat->Nat
 |0=>0
 |n+1=>KE z n+z n
theorem Mr{f:α->Nat}{l:List α}{j:Nat}(h:j<l.length):Aj f ((l.drop j).take 1)=f l[j]:=by
 have:(l.drop j).take 1=[l[j]]:=by rw[List.drop_eq_getElem_cons h];rfl
 rw[this];simp[Aj]
theorem OV(f:α->Nat)(l:List α):∀n,n<=l.length->KE (λj=>Aj f ((l.drop j).take 1)) n=Aj f (l.take n)
 |0,_=>by simp[KE,Aj]
 |n+1,h=>by
  rw[BD f (show n<l.length by omega),KE,OV f l n (by omega),Mr (by omega)]
theorem RV(f:α->Nat)(l:List α):KE (λj=>Aj f ((l.drop j).take 1)) l.length=Aj f l:=by
 rw[OV f l _ (AQ),DY]
def jf{A q:Nat}{l:List Vt}(h:q<l.length)(he:GV k (A+Aj Fz (l.take q)+l[q].c.size+JF l[q].vs)):GV k (A+Aj Fz (l.take (q+1))):=
 he.cast (by rw[BD Fz h];unfold Fz;omega)
theorem VH(h0:AA6 w0 w){x:Is}(hv:Pv w0 v x u1 u2 u3):Calls prog 166 #[v,cI cJ 4000] w λe w'=>AA6 w w'/\∃n:Int,e=.returned (cI cJ n)/\Cn n 562949953421312/\GV n (IJ x):=by
 obtain⟨rfl,⟨z1,z2⟩,ha,hf,ho⟩:=hv;have z1:=Qe z1;have z2:=Qe z2;obtain⟨p1,k1,rfl⟩:=ha.slice;obtain⟨p2,k2,rfl,-,hn2,hf⟩:=hf;obtain⟨p3,k3,rfl,-,QY,ho⟩:=ho;have hb1:=AJ w (.cells #[cI cJ x.op,cS x.d,cS x.n,cY p1 x.as.length k1,cY p2 x.fr.length k2,cY p3 x.ob.length k3] 133);have hB:=Ae.alloc w [cI cJ x.op,cS x.d,cS x.n,cY p1 x.as.length k1,cY p2 x.fr.length k2,cY p3 x.ob.length k3] 133;have hA:=PL (AB h0 hb1) ha;have h1:=AB h0 hb1;go_enter func166,ntmps166;by_cases c1:4000<x.fr.length
 ·have c1:(4000:Int)<x.fr.length:=by omega
  clear hA h1 hf ho ha;go_wp2;go_ret;exact⟨hb1,_,rfl,⟨by omega,by omega⟩,.big (by omega)⟩
 have c1I:¬(4000:Int)<x.fr.length:=by omega
 by_cases c2:4000<x.ob.length
 ·have c2:(4000:Int)<x.ob.length:=by omega
  clear hA h1 hf ho ha;go_wp2;go_ret;exact⟨hb1,_,rfl,⟨by omega,by omega⟩,.big (by omega)⟩
 have c2I:¬(4000:Int)<x.ob.length:=by omega
 go_upto_if 37 with fail;refine(?_:∀W,W=w.alloc (.cells #[cI cJ x.op,cS x.d,cS x.n,cY p1 x.as.length k1,cY p2 x.fr.length k2,cY p3 x.ob.length k3] 133)->Code.wp _ _ _ _ W) _ rfl;intro W hW;rw[<-hW]at hb1 hB hA h1;clear hW;go_cut[5]from 37 to 42 (λn wx=>WX n 281474976710656 (1+x.d.size+x.fr.length+x.ob.length+x.n.size)/\wx=W)
 ·have b2:=hB.c 2 _ rfl;by_cases hk:1+(x.d.size:Int)+x.fr.length+x.ob.length<=4000
  ·go_wp2;go_meet;exact⟨⟨_,rfl,⟨by omega,by omega⟩,.is (by omega)⟩,rfl⟩
  ·go_wp2;go_meet;exact⟨⟨_,rfl,⟨by omega,by omega⟩,.big (by omega)⟩,rfl⟩
 obtain⟨⟨k,rfl,⟨hk0,hk1⟩,he⟩,rfl⟩:=hcut;go_upto_if 45 with fail;go_cut[5]from 45 to 51 (λn wx=>WX n 562949953421312 (1+x.d.size+x.fr.length+x.ob.length+x.n.size+JF x.as)/\wx=wc)
 ·have b3:=hB.c 3 _ rfl;by_cases hk:k<=4000
  ·go_wp2_with fail;refine hA.mono ?_;rintro e w2 ⟨rfl,n,rfl,⟨hn0,hn1⟩,he2⟩;clear hA ha hf ho;go_wp2;go_meet;exact⟨⟨_,rfl,⟨by omega,by omega⟩,he.add he2 hk0 hn0⟩,rfl⟩
  ·go_wp2;go_meet;exact⟨⟨_,rfl,⟨by omega,by omega⟩,.big (by omega)⟩,rfl⟩
 clear he hk0 hk1;obtain⟨⟨k,rfl,⟨hk0,hk1⟩,he⟩,rfl⟩:=hcut;have hf2:∀(q:Nat) (hq:q<x.fr.length),∃a,p2=cP a/\∃(s t:ByteArray) (pb:Option Addr) (nb kb:Nat) (z:Nat->Nat),(s.size+t.size+KE z nb=EW (x.fr[q]'hq))/\wc.cell? (a.add (q*4))=cP (cS s)/\At wc (a.add (q*4)) 1 (cS t)/\At wc (a.add (q*4)) 3 (cY pb nb kb)/\(s.size:Int)<=140737488351232/\(t.size:Int)<=140737488351232/\nb<=140737488351232/\
   ∀j,j<nb->∃b,pb=cP b/\∃s t:ByteArray,z j=1+s.size+t.size/\wc.cell? (b.add (j*4))=cP (cS s)/\At wc (b.add (j*4)) (1+1) (cS t)/\(s.size:Int)<=140737488351232/\(t.size:Int)<=140737488351232:=λq hq=>by
  obtain⟨a,e,h⟩:=hf q x.fr[q] (by simp[hq]);obtain⟨⟨g1,g2⟩,⟨g3,g4⟩,-,u,g5,pb,kb,rfl,-,g6,g7⟩:=h;refine⟨a,e,_,_,pb,_,kb,λj=>Aj JL ((x.fr[q].vs.drop j).take 1),(by rw[RV];rfl),AA h1 g1,AA h1 g3,AA h1 g5,Qe g2,Qe g4,g6.1,λj hj=>?_⟩;obtain⟨b,e2,⟨i1,i2⟩,-,⟨i3,i4⟩,-⟩:=g7 j x.fr[q].vs[j] (by simp[hj]);exact⟨b,e2,_,_,by show Aj JL _=_;rw[Mr hj];rfl,AA h1 i1,AA h1 i3,Qe i2,Qe i4⟩
 clear hf;go_upto_block 0 with fail;go_cut[5,6,7]from 52 to 131 (λn _ _ wx=>WX n 562949953421312 (1+x.d.size+x.fr.length+x.ob.length+x.n.size+JF x.as+Aj EW x.fr)/\wx=wc)
 ·have b4:=hB.c 4 _ rfl;clear hA ha ho;go_wp2;go_loopw[5,6,7] (λn i _ wr=>∃q:Nat,∃k:Int,q<=x.fr.length/\i=cI cJ (q:Int)/\n=cI cJ k/\Cn k 562949953421312/\GV k (1+x.d.size+x.fr.length+x.ob.length+x.n.size+JF x.as+Aj EW (x.fr.take q))/\wr=wc) (λ_ i _ _=>x.fr.length-(intOf i).toNat);exact⟨0,_,AY,rfl,rfl,⟨hk0,hk1⟩,he,rfl⟩;obtain⟨q,k,hq,rfl,rfl,⟨hk0,hk1⟩,he,rfl⟩:=hrel;by_cases hend:q=x.fr.length
  ·subst hend;rw[DY]at he;go_wp2;go_meet;exact⟨⟨_,rfl,⟨hk0,hk1⟩,he⟩,rfl⟩
  ·have hlt:q<x.fr.length:=(by omega);have A8:(q:Int)<x.fr.length:=(by omega);by_cases hk2:k<=4000
   ·obtain⟨a,rfl,s,t,pb,nb,kb,z,hz,d0,d1,d3,hs,ht,hnb,hj⟩:=hf2 q hlt;have hnx:=BD EW hlt;rw[<-hz]at hnx;generalize hT:Aj EW (x.fr.take q)=T0 at*;replace hnx:=Wx hnx;go_upto_if 75 with fail;go_cut[5]from 64 to 84 (λn wx=>WX n 562949953421312 (1+x.d.size+x.fr.length+x.ob.length+x.n.size+JF x.as+T0+s.size+t.size)/\wx=wr)
    ·by_cases hk3:k+s.size<=4000
     ·go_wp2;go_meet;exact⟨⟨_,rfl,⟨by omega,by omega⟩,(he.add (.of (n:=s.size)) hk0 (by omega)).add (.of (n:=t.size)) (by omega) (by omega)⟩,rfl⟩
     ·go_wp2;go_meet;exact⟨⟨_,rfl,⟨by omega,by omega⟩,.big (by omega)⟩,rfl⟩
    obtain⟨⟨k,rfl,⟨hk0,hk1⟩,he⟩,rfl⟩:=hcut;go_wp2;obtain⟨w7,rfl⟩:=again wc;go_loopw[5,7] (λn i wr=>∃j:Nat,∃k:Int,j<=nb/\i=cI cJ (j:Int)/\n=cI cJ k/\Cn k 562949953421312/\GV k (1+x.d.size+x.fr.length+x.ob.length+x.n.size+JF x.as+T0+s.size+t.size+KE z j)/\wr=w7) (λ_ i _=>nb-(intOf i).toNat);exact⟨0,_,AY,rfl,rfl,⟨hk0,hk1⟩,he,rfl⟩;obtain⟨j,k,hjl,rfl,rfl,⟨hk0,hk1⟩,he,rfl⟩:=hrel;by_cases hje:j=nb
    ·subst hje;go_wp2;go_roundw;exact⟨q+1,k,by omega,by go_num,rfl,⟨hk0,hk1⟩,he.cast (by have:=hnx.out;omega),trivial⟩;simp[intOf];omega
    ·have hjlt:j<nb:=(by omega);have hjI:(j:Int)<nb:=(by omega);by_cases hk2:k<=4000
     ·obtain⟨b,rfl,s2,t2,hzj,e0,e2,hs2,ht2⟩:=hj j hjlt;clear hj;have hnn:KE z (j+1)=KE z j+(1+s2.size+t2.size):=(by rw[<-hzj];rfl);by_cases hk3:k+1+s2.size<=4000
      ·go_wp2;go_roundw;exact⟨j+1,k+1+s2.size+t2.size,by omega,by go_num,by go_num,⟨by omega,by omega⟩,(((he.add (.of (n:=1)) hk0 (by omega)).add (.of (n:=s2.size)) (by omega) (by omega)).add (.of (n:=t2.size)) (by omega) (by omega)).cast (by omega),trivial⟩;simp[intOf];omega
      ·go_wp2;go_roundw;exact⟨j+1,k+1+s2.size,by omega,by go_num,by go_num,⟨by omega,by omega⟩,.big (by omega),trivial⟩;simp[intOf];omega
     ·clear hj;go_wp2;go_roundw;exact⟨q+1,k,by omega,by go_num,rfl,⟨hk0,hk1⟩,.big (by omega),trivial⟩;simp[intOf];omega
   ·clear hf2;go_wp2;go_meet;exact⟨⟨_,rfl,⟨hk0,hk1⟩,.big (by omega)⟩,rfl⟩
 clear hk0 hk1 hf2 he;obtain⟨⟨k,rfl,⟨hk0,hk1⟩,he⟩,rfl⟩:=hcut;have b5:=hB.c 5 _ rfl;go_wp2;obtain⟨w7,rfl⟩:=again wc;go_loopw[5,8] (λn i wr=>∃q:Nat,∃k:Int,q<=x.ob.length/\i=cI cJ (q:Int)/\n=cI cJ k/\Cn k 562949953421312/\GV k (1+x.d.size+x.fr.length+x.ob.length+x.n.size+JF x.as+Aj EW x.fr+Aj Fz (x.ob.take q))/\wr=w7) (λ_ i _=>x.ob.length-(intOf i).toNat);exact⟨0,_,AY,rfl,rfl,⟨hk0,hk1⟩,he,rfl⟩;obtain⟨q,k,hq,rfl,rfl,⟨hk0,hk1⟩,he,rfl⟩:=hrel;by_cases hend:q=x.ob.length
 ·subst hend;rw[DY]at he;go_wp2;go_ret;exact⟨hb1,_,rfl,⟨hk0,hk1⟩,he⟩
 ·have hlt:q<x.ob.length:=by omega
  have A8:(q:Int)<x.ob.length:=by omega
  by_cases hk2:k<=4000
  ·obtain⟨a,rfl,⟨g1,g2⟩,u,g5,hr⟩:=ho q x.ob[q] (by simp[hlt]);have g1:=AA h1 g1;have g5:=AA h1 g5;have g2:=Qe g2;have hA:=PL h1 hr;obtain⟨pa,ka,rfl⟩:=hr.slice;have hS:=λk:Int=>jf (k:=k) (A:=1+x.d.size+x.fr.length+x.ob.length+x.n.size+JF x.as+Aj EW x.fr) hlt;generalize x.ob[q]=y at*;by_cases hk3:k+y.c.size<=4000
   ·go_wp2_with fail;refine hA.mono ?_;rintro e w2 ⟨rfl,n,rfl,⟨hn0,hn1⟩,he2⟩;go_wp2;go_roundw;exact⟨q+1,k+y.c.size+n,by omega,by go_num,by go_num,⟨by omega,by omega⟩,hS _ ((he.add (.of (n:=y.c.size)) hk0 (by omega)).add he2 (by omega) hn0),trivial⟩;simp[intOf];omega
   ·clear hA;go_wp2;go_roundw;exact⟨q+1,k+y.c.size,by omega,by go_num,by go_num,⟨by omega,by omega⟩,.big (by omega),trivial⟩;simp[intOf];omega
  ·clear ho;go_wp2;go_ret;exact⟨hb1,_,rfl,⟨hk0,hk1⟩,.big (by omega)⟩
def Dz(l:List Vr):List Value:=l.flatMap λv=> [cS v.n,cS v.t]
theorem Jb(l:List Vr):(Dz l).length=l.length*2:=by
 induction l with
 |nil=>rfl
 |cons x r ih=>simp[Dz]at ih⊢;omega
theorem VG(a b:List Vr):Dz (a++b)=Dz a++Dz b:=by simp[Dz]
theorem Kk:∀{l:List Vr} {i:Nat} {x:Vr},l[i]? =cP x->(Dz l)[i*2]? =cP (cS x.n)/\(Dz l)[i*2+1]? =cP (cS x.t)
 | [],i,x,h=>by simp at h
 |y::r,0,x,h=>by
  obtain rfl:y=x:=by simpa using h
  simp[Dz]
 |y::r,i+1,x,h=>by
  have ih:=Kk (l:=r) (i:=i) (by simpa using h);have e:Dz (y::r)=cS y.n::cS y.t::Dz r:=by simp[Dz]
  rw[e,show(i+1)*2=i*2+1+1 by omega];simpa using ih
theorem NS(l:List Vr):∀u∈Dz l,u.oneCell'=cC:=by
 intro u hu;obtain⟨v,_,hv⟩:=List.mem_flatMap.1 hu;simp only[List.mem_cons,List.not_mem_nil,or_false]at hv;rcases hv with rfl|rfl<;>rfl
theorem uT(a:Addr)(i j:Nat):(a.add i).add j=a.add (i+j):=by
 unfold Addr.add;grind
theorem LJ{p:Option Addr}{l:List Vr}(h:∀(i:Nat) x,l[i]? =cP x->∃a,p=cP a/\IU w (a.add (i*2)) x):∀ad,p=cP ad->∀j u,(Dz l)[j]? =cP u->w.cell? (ad.add j)=cP u:=by
 intro ad hp j u hu;have hj:j<l.length*2:=by
  rcases Nat.lt_or_ge j (l.length*2)with h1|h1
  ·exact h1
  ·rw[List.getElem?_eq_none (by rw[Jb];exact h1)]at hu;cases hu
 have hi:j/2<l.length:=by omega
 obtain⟨h1,h2⟩:=Kk (l:=l) (i:=j/2) (x:=l[j/2]) (by simp[hi]);obtain⟨a,e,hA⟩:=h (j/2) l[j/2] (by simp[hi]);rw[hp]at e;obtain rfl:ad=a:=by simpa using e
 obtain⟨⟨g0,-⟩,g1,-⟩:=hA;rcases Nat.mod_two_eq_zero_or_one j with e|e
 ·have e2:j/2*2=j:=by omega
  rw[e2]at h1 g0;rw[h1]at hu;rw[g0];exact hu
 ·have e2:j/2*2+1=j:=by omega
  rw[e2]at h2;rw[h2]at hu;have g2:w.cell? ((ad.add (j/2*2)).add 1)=cP (cS l[j/2].t):=g1;rw[uT,e2]at g2;rw[g2];exact hu
theorem dK{l:List Vr}(h:w.ownsRow B T 2 v l.length (Dz l))(hz:∀x∈l,Sz x.n/\Sz x.t)(hn:l.length<=140737488351232):Row IU 2 w v l:=by
 rcases h.2 with⟨rfl,h0⟩|⟨g,cap,cur,rfl,-,-,hcap,_⟩
 ·refine⟨cX,0,by rw[h0],λ_=>⟨h0,rfl⟩,⟨hn,by rw[h0];exact AQ⟩,λi x hx=>?_⟩;have:l=[]:=List.length_eq_zero_iff.1 h0;subst this;cases hx
 ·refine⟨cP ⟨g,0,cX⟩,cap,rfl,(λe=>by cases e),⟨hn,hcap⟩,λi x hx=>⟨_,rfl,?_⟩⟩;obtain⟨h1,h2⟩:=Kk hx;have z:=hz x (List.mem_of_getElem? hx);refine⟨⟨h.cells rfl _ _ h1,z.1⟩,?_,z.2⟩;have:=h.cells rfl _ _ h2;rw[Dk]at this;show w.cell? ⟨_,_,cX⟩=_;rw[Dk];simpa[Nat.add_assoc]using this
theorem Row.sz{l:List Vr}(h:Row IU 2 w v l):∀x∈l,Sz x.n/\Sz x.t:=by
 intro x hx;obtain⟨p,cu,-,-,-,h⟩:=h;obtain⟨i,hi,rfl⟩:=List.getElem_of_mem hx;obtain⟨a,-,⟨-,z1⟩,-,z2⟩:=h i l[i] (by simp[hi]);exact⟨z1,z2⟩
def DU(f:Fn):List Ag->Option (List ByteArray)
 | []=>cP []
 |a::r=>match GJ f a with
  |none=>cX
  |some t=>match DU f r with
   |none=>cX
   |some l=>cP (t::l)
def Ib(f:Fn)(x:Is)(fm:Fm):Option ByteArray:=if fm.d then(varOf f x.d).map Vr.t else cP ⟨#[]⟩
def RL(f:Fn)(x:Is):Option (ByteArray×List ByteArray):=match BH x.op with
 |none=>cX
 |some fm=>if(x.as.length:Int)<fm.l\/fm.m<x.as.length then cX else match Ib f x fm with
  |none=>cX
  |some d=>match DU f x.as with
   |none=>cX
   |some l=>cP (d,l)
def kr:(prog.info? 9).map (λi=>(i.zero,i.size,i.bytes))=cP (cP (cS .empty),1,16):=by kernel_rfl
def bL(w:World)(s:ByteArray):∀j u,([cS s])[j]? =cP u->(w.alloc (Obj.cells #[cS s] 9)).cell? ((⟨w.heap.size,0,cX⟩:Addr).add j)=cP u:=by
 intro j u hu;rw[Dk,Nat.zero_add,World.cell?_alloc_mark];simpa using hu
theorem dL{l:List ByteArray}(h:w.ownsRow B T 1 v l.length (l.map .string))(hz:∀s∈l,Sz s)(hn:l.length<=140737488351232):Row DL 1 w v l:=by
 rcases h.2 with⟨rfl,h0⟩|⟨g,cap,cur,rfl,-,-,hcap,_⟩
 ·refine⟨cX,0,by rw[h0],λ_=>⟨h0,rfl⟩,⟨hn,by rw[h0];exact AQ⟩,λi x hx=>?_⟩;have:l=[]:=List.length_eq_zero_iff.1 h0;subst this;cases hx
 ·refine⟨cP ⟨g,0,cX⟩,cap,rfl,(λe=>by cases e),⟨hn,hcap⟩,λi x hx=>⟨_,rfl,?_,hz x (List.mem_of_getElem? hx)⟩⟩;rw[Nat.mul_one];exact h.cells rfl i _ (by simp[hx])
def FZ:List ByteArray->List Vr->Bool
 | [],[]=>cC
 |a::r,v::s=>Du a v.t&&FZ r s
 |_,_=>cA
theorem J3:∀(l:List ByteArray) (vs:List Vr),l.length≠vs.length->FZ l vs=cA
 | [],[],h=>absurd rfl h
 | [],_::_,_=>rfl
 |_::_,[],_=>rfl
 |a::r,v::s,h=>by
  unfold FZ;rw[J3 r s (λe=>h (by simp[e])),Bool.and_false]
def FP(l:List ByteArray)(a d e:ByteArray):Bool:=l.all (λt=>decide (t=a))&&decide (d=e)
def nk(a b:ByteArray):Bool:=Dq a&& (Dq b&& (decide (a=b)||(decide (a=Fx)||decide (b=Fx))))
def Kz(p:Pg)(x:Is)(d:ByteArray)(l:List ByteArray):Bool:=match Ai Cl.n x.n p.cs with
 |none=>cA
 |some c=>decide (d=c.n)&& (decide (l.length=0)||FZ l c.fs)
def GN(p:Pg)(x:Is)(a:Ag)(s:ByteArray):Option Vr:=if a.k=1 then EH p s x.n else cX
def Ia(p:Pg)(x:Is)(d s:ByteArray):Bool:=match Ai Vr.n x.n p.gs with
 |none=>cA
 |some g=>if x.op=29 then decide (g.t=d)else Du s g.t
def vN:Option Vr->ByteArray
 |some c=>c.n
 |none=>⟨#[]⟩
def vT:Option Vr->ByteArray
 |some c=>c.t
 |none=>⟨#[]⟩
theorem XA.eq{r:Option Vr}{e:Ending}(h:XA w r e):e=.returned (.tuple #[.agg #[cS (vN r),cS (vT r)],cE r.isSome]):=by
 cases r with
 |none=>exact h
 |some c=>exact h.1
def Ql(d:ByteArray)(r:Option Vr):Bool:=match r with
 |none=>cA
 |some v=>decide (v.t=d)
def Td(s:ByteArray)(r:Option Vr):Bool:=match r with
 |none=>cA
 |some v=>Du s v.t
def K5(p:Pg)(x:Is)(d:ByteArray)(l:List ByteArray):Bool:=match Ai Fn.n x.n p.fs with
 |none=>cA
 |some g=>FZ l g.ps&&decide (d=g.r)
def Qr(p:Pg)(x:Is)(d:ByteArray)(l:List ByteArray):Bool:=match Ai Ex.n x.n p.xs with
 |none=>cA
 |some g=>decide ((l.length:Int)=g.k)&&FP l BA d BA
def BX(p:Pg)(x:Is)(d:ByteArray)(l:List ByteArray)(a:Ag)(s s2:ByteArray):Bool:=
 if x.op<=14 then FP l BA d BA else if x.op<=18 then FP l Ao d Ao else if x.op<=21 then FP l Ao d BA
 else if x.op=22 then FP l BA d Ao else if x.op=23 then FP l Ao d BA else if x.op=24 then Du s d
 else if x.op=25 then Kz p x d l else if x.op=26 then Ql d (GN p x a s)else if x.op=27 then Td s2 (GN p x a s)
 else if x.op=28 then decide (d=BA)&&nk s s2 else if x.op=29\/x.op=30 then Ia p x d s
 else if x.op=31 then K5 p x d l else if x.op=32 then Qr p x d l else if x.op=33 then !Dq s else cC
def xI:Ag:=⟨0,⟨#[]⟩,0⟩
def Av(p:Pg)(x:Is)(d:ByteArray)(l:List ByteArray):Bool:=BX p x d l (x.as[0]?.getD xI) (l[0]?.getD ⟨#[]⟩) (l[1]?.getD ⟨#[]⟩)
def Di(p:Pg)(f:Fn)(x:Is):Bool:=match RL f x with
 |none=>cA
 |some (d,l)=>Av p x d l
theorem KR(f:Fn):∀(ar:List Ag) (l:List ByteArray),DU f ar=cP l->l.length=ar.length
 | [],l,h=>by
  injection h with h;subst h
  rfl
 |a::r,l,h=>by
  simp only[DU]at h
  cases h1:GJ f a with
  |none=>rw[h1]at h;cases h
  |some t=>
   rw[h1]at h;dsimp only at h
   cases h2:DU f r with
   |none=>rw[h2]at h;cases h
   |some l2=>
    rw[h2]at h;injection h with h;subst h;simp only[List.length_cons,KR f r l2 h2]
namespace Num
def mX(b:Bool):Int:=if b then 1 else 0
def sh(b:Int):Nat:=(b%64).toNat
def Kv(op a b:Int):Int×Bool:=
 if op=1 then(wrap64 (a+b),cC)
 else if op=2 then(wrap64 (a-b),cC)
 else if op=3 then(wrap64 (a*b),cC)
 else if op=4 then(if b=0 then(0,cA)else(wrap64 (a.tdiv b),cC))
 else if op=5 then(if b=0 then(0,cA)else(a.tmod b,cC))
 else if op=6 then(bits .and .i64 a b,cC)
 else if op=7 then(bits .or .i64 a b,cC)
 else if op=8 then(bits .xor .i64 a b,cC)
 else if op=9 then(wrap64 (a*2^sh b),cC)
 else if op=10 then(a/2^sh b,cC)
 else if op=11 then(mX (a==b),cC)
 else if op=12 then(mX (a !=b),cC)
 else if op=13 then(mX (decide (a<b)),cC)
 else if op=14 then(mX (decide (a<=b)),cC)
 else(0,cA)
def mI{op a:Int}(h:op<1\/14<op):Kv op a b=(0,cA):=by
 unfold Kv;repeat rw[if_neg (by omega)]
def KD(n:Int):Nat:=(n%18446744073709551616).toNat
theorem Bl(n:Int):(BitVec.ofInt 64 n).toNat=KD n:=by simp[KD]
theorem UK(n:Int):wrap64 n=if n%18446744073709551616>=9223372036854775808 then n%18446744073709551616-18446744073709551616 else n%18446744073709551616:=by
 unfold wrap64;split<;>omega
theorem Mt(n:Int):IntKind.i64.wrap n=wrap64 n:=by
 rw[UK];simp only[IntKind.wrap,IntKind.bits,IntKind.signed];simp
theorem WE(a b:Int):bits .and .i64 a b=wrap64 ((KD a&&&KD b:Nat):Int):=by
 unfold bits;simp only[BitVec.toNat_and];show IntKind.i64.wrap (((BitVec.ofInt 64 a).toNat&&& (BitVec.ofInt 64 b).toNat:Nat):Int)=_;rw[Bl,Bl,Mt]
theorem sJ(a b:Int):bits .or .i64 a b=wrap64 ((KD a|||KD b:Nat):Int):=by
 unfold bits;simp only[BitVec.toNat_or];show IntKind.i64.wrap (((BitVec.ofInt 64 a).toNat|||(BitVec.ofInt 64 b).toNat:Nat):Int)=_;rw[Bl,Bl,Mt]
theorem jY(a b:Int):bits .xor .i64 a b=wrap64 ((KD a^^^KD b:Nat):Int):=by
 unfold bits;simp only[BitVec.toNat_xor];show IntKind.i64.wrap (((BitVec.ofInt 64 a).toNat^^^ (BitVec.ofInt 64 b).toNat:Nat):Int)=_;rw[Bl,Bl,Mt]
theorem uR(b:Int):bits .and .i64 b 63=((sh b:Nat):Int):=by
 rw[WE];have e:KD 63=63:=by decide
 have m:KD b&&&63=KD b%64:=Nat.and_two_pow_sub_one_eq_mod (KD b) 6;rw[e,m];unfold wrap64 KD sh;omega
def zU(b:Int):sh b<64:=by unfold sh;omega
def xD(d:Nat):UInt8:=UInt8.ofNat (48+d)
def L8(m:Nat):Nat->List UInt8
 |0=> []
 |k+1=>xD (m/10^k%10)::L8 m k
def iA:Nat->Nat->Nat
 |0,_=>1
 |f+1,m=>if m<10 then 1 else iA f (m/10)+1
def nd(m:Nat):Nat:=iA 20 m
def sign(n:Int):List UInt8:=if n<0 then[45]else[]
def Ee(n:Int):List UInt8:=sign n++L8 n.natAbs (nd n.natAbs)
theorem K9(m k:Nat):(L8 m k).length=k:=by
 induction k with
 |zero=>rfl
 |succ k ih=>simp[L8,ih]
def kQ(f m:Nat):1<=iA f m:=by cases f<;>simp[iA];split<;>omega
def dV(f m:Nat)(h:m<10^ (f+1)):m/10^ (iA f m)=0/\∀k,1<=k->k<iA f m->m/10^k≠0:=by
 induction f generalizing m with
 |zero=>
  refine⟨?_,λk h1 h2=>?_⟩
  ·simp[iA];omega
  ·simp[iA]at h2;omega
 |succ f ih=>
  unfold iA;by_cases hm:m<10
  ·rw[if_pos hm];exact⟨by simp;omega,λk h1 h2=>by omega⟩
  ·rw[if_neg hm];have hd:m/10<10^ (f+1):=by
    rw[Nat.pow_succ]at h;omega
   obtain⟨i1,i2⟩:=ih (m/10) hd;refine⟨?_,λk h1 h2=>?_⟩
   ·rw[Nat.pow_succ,Nat.mul_comm,<-Nat.div_div_eq_div_mul];exact i1
   ·by_cases hk:k=1
    ·subst hk;simp;omega
    ·have:=i2 (k-1) (by omega) (by omega);rw[show k=(k-1)+1 from by omega,Nat.pow_succ,Nat.mul_comm,<-Nat.div_div_eq_div_mul];exact this
theorem QG(h:m<=9223372036854775808):m/10^ (nd m)=0/\∀k,1<=k->k<nd m->m/10^k≠0:=
 dV 20 m (by omega)
theorem aI(m:Nat):1<=nd m:=kQ 20 m
theorem oF(h:m<=9223372036854775808):nd m<=19:=by
 apply Classical.byContradiction;intro hn;have:=(QG h).2 19 (by omega) (by omega);grind
def ACU(a:Int):Kv 4 a (-1)=(wrap64 (-a),cC):=by simp[Kv]
def sD(a:Int):Kv 5 a (-1)=(0,cC):=by simp[Kv]
theorem uD{a:Int}(h:b≠0):Kv 4 a b=(wrap64 (a.tdiv b),cC):=by grind [Kv]
theorem sF{a:Int}(h:b≠0):Kv 5 a b=(a.tmod b,cC):=by grind [Kv]
def Yf{d:Nat}(h:d<10):((xD d).toNat:Int)=48+d:=by
 simp only[xD,UInt8.toNat_ofNat'];omega
def Lb(l:List UInt8):Nat->Int
 |0=>0
 |k+1=>if k=0/\l.getD 0 0=45 then Lb l k else Lb l k*10+((l.getD k 0).toNat:Int)-48
def Ta(l:List UInt8):Int:=wrap64 (if l.getD 0 0=45 then-(Lb l (min l.length 30))else Lb l (min l.length 30))
def Nt(l:List UInt8):Int×Bool:=if Ee (Ta l)=l then(Ta l,cC)else(0,cA)
def FR(n:Int): -9223372036854775808<=wrap64 n/\wrap64 n<=9223372036854775807:=by unfold wrap64;omega
theorem NU{n:Int}(h:n.natAbs<=9223372036854775808):1<=(Ee n).length/\(Ee n).length<=20:=by grind [Ee,sign,aI,oF,K9]
theorem lQ{s:ByteArray}{x:Int}(hx:x=Ta s.data.toList)(h:(!Ee x==s.toList)=cC):Nt s.data.toList=(0,cA):=by
 subst hx;rw[ByteArray.toList_eq]at h;grind [Ta,Ee,Nt]
theorem fA{s:ByteArray}{x:Int}(hx:x=Ta s.data.toList)(h:(!Ee x==s.toList)=cA):Nt s.data.toList=(x,cC):=by
 subst hx;rw[ByteArray.toList_eq]at h;grind [Ta,Ee,Nt]
theorem Gl{k:Nat}(h:k<s.size):s.data.toList.getD k 0=s[k]:=by
 rw[List.getD_eq_getElem?_getD,List.getElem?_eq_getElem (by simpa using h)];rfl
theorem size_data(s:ByteArray):s.data.toList.length=s.size:=by simp
theorem Ro(h:1<=s.size):s.toList.isEmpty=cA:=by
 rw[ByteArray.toList_eq,List.isEmpty_eq_false_iff];grind [size_data]
theorem Yo{l:List UInt8}{k:Nat}(h:1<=k\/l.getD 0 0≠45):Lb l (k+1)=Lb l k*10+((l.getD k 0).toNat:Int)-48:=by grind [Lb]
theorem Yp{l:List UInt8}(h:l.getD 0 0=45):Lb l 1=0:=by grind [Lb]
end Num
end Go.Proofs.YtlffomedflegdaaGreatDoor
