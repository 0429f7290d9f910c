/- Part 06 of the proof: Box2, FloW, FloIW, NumW, Me, Knb, Knf, Mf, Sel, Two, Mg. -/
import Derived.Test.YtlffomedflegdaaGreatDoorPd05
set_option linter.all false
set_option maxHeartbeats 16000000
set_option maxRecDepth 100000
namespace Go.Proofs.YtlffomedflegdaaGreatDoor
open Go.Proofs.Tryz
open Go.RowKit
open Go.Value renaming int→cI,string→cS,slice→cY,bool→cE
open Go.IntKind renaming i64→cJ
open Option renaming some→cP,none→cX
open Bool renaming false→cA,true→cC
variable {B i p q:Nat}{a:Addr}{b:Bk}{c:Cl}{f:Fn}{k:Hd}{u1 u2 u3 v:Value}{w w0:World}{x:ByteArray}{α:Type}
section
def DI(w0:World)(na ns:Nat)(zs cs:List Value)(V:Nat->Value)(L:Nat->Bool)(w1:World):Prop:=
 (L ns=cC->L na=cC)/\(L na=cC->∃p,V na=.pointer (cP ⟨p,0,cX⟩)/\w0.heap.size<=p/\p<w1.heap.size/\Ae w1 p (if L ns=cC then cs else zs))
structure Dw(w0:World)(na ns nb nt:Nat)(zs cs ds:List Value)(V:Nat->Value)(L:Nat->Bool)(w1:World):Prop where
 b:AA6 w0 w1
 x:DI w0 na ns zs cs V L w1
 y:DI w0 nb nt zs ds V L w1
 d:L na=cC->L nb=cC->V na≠V nb
section
variable {w0 w1 w2 : World} {na ns nb nt : Nat} {zs cs ds : List Value} {V : Nat -> Value} {L : Nat -> Bool}
def DI.keep(h:DI w0 na ns zs cs V L w1)(h1:(na==i)=cA)(h2:(ns==i)=cA):DI w0 na ns zs cs V (upd L i) w1:=by simp_all[DI,upd]
def DI.grown(h:DI w0 na ns zs cs V L w1){row:Option Nat}(hg:w1.grownBy w2 row)(hn:∀p,L na=cC->V na=.pointer (cP ⟨p,0,cX⟩)->cP p≠row):DI w0 na ns zs cs V L w2:=by
 refine⟨h.1,λhl=>?_⟩;obtain⟨p,e,h3,h4,h5⟩:=h.2 hl;exact⟨p,e,h3,A9 h4 hg.size,h5.same (hg.block p h4 (hn p hl e))⟩
theorem DI.EB(h:DI w0 na ns zs cs V L w1)(h1:(na==i)=cA)(v:Value):DI w0 na ns zs cs (EB V i v) L w1:=by
 unfold DI;rw[Br V v (by simpa using h1)];exact h
def DI.made(h:DI w0 na ns zs cs V L w1)(hns:(ns==na)=cA)(hl:L na=cA)(hB:w0.heap.size<=w1.heap.size)(t:TypeId):DI w0 na ns zs cs (Go.Proofs.YtlffomedflegdaaGreatDoor.EB V na (.pointer (cP ⟨w1.heap.size,0,cX⟩))) (upd L na) (w1.alloc (Obj.cells zs.toArray t)):=by
 have hno:L ns=cA:=by
  cases hn:L ns with
  |false=>rfl
  |true=>have:=h.1 hn;rw[hl]at this;cases this
 refine⟨λ_=>Cc,λ_=>⟨w1.heap.size,BL _ _ _,hB,by simp,?_⟩⟩;rw[upd_ne hns,hno];exact Ae.alloc w1 zs t
def Dw.start(h:AA6 w0 w1):Dw w0 na ns nb nt zs cs ds V (λ_=>cA) w1:=
 ⟨h,⟨(λe=>Bool.noConfusion e),(λe=>Bool.noConfusion e)⟩,⟨(λe=>Bool.noConfusion e),(λe=>Bool.noConfusion e)⟩,(λe=>Bool.noConfusion e)⟩
theorem Dw.keep(h:Dw w0 na ns nb nt zs cs ds V L w1)(h1:(na==i)=cA)(h2:(ns==i)=cA)(h3:(nb==i)=cA)(h4:(nt==i)=cA):Dw w0 na ns nb nt zs cs ds V (upd L i) w1:=
 ⟨h.b,h.x.keep h1 h2,h.y.keep h3 h4,by rw[upd_ne h1,upd_ne h3];exact h.d⟩
theorem DI.fresh(h:DI w0 na ns zs cs V L w1)(hl:L na=cC):V na≠ .pointer (cP ⟨w1.heap.size,0,cX⟩):=λe=>by
 obtain⟨p,e',_,h4,_⟩:=h.2 hl;rw[e']at e;simp only[Value.pointer.injEq,Option.some.injEq,Addr.mk.injEq,and_true]at e;omega
theorem Dw.AAM(h:Dw w0 na ns nb nt zs cs ds V L w1)(h1:(ns==na)=cA)(h2:(nb==na)=cA)(h3:(nt==na)=cA)(hl:L na=cA)(t:TypeId):Dw w0 na ns nb nt zs cs ds (EB V na (.pointer (cP ⟨w1.heap.size,0,cX⟩))) (upd L na) (w1.alloc (Obj.cells zs.toArray t)):=
 ⟨h.b.alloc h.b.size _,h.x.made h1 hl h.b.size t,((h.y.grown (World.grownBy_alloc w1 _ cX) (by simp)).EB h2 _).keep h2 h3,λ_ e=>by
  rw[upd_ne h2]at e;rw[BL,Br V _ (by simpa using h2)]
  exact Ne.symm (h.y.fresh e)⟩
theorem Dw.AAL(h:Dw w0 na ns nb nt zs cs ds V L w1)(h1:(nt==nb)=cA)(h2:(na==nb)=cA)(h3:(ns==nb)=cA)(hl:L nb=cA)(t:TypeId):Dw w0 na ns nb nt zs cs ds (EB V nb (.pointer (cP ⟨w1.heap.size,0,cX⟩))) (upd L nb) (w1.alloc (Obj.cells zs.toArray t)):=
 ⟨h.b.alloc h.b.size _,((h.x.grown (World.grownBy_alloc w1 _ cX) (by simp)).EB h2 _).keep h2 h3,h.y.made h1 hl h.b.size t,λe _=>by
  rw[upd_ne h2]at e;rw[BL,Br V _ (by simpa using h2)]
  exact h.x.fresh e⟩
theorem DI.at(h:DI w0 na ns zs cs V L w1)(hl:L na=cC)(hn:L ns=cA):∃p,V na=.pointer (cP ⟨p,0,cX⟩)/\w0.heap.size<=p/\p<w1.heap.size/\Ae w1 p zs:=by simp_all[DI,cX]
def DI.done(h:DI w0 na ns zs cs V L w1)(hl:L na=cC)(hn:L ns=cC):∃p,V na=.pointer (cP ⟨p,0,cX⟩)/\w0.heap.size<=p/\p<w1.heap.size/\Ae w1 p cs:=by simp_all[DI,cX]
def DI.fill(hl:L na=cC)(hp:V na=.pointer (cP ⟨p,0,cX⟩))(hp0:w0.heap.size<=p)(hp1:p<w2.heap.size)(hx:Ae w2 p cs)(hns:(na==ns)=cA):DI w0 na ns zs cs V (upd L ns) w2:=by simp_all[cX,DI,upd]
theorem Dw.Z6(h:Dw w0 na ns nb nt zs cs ds V L w1)(hl:L na=cC)(hp:V na=.pointer (cP ⟨p,0,cX⟩))(hp0:w0.heap.size<=p)(hp1:p<w2.heap.size)(hB:AA6 w0 w2)(hx:Ae w2 p cs)(hg:w1.grownBy w2 (cP p))(h1:(na==ns)=cA) (h2:(nb==ns)=cA) (h3:(nt==ns)=cA):Dw w0 na ns nb nt zs cs ds V (upd L ns) w2:=
 ⟨hB,DI.fill hl hp hp0 hp1 hx h1,(h.y.grown hg (λq hq e=>by
  have:=h.d hl hq;rw[hp,e]at this;intro e';have e':q=p:=by simpa using e'
  rw[e']at this
  exact this rfl)).keep h2 h3,by rw[upd_ne h1,upd_ne h2];exact h.d⟩
theorem Dw.Z5(h:Dw w0 na ns nb nt zs cs ds V L w1)(hl:L nb=cC)(hp:V nb=.pointer (cP ⟨p,0,cX⟩))(hp0:w0.heap.size<=p)(hp1:p<w2.heap.size)(hB:AA6 w0 w2)(hx:Ae w2 p ds)(hg:w1.grownBy w2 (cP p))(h1:(nb==nt)=cA) (h2:(na==nt)=cA) (h3:(ns==nt)=cA):Dw w0 na ns nb nt zs cs ds V (upd L nt) w2:=
 ⟨hB,(h.x.grown hg (λq hq e=>by
  have:=h.d hq hl;rw[hp,e]at this;intro e';have e':q=p:=by simpa using e'
  rw[e']at this
  exact this rfl)).keep h2 h3,DI.fill hl hp hp0 hp1 hx h1,by rw[upd_ne h1,upd_ne h2];exact h.d⟩
theorem O8{a b:Value}:w.grownBy ((w.setCell ⟨p,0,cX⟩ a).setCell ⟨p,1,cX⟩ b) (cP p):=by
 have h1:=JM w p 0 a;have h2:=JM (w.setCell ⟨p,0,cX⟩ a) p 1 b;exact⟨h2.os.trans h1.os,h2.tape.trans h1.tape,h2.output.trans h1.output,AX h1.size h2.size,λk hk hn=>(h2.block k (A9 hk h1.size) hn).trans (h1.block k hk hn)⟩
theorem Dw.call(h:Dw w0 na ns nb nt zs cs ds V L w1)(hb:AA6 w1 w2)(h1:(na==i)=cA)(h2:(ns==i)=cA)(h3:(nb==i)=cA)(h4:(nt==i)=cA):Dw w0 na ns nb nt zs cs ds V (upd L i) w2:=
 Dw.keep ⟨h.b.trans (hb.mono h.b.size),h.x.grown (Ez hb (AQ)) (by simp),h.y.grown (Ez hb (AQ)) (by simp),h.d⟩ h1 h2 h3 h4
theorem Ae.nY{a b:Value}(h:Ae w1 p [a,b])(x y:Value):Ae ((w1.setCell ⟨p,0,cX⟩ x).setCell ⟨p,1,cX⟩ y) p [x,y]:=(h.set (i:=0) (by simp) x).set (i:=1) (by simp) y
end
end
section
open Dp
@[go_sem] theorem mV (n:Int) (w:World):(callFunc 150 #[cI .u64 n]).run prog w=.ok (.value (.float .f64 n.toNat)) w:=by
 rw[run_callFunc_extern (e:=Extern.MathFloatBits.float64frombits) func150 (by kernel_rfl) (by kernel_rfl) (by kernel_rfl) (by kernel_rfl)];rfl
@[go_sem] theorem uh (n:Nat) (w:World):(callFunc 190 #[.float .f64 n]).run prog w=.ok (.value (cI .u64 n)) w:=by
 rw[run_callFunc_extern (e:=Extern.MathFloatBits.float64bits) func190 (by kernel_rfl) (by kernel_rfl) (by kernel_rfl) (by kernel_rfl)];rfl
def Ka(n:Int)(w:World):Calls prog 24 #[cI cJ n] w λe w'=>e=.returned (cI cJ (Ba n))/\w=w':=by
 go_enter func24,ntmps24;go_wp2
 ·go_ret;exact⟨FQ (Xp (by assumption) (by assumption)).symm,rfl⟩
 ·go_ret;exact⟨FQ (Xq (by assumption)).symm,rfl⟩
 ·go_ret;exact⟨FQ (Xr (by assumption)).symm,rfl⟩
def MQ(n:Int)(w:World):Calls prog 133 #[cI cJ n] w λe w'=>e=.returned (.float .f64 (pb n))/\w=w':=by
 go_enter func133,ntmps133;go_wp2_with((with_reducible refine(Ka ..).mono ?_);rintro e w' ⟨rfl,rfl⟩)
 go_ret;exact⟨by rw[IntKind.wrap_u64];rfl,rfl⟩
def aB(x:Nat)(w:World):Calls prog 131 #[.float .f64 x] w λe w'=>e=.returned (cI cJ (Ba (wrap64 x)))/\w=w':=by
 go_enter func131,ntmps131;go_wp2_with((with_reducible refine(Ka ..).mono ?_);rintro e w' ⟨rfl,rfl⟩)
 go_ret;exact⟨rfl,rfl⟩
def XH(b:Bool)(w:World):Calls prog 196 #[cE b] w λe w'=>e=.returned (.tuple #[cI cJ (tr b),cE cC])/\w=w':=by
 cases b<;>
 ·go_enter func196,ntmps196;go_wp2;go_ret2;exact⟨rfl,rfl⟩
def YJ(n:Int)(w:World):Calls prog 57 #[cI cJ n] w λe w'=>e=.returned (cE (Bc (u64 n)))/\w=w':=by
 go_enter func57,ntmps57;go_wp2;go_ret;exact⟨EF (eB n),rfl⟩
theorem NG(n:Int)(w:World):Calls prog 34 #[cI cJ n] w λe w'=>e=.returned (cI cJ (Ba n))/\w=w':=by
 cases h:Bc (u64 n);all_goals
  have hv:Ba n=if Bc (u64 n)then Pe else n:=rfl;rw[h]at hv;go_enter func34,ntmps34;go_wp2_with((with_reducible refine(YJ ..).mono ?_);rintro e w' ⟨rfl,rfl⟩)
  go_ret;exact⟨FQ hv.symm,rfl⟩
def rz{op a b n:Int}{y:Bool}(h:OA op a b=(n,y)):Ending.returned (.tuple #[cI cJ n,cE y])=.returned (.tuple #[cI cJ (OA op a b).1,cE (OA op a b).2]):=by rw[h]
theorem tZ(op a b:Int)(w:World):Calls prog 142 #[cI cJ op,cI cJ a,cI cJ b] w λe w'=>e=.returned (.tuple #[cI cJ (OA op a b).1,cE (OA op a b).2])/\AA6 w w':=by
 obtain⟨r1,w1,hr1,hb1,_,hv1⟩:=JD (P:=prog) .add (by simp) 199 (pb a) (pb b) w;obtain⟨r2,w2,hr2,hb2,_,hv2⟩:=JD (P:=prog) .sub (by simp) 199 (pb a) (pb b) w;obtain⟨r3,w3,hr3,hb3,_,hv3⟩:=JD (P:=prog) .mul (by simp) 199 (pb a) (pb b) w;obtain⟨r4,w4,hr4,hb4,_,hv4⟩:=JD (P:=prog) .quo (by simp) 199 (pb a) (pb b) w;have H1:=Wx hv1;have H2:=Wx hv2;have H3:=Wx hv3;have H4:=Wx hv4;clear hv1 hv2 hv3 hv4;go_enter func142,ntmps142;go_wp2_with(first|((with_reducible refine(MQ ..).mono ?_);rintro e w' ⟨rfl,rfl⟩)|((with_reducible refine(aB ..).mono ?_);rintro e w' ⟨rfl,rfl⟩)|((with_reducible refine(XH ..).mono ?_);rintro e w' ⟨rfl,rfl⟩))
 all_goals go_ret2
 all_goals refine⟨rz ?_,by first|assumption|exact AL⟩
 ·exact mH ‹_› H1.out
 ·exact l8 ‹_› H2.out
 ·exact mD ‹_› H3.out
 ·exact l9 ‹_› H4.out
 ·exact mG ‹_›
 ·exact mE ‹_›
 ·exact mF ‹_›
 ·exact fO ‹_› ‹_› ‹_› ‹_› ‹_› ‹_› ‹_›
def X6(n:Int)(w:World):Calls prog 75 #[cI cJ n] w λe w'=>e=.returned (cI cJ (MR n))/\w=w':=by
 go_enter func75,ntmps75;go_wp2_with((with_reducible refine(aB ..).mono ?_);rintro e w' ⟨rfl,rfl⟩)
 go_ret;exact⟨rfl,rfl⟩
def aJ(op:Int)(w:World):Calls prog 141 #[cI cJ op] w λe w'=>e=.returned (cE (decide (15<=op)&&decide (op<=21)))/\w=w':=by
 by_cases h1:15<=op;all_goals
  go_enter func141,ntmps141;go_wp2;all_goals go_ret
  all_goals exact⟨EF (by first|(simp_all;done)|(simp_all;omega)),rfl⟩
end
section
open Dp
theorem XJ(n:Int)(w:World)(hn:Bc (u64 n)=cC):Calls prog 77 #[cI cJ n] w λe w'=>e=.returned (cI cJ (CU n))/\w=w':=by
 have H:Hid (CU n=0):=by simp[CU,hn,Hid]
 have h0:(FloatKind.f64.format.order (pb n) (pb n) !=cP Ordering.eq)=cC:=by rw[IE (Zu n),Oy];exact hn
 go_enter func77,ntmps77;go_wp2_with((with_reducible refine(MQ ..).mono ?_);rintro e w' ⟨rfl,rfl⟩)
 go_ret;exact⟨FQ H.out.symm,rfl⟩
theorem XI(n:Int)(w:World)(h1: -9223372036854775808<=n)(h2:n<=9223372036854775807)(hn:Bc (u64 n)=cA):Calls prog 77 #[cI cJ n] w λe w'=>e=.returned (cI cJ (CU n))/\w=w':=by
 have hw:=UN n h1 h2 hn;have h0:(FloatKind.f64.format.order (pb n) (pb n) !=cP Ordering.eq)=cA:=by rw[IE (Zu n),Oy];exact hn
 have hp:pb n=u64 n:=Xu hn;rw[<-hp]at hw;clear hn hp;rcases hw with⟨c1,hv⟩|⟨c1,c2,hv⟩|⟨c1,c2,hv⟩
 ·have H:=Wx hv;unfold iO nW at c1;go_enter func77,ntmps77;go_wp2_with((with_reducible refine(MQ ..).mono ?_);rintro e w' ⟨rfl,rfl⟩)
  go_ret;exact⟨FQ H.out.symm,rfl⟩
 ·have H:=Wx hv;clear hv;unfold iO nW at c1;unfold vg xL at c2;go_enter func77,ntmps77;go_wp2_with((with_reducible refine(MQ ..).mono ?_);rintro e w' ⟨rfl,rfl⟩)
  go_ret;exact⟨FQ H.out.symm,rfl⟩
 ·have hr:=run_convert_float_int (P:=prog) w 199 2 .f64 .i64 (pb n) (CU n) (by rw[underlying199];rfl) underlying2 hv;unfold iO nW at c1;unfold vg xL at c2;go_enter func77,ntmps77;go_wp2_with((with_reducible refine(MQ ..).mono ?_);rintro e w' ⟨rfl,rfl⟩)
  go_ret;exact⟨rfl,rfl⟩
theorem XK(n:Int)(w:World)(h1: -9223372036854775808<=n)(h2:n<=9223372036854775807):Calls prog 77 #[cI cJ n] w λe w'=>e=.returned (cI cJ (CU n))/\w=w':=by grind [XI,XJ]
end
section
open Num
def Jk{op a b n:Int}{y:Bool}(h:Kv op a b=(n,y)):Ending.returned (.tuple #[cI cJ n,cE y])=.returned (.tuple #[cI cJ (Kv op a b).1,cE (Kv op a b).2]):=by rw[h]
def Uu(b:Bool)(w:World):Calls prog 224 #[cE b] w λe w'=>e=.returned (.tuple #[cI cJ (mX b),cE cC])/\w=w':=by
 cases b<;>
 ·go_enter func224,ntmps224;go_wp2;go_ret2;exact⟨rfl,rfl⟩
def dU(op a b:Int)(hop:op=4\/op=5)(w:World):Calls prog 197 #[cI cJ op,cI cJ a,cI cJ b] w λe w'=>e=.returned (.tuple #[cI cJ (Kv op a b).1,cE (Kv op a b).2])/\w=w':=by
 by_cases h0:b=0
 ·subst h0;have H:Hid (Kv op a 0=(0,cA)):=by rcases hop with rfl|rfl<;>rfl
  rcases hop with rfl|rfl;all_goals
   go_enter func197,ntmps197;go_wp2;go_ret2;exact⟨Jk H.out,rfl⟩
 ·have hb0:(b==0)=cA:=by simpa using h0
  by_cases h1:b= -1
  ·subst h1;rcases hop with rfl|rfl
   ·go_enter func197,ntmps197;go_wp2;go_ret2;exact⟨Jk (ACU a),rfl⟩
   ·go_enter func197,ntmps197;go_wp2;go_ret2;exact⟨Jk (sD a),rfl⟩
  ·have hb1:(b== -1)=cA:=(by simpa using h1);have H4:=Wx (uD (a:=a) h0);have H5:=Wx (sF (a:=a) h0);rcases hop with rfl|rfl;all_goals
    go_enter func197,ntmps197;go_wp2;go_ret2;refine⟨Jk ?_,rfl⟩
    first|exact H4.out|exact H5.out
def QO(op a b:Int)(hop:op<1\/10<op)(w:World):Calls prog 198 #[cI cJ op,cI cJ a,cI cJ b] w λe w'=>e=.returned (.tuple #[cI cJ (Kv op a b).1,cE (Kv op a b).2])/\w=w':=by
 by_cases h:op<1\/14<op
 ·have H:=Wx (mI (a:=a) (b:=b) h);have e1:(op==11)=cA:=by rw[beq_eq_false_iff_ne];omega
  have e2:(op==12)=cA:=by rw[beq_eq_false_iff_ne];omega
  have e3:(op==13)=cA:=by rw[beq_eq_false_iff_ne];omega
  have e4:(op==14)=cA:=by rw[beq_eq_false_iff_ne];omega
  go_enter func198,ntmps198;go_wp2;go_ret2;exact⟨Jk H.out,rfl⟩
 ·have hw:op=11\/op=12\/op=13\/op=14:=by omega
  rcases hw with rfl|rfl|rfl|rfl;all_goals
   go_enter func198,ntmps198;(go_wp2_with((with_reducible refine(Uu ..).mono ?_);rintro e w' ⟨rfl,rfl⟩));go_ret2;exact⟨rfl,rfl⟩
def kM(op a b:Int)(w:World):Calls prog 143 #[cI cJ op,cI cJ a,cI cJ b] w λe w'=>e=.returned (.tuple #[cI cJ (Kv op a b).1,cE (Kv op a b).2])/\w=w':=by
 have h63:=uR b;have hsl:=zU b;by_cases h:op<1\/10<op
 ·have e1:(op==1)=cA:=by rw[beq_eq_false_iff_ne];omega
  have e2:(op==2)=cA:=by rw[beq_eq_false_iff_ne];omega
  have e3:(op==3)=cA:=by rw[beq_eq_false_iff_ne];omega
  have e4:(op==4)=cA:=by rw[beq_eq_false_iff_ne];omega
  have e5:(op==5)=cA:=by rw[beq_eq_false_iff_ne];omega
  have e6:(op==6)=cA:=by rw[beq_eq_false_iff_ne];omega
  have e7:(op==7)=cA:=by rw[beq_eq_false_iff_ne];omega
  have e8:(op==8)=cA:=by rw[beq_eq_false_iff_ne];omega
  have e9:(op==9)=cA:=by rw[beq_eq_false_iff_ne];omega
  have e10:(op==10)=cA:=by rw[beq_eq_false_iff_ne];omega
  have H:=Wx h;go_enter func143,ntmps143;go_wp2_with((with_reducible refine(QO _ _ _ H.out _).mono ?_);rintro e w' ⟨rfl,rfl⟩)
  go_ret2;exact⟨rfl,rfl⟩
 ·by_cases h4:op=4\/op=5
  ·have H:=Wx h4;rcases h4 with rfl|rfl;all_goals
    go_enter func143,ntmps143;(go_wp2_with((with_reducible refine(dU _ _ _ H.out _).mono ?_);rintro e w' ⟨rfl,rfl⟩));go_ret2;exact⟨rfl,rfl⟩
  ·have hw:op=1\/op=2\/op=3\/op=6\/op=7\/op=8\/op=9\/op=10:=(by omega);rcases hw with rfl|rfl|rfl|rfl|rfl|rfl|rfl|rfl;all_goals
    go_enter func143,ntmps143;go_wp2;go_ret2;exact⟨rfl,rfl⟩
end
section
open Num Dp
structure Qd(w0 w:World)(B N M:Nat)(k:Hd)(s:St)(j:Int)(rest:List Lv)(x:Lv)(i:Is)(p1:Option Addr)(c1:Nat):Prop where
 h0:AA6 w0 w
 a:Row Lg 3 w0 (cY p1 i.as.length c1) i.as
 m:Am w B N M k s j
 fr:s.frames=rest++[x]
 l:rest.length+1<=140737488351232
 x:x.i<=1000000
 n:i.as.length<=8
 k:∀a∈i.as,NZ a
abbrev BI(B M:Nat)(k:Hd)(s:St)(j:Int)(w:World)(e:Ending)(w':World):Prop:=e=.returned (.tuple #[])/\(∃N',Am w' B N' M k s j)/\Below B w w'
theorem Um{N M:Nat}{s:St}{j:Int}{rest:List Lv}{x:Lv}{i:Is}{p1 p2 p3:Option Addr}{c1 l2 c2 l3 c3:Nat}(h:Qd w0 w B N M k s j rest x i p1 c1){a b:Ag}(has:i.as=[a,b])(hop:1<=i.op/\i.op<=21){t:St}(ht:(if i.op<=14 then(if(Kv i.op (Ar x.vars a).2 (Ar x.vars b).2).2=cC then BP s rest x i.d (BA,(Kv i.op (Ar x.vars a).2 (Ar x.vars b).2).1)else Gd s 2) else BP s rest x i.d (if i.op<=18 then Ao else BA,(OA i.op (Ar x.vars a).2 (Ar x.vars b).2).1))=t):Calls prog 86 #[.pointer (cP ⟨M,0,cX⟩),.agg #[cI cJ i.op,cS i.d,cS i.n,cY p1 i.as.length c1,cY p2 l2 c2,cY p3 l3 c3]] w (BI B M k t j w):=by
 obtain⟨h0,hA,hM,hfr,hl,hx,-,hk⟩:=h;obtain⟨pa,ca,hpa,-,-,hA⟩:=hA;have hka:NZ a:=hk a (by rw[has];simp);have hkb:NZ b:=hk b (by rw[has];simp);obtain⟨aa,e1,d0,⟨d1,-⟩,d2⟩:=hA 0 a (by rw[has];rfl);obtain⟨xJ,e2,g0,⟨g1,-⟩,g2⟩:=hA 1 b (by rw[has];rfl);have hlen:i.as.length=2:=by rw[has];rfl
 rw[hlen]at hpa⊢;obtain⟨rfl,rfl⟩:p1=pa/\c1=ca:=by simpa using hpa
 subst e1;obtain rfl:aa=xJ:=by simpa using e2
 replace d0:w0.cell? aa=cP (cI cJ a.k):=d0;replace d1:w0.cell? ⟨aa.block,aa.off+1,cX⟩=cP (cS a.s):=d1;replace d2:w0.cell? ⟨aa.block,aa.off+2,cX⟩=cP (cI cJ a.n):=d2;replace g0:w0.cell? ⟨aa.block,aa.off+3,cX⟩=cP (cI cJ b.k):=g0;replace g1:w0.cell? ⟨aa.block,aa.off+3+1,cX⟩=cP (cS b.s):=g1;replace g2:w0.cell? ⟨aa.block,aa.off+3+2,cX⟩=cP (cI cJ b.n):=g2;generalize i.d=dst at*;generalize i.n=nm at*;generalize i.op=op at*;obtain⟨hI,hb1⟩:=BR (w:=w) (c1:=[cI cJ op,cS dst,cS nm,cY (cP aa) 2 c1,cY p2 l2 c2,cY p3 l3 c3]) (t1:=133) (AL);have Df:N<=w.heap.size:=hM.own.sz;have hBN:B<=N:=by have:=hM.own.ge;have:=hM.own.lt;omega
 replace ht:=Wx ht;go_enter func86,ntmps86;generalize Cr:w.alloc (.cells #[cI cJ op,cS dst,cS nm,cY (cP aa) 2 c1,cY p2 l2 c2,cY p3 l3 c3] 133)=W at*;replace hM:=hM.kp (hb1.mono Df);obtain⟨FB,cap,bm,hT,-⟩:=hM.top hfr hl;have hw0:=AB h0 hb1;replace d0:=AA hw0 d0;replace d1:=AA hw0 d1;replace d2:=AA hw0 d2;replace g0:=AA hw0 g0;replace g1:=AA hw0 g1;replace g2:=AA hw0 g2;have TQ:N<=W.heap.size:=hM.own.sz;have iI:=hI.lt;have hva:=λv (hT:DX v M FB rest.length cap bm x)=>Cm hT a hka;have hvb:=λv (hT:DX v M FB rest.length cap bm x)=>Cm hT b hkb;generalize Yt:Ar x.vars a=ua at*;generalize hub:Ar x.vars b=ub at*;go_wp2;refine ALR (S:=Dw W 12 14 13 15 [cS ⟨#[]⟩,cI cJ 0] [cS ua.1,cI cJ ua.2] [cS ub.1,cI cJ ub.2]) (Dw.start Ac) ?_;iterate 5(first|(refine AU.f (λz=>z.s.keep rfl rfl rfl rfl) (λz=>(hI.below iI z.s.b).c 3 _ rfl) ?_)|(refine AU.f (λz=>z.s.keep rfl rfl rfl rfl) (λz=>ALS (AA z.s.b d0) (ALS (AA z.s.b d1) (AA z.s.b d2))) ?_))
 (refine AU.c (λz=>have hT:=hT.kp z.s.b;hva _ hT) (λz hb=>z.s.call hb rfl rfl rfl rfl) ?_);iterate 5(first|(refine AU.f (λz=>z.s.keep rfl rfl rfl rfl) (λz=>(hI.below iI z.s.b).c 3 _ rfl) ?_)|(refine AU.f (λz=>z.s.keep rfl rfl rfl rfl) (λz=>ALS (AA z.s.b g0) (ALS (AA z.s.b g1) (AA z.s.b g2))) ?_))
 (refine AU.c (λz=>have hT:=hT.kp z.s.b;hvb _ hT) (λz hb=>z.s.call hb rfl rfl rfl rfl) ?_);(apply AU.w rfl;intro V L w1 _ _ _ z hK;go_simp;exact hK rfl (z.s.AAM rfl rfl rfl z.i _);(try simp only[pE]));(apply AU.w rfl;intro V L w1 _ _ _ z hK;go_simp;exact hK rfl (z.s.AAL rfl rfl rfl z.i _);(try simp only[pE]));(apply AU.val undef (λ_=>rfl);intro V L w1 _ _ hS hi hR' hd hK;have hl:=hd.out (12) (by kernel_rfl);obtain⟨p,hp,hp0,hp1,hx⟩:=hS.x.at hl hi;have c0:=hx.c 0 _ rfl;have c1:=hx.c 1 _ rfl;have f0:=hx.f 0 (by decide);have f1:=hx.f 1 (by decide);go_simp;refine hK.out _ _ (by simp only[hp];rfl) (hS.Z6 hl hp hp0 (by simpa using hp1) ((hS.b.setCell hp0 _).setCell hp0 _) (hx.nY _ _) O8 rfl rfl rfl));(apply AU.val undef (λ_=>rfl);intro V L w1 _ _ hS hi hR' hd hK;have hl:=hd.out (13) (by kernel_rfl);obtain⟨p,hp,hp0,hp1,hx⟩:=hS.y.at hl hi;have c0:=hx.c 0 _ rfl;have c1:=hx.c 1 _ rfl;have f0:=hx.f 0 (by decide);have f1:=hx.f 1 (by decide);go_simp;refine hK.out _ _ (by simp only[hp];rfl) (hS.Z5 hl hp hp0 (by simpa using hp1) ((hS.b.setCell hp0 _).setCell hp0 _) (hx.nY _ _) O8 rfl rfl rfl));refine AU.nil λV w1 hS5=>?_;obtain⟨px,hpx,-,-,PU⟩:=hS5.x.done rfl rfl;obtain⟨py,hpy,-,-,hxy⟩:=hS5.y.done rfl rfl;have hbW:=hS5.b;simp only[hpx,hpy];have pV:=hM.kp (hbW.mono TQ);have hI2:=hI.below iI hbW;have Db:Below B w w1:=((hb1.mono (by omega)).trans (hbW.mono (by omega)));obtain⟨i0,i1,i2,i3,i4,i5⟩:=hI2.c6;have x1:=PU.c 1 _ rfl;have y1:=hxy.c 1 _ rfl;by_cases VO:op<=14
 ·have hIs:=λv=>aJ op v;have hib:(decide (15<=op)&&decide (op<=21))=cA:=by simp;omega
  rw[hib]at hIs;have hDo:=λv=>kM op ua.2 ub.2 v;replace ht:=ht.out;rw[if_pos VO]at ht;go_wp2_with fail;refine(hIs _).mono ?_;rintro e w2 ⟨rfl,rfl⟩;go_wp2_with fail;refine(hDo _).mono ?_;rintro e w2 ⟨rfl,rfl⟩
  cases hz:(Kv op ua.2 ub.2).2 with
  |true=>
   rw[hz,if_pos rfl]at ht;have hset:=Co pV hfr hl hx op dst nm (cP aa) p2 p3 2 l2 l3 c1 c2 c3 (BA,(Kv op ua.2 ub.2).1);generalize(Kv op ua.2 ub.2).1=r at*;go_wp2_with fail;refine hset.mono ?_;rintro e w2 ⟨rfl,hm,hb⟩;rw[ht]at hm;go_wp2;go_end0
   exact⟨rfl,⟨_,hm⟩,Db.trans hb⟩
  |false=>
   rw[hz,if_neg (by decide)]at ht;have htr:=Mg pV 2;go_wp2_with fail;refine htr.mono ?_;rintro e w2 ⟨rfl,hm,hb⟩;rw[ht]at hm;go_wp2;go_end0;exact⟨rfl,⟨_,hm⟩,Db.trans hb⟩
 ·have hIs:=λv=>aJ op v;have hib:(decide (15<=op)&&decide (op<=21))=cC:=by simp;omega
  rw[hib]at hIs;have hDo:=λv=>tZ op ua.2 ub.2 v;replace ht:=ht.out;rw[if_neg VO]at ht;have hwI:w.heap.size<w1.heap.size:=World.block_lt_of_cell? w1 ⟨w.heap.size,0,cX⟩ i0;go_wp2_with fail;refine(hIs _).mono ?_;rintro e w2 ⟨rfl,rfl⟩;go_wp2_with fail;refine(hDo _).mono ?_;rintro e w3 ⟨rfl,hb3⟩;replace i0:=AA hb3 i0;replace i1:=AA hb3 i1;replace i2:=AA hb3 i2;replace i3:=AA hb3 i3;replace i4:=AA hb3 i4;replace i5:=AA hb3 i5;have TR:=pV.kp (hb3.mono pV.own.sz);have hb4:=Db.trans (hb3.mono (by have:=pV.own.sz;omega));generalize(OA op ua.2 ub.2).1=r at*;generalize(OA op ua.2 ub.2).2=r2 at*;by_cases h18:op<=18
  ·rw[if_pos h18]at ht;have hset:=Co TR hfr hl hx op dst nm (cP aa) p2 p3 2 l2 l3 c1 c2 c3 (Ao,r);go_wp2_with fail;refine hset.mono ?_;rintro e w2 ⟨rfl,hm,hb⟩;rw[ht]at hm;go_wp2;go_end0;exact⟨rfl,⟨_,hm⟩,hb4.trans hb⟩
  ·rw[if_neg h18]at ht;have hset:=Co TR hfr hl hx op dst nm (cP aa) p2 p3 2 l2 l3 c1 c2 c3 (BA,r);go_wp2_with fail;refine hset.mono ?_;rintro e w2 ⟨rfl,hm,hb⟩;rw[ht]at hm;go_wp2;go_end0;exact⟨rfl,⟨_,hm⟩,hb4.trans hb⟩
end
structure Qw(w:World)(v:Value)(x:Bk)(u1 u2 u3:Value):Prop where
 e:v=.agg #[cS x.n,u1,u2,cI cJ x.e.k,cI cJ x.e.a.k,cS x.e.a.s,cI cJ x.e.a.n,u3,cI cJ x.e.n]
 z:Sz x.n/\Sz x.e.a.s
 p:Row Px 2 w u1 x.ps
 c:Row WZ 6 w u2 x.cs
 t:Row DL 1 w u3 x.e.to
def JK(y:TH):Nat:=1+y.b.size+y.a.s.size
def Fb(y:Ph):Nat:=1+y.d.size+Aj JK y.is
def F6(y:ByteArray):Nat:=1+y.size
def G5(b:Bk):Nat:=1+b.n.size+b.e.a.s.size+Aj F6 b.e.to+Aj Fb b.ps+Aj IJ b.cs
def tH{k:Int}{A:Nat}{l:List Is}(h:q<l.length)(he:GV k (A+Aj IJ (l.take q)+IJ l[q])):GV k (A+Aj IJ (l.take (q+1))):=
 he.cast (by rw[BD IJ h];omega)
theorem VI(h0:AA6 w0 w){x:Bk}(hv:Qw w0 v x u1 u2 u3):Calls prog 121 #[v,cI cJ 4000] w λe w'=>AA6 w w'/\∃n:Int,e=.returned (cI cJ n)/\Cn n 1125899906842624/\GV n (G5 x):=by
 obtain⟨rfl,⟨z1,z2⟩,hp,hc,ht⟩:=hv;have z1:=Qe z1;have z2:=Qe z2;obtain⟨p1,k1,rfl,-,hn1,hp⟩:=hp;obtain⟨p2,k2,rfl,-,hn2,hc⟩:=hc;obtain⟨p3,k3,rfl,-,QY,ht⟩:=ht;generalize hcb:G5 x=CB at*;unfold G5 at hcb;generalize x.e.a.s=es at*;generalize x.e.to=tl at*;have hb1:=AJ w (.cells #[cS x.n,cY p1 x.ps.length k1,cY p2 x.cs.length k2,cI cJ x.e.k,cI cJ x.e.a.k,cS es,cI cJ x.e.a.n,cY p3 tl.length k3,cI cJ x.e.n] 82);have hB:=Ae.alloc w [cS x.n,cY p1 x.ps.length k1,cY p2 x.cs.length k2,cI cJ x.e.k,cI cJ x.e.a.k,cS es,cI cJ x.e.a.n,cY p3 tl.length k3,cI cJ x.e.n] 82;have h1:=AB h0 hb1;generalize x.e.k=ek at*;generalize x.e.a.k=eak at*;generalize x.e.a.n=ean at*;generalize x.e.n=en at*;go_enter func121,ntmps121;by_cases c1:4000<x.ps.length
 ·have c1:(4000:Int)<x.ps.length:=by omega
  clear h1 hp hc ht;go_wp2;go_ret;exact⟨hb1,_,rfl,⟨by omega,by omega⟩,.big (by omega)⟩
 have c1I:¬(4000:Int)<x.ps.length:=by omega
 by_cases c2:4000<x.cs.length
 ·have c2:(4000:Int)<x.cs.length:=by omega
  clear h1 hp hc ht;go_wp2;go_ret;exact⟨hb1,_,rfl,⟨by omega,by omega⟩,.big (by omega)⟩
 have c2I:¬(4000:Int)<x.cs.length:=by omega
 by_cases c3:4000<tl.length
 ·have c3:(4000:Int)<tl.length:=by omega
  clear h1 hp hc ht;go_wp2;go_ret;exact⟨hb1,_,rfl,⟨by omega,by omega⟩,.big (by omega)⟩
 have c3I:¬(4000:Int)<tl.length:=by omega
 go_upto_if 38 with fail;refine(?_:∀W,W=w.alloc (.cells #[cS x.n,cY p1 x.ps.length k1,cY p2 x.cs.length k2,cI cJ ek,cI cJ eak,cS es,cI cJ ean,cY p3 tl.length k3,cI cJ en] 82)->Code.wp _ _ _ _ W) _ rfl;intro W hW;rw[<-hW]at hb1 hB h1;clear hW;go_cut[5]from 36 to 45 (λn wx=>WX n 1125899906842624 (1+x.n.size+es.size)/\wx=W)
 ·have b5:=hB.c 5 _ rfl;by_cases hk:1+(x.n.size:Int)<=4000
  ·go_wp2;go_meet;exact⟨⟨_,rfl,⟨by omega,by omega⟩,.is (by omega)⟩,rfl⟩
  ·go_wp2;go_meet;exact⟨⟨_,rfl,⟨by omega,by omega⟩,.big (by omega)⟩,rfl⟩
 obtain⟨⟨k,rfl,⟨hk0,hk1⟩,he⟩,rfl⟩:=hcut;go_upto_block 0 with fail;go_cut[5,6]from 46 to 68 (λn _ wx=>WX n 1125899906842624 (1+x.n.size+es.size+Aj F6 tl)/\wx=wc)
 ·have b7:=hB.c 7 _ rfl;clear hp hc;go_wp2;go_loopw[5,6] (λn i wr=>∃q:Nat,∃k:Int,q<=tl.length/\i=cI cJ (q:Int)/\n=cI cJ k/\Cn k 1125899906842624/\GV k (1+x.n.size+es.size+Aj F6 (tl.take q))/\wr=wc) (λ_ i _=>tl.length-(intOf i).toNat);exact⟨0,_,AY,rfl,rfl,⟨hk0,hk1⟩,he,rfl⟩;clear hk0 hk1 he;obtain⟨q,k,hq,rfl,rfl,⟨hk0,hk1⟩,he,rfl⟩:=hrel;by_cases hend:q=tl.length
  ·subst hend;rw[DY]at he;clear ht;go_wp2;go_meet;exact⟨⟨_,rfl,⟨hk0,hk1⟩,he⟩,rfl⟩
  ·have hlt:q<tl.length:=(by omega);have A8:(q:Int)<tl.length:=(by omega);by_cases hk2:k<=4000
   ·obtain⟨a,rfl,g1,g2⟩:=ht q tl[q] (by simp[hlt]);have g1:=AA h1 g1;have g2:=Qe g2;rw[Nat.mul_one]at g1;have hnx:=BD F6 hlt;change _=_+(1+tl[q].size)at hnx;generalize tl[q]=s at*;go_wp2;go_roundw;exact⟨q+1,k+1+s.size,by omega,by go_num,by go_num,⟨by omega,by omega⟩,((he.add (.of (n:=1)) hk0 (by omega)).add (.of (n:=s.size)) (by omega) (by omega)).cast (by omega),trivial⟩;simp[intOf];omega
   ·clear ht;go_wp2;go_meet;exact⟨⟨_,rfl,⟨hk0,hk1⟩,.big (by omega)⟩,rfl⟩
 obtain⟨⟨k,rfl,⟨hk0,hk1⟩,he⟩,rfl⟩:=hcut;have hp2:∀(q:Nat) (hq:q<x.ps.length),∃a,p1=cP a/\∃(s:ByteArray) (pb:Option Addr) (nb kb:Nat) (z:Nat->Nat),(1+s.size+KE z nb=Fb (x.ps[q]'hq))/\wc.cell? (a.add (q*2))=cP (cS s)/\At wc (a.add (q*2)) 1 (cY pb nb kb)/\(s.size:Int)<=140737488351232/\nb<=140737488351232/\
   ∀j,j<nb->∃b,pb=cP b/\∃s t:ByteArray,z j=1+s.size+t.size/\wc.cell? (b.add (j*4))=cP (cS s)/\At wc (b.add (j*4)) (1+1) (cS t)/\(s.size:Int)<=140737488351232/\(t.size:Int)<=140737488351232:=λq hq=>by
  obtain⟨a,e,h⟩:=hp q x.ps[q] (by simp[hq]);obtain⟨⟨g1,g2⟩,u,g5,pb,kb,rfl,-,g6,g7⟩:=h;refine⟨a,e,_,pb,_,kb,λj=>Aj JK ((x.ps[q].is.drop j).take 1),(by rw[RV];rfl),AA h1 g1,AA h1 g5,Qe g2,g6.1,λj hj=>?_⟩;obtain⟨b,e2,⟨i1,i2⟩,-,⟨i3,i4⟩,-⟩:=g7 j x.ps[q].is[j] (by simp[hj]);exact⟨b,e2,_,_,by show Aj JK _=_;rw[Mr hj];rfl,AA h1 i1,AA h1 i3,Qe i2,Qe i4⟩
 go_upto_block 2 with fail;go_cut[5,7,8]from 69 to 137 (λn _ _ wx=>WX n 1125899906842624 (1+x.n.size+es.size+Aj F6 tl+Aj Fb x.ps)/\wx=wc)
 ·have b1:=hB.c 1 _ rfl;go_wp2;go_loopw[5,7,8] (λn i _ wr=>∃q:Nat,∃k:Int,q<=x.ps.length/\i=cI cJ (q:Int)/\n=cI cJ k/\Cn k 1125899906842624/\GV k (1+x.n.size+es.size+Aj F6 tl+Aj Fb (x.ps.take q))/\wr=wc) (λ_ i _ _=>x.ps.length-(intOf i).toNat);exact⟨0,_,AY,rfl,rfl,⟨hk0,hk1⟩,he,rfl⟩;obtain⟨q,k,hq,rfl,rfl,⟨hk0,hk1⟩,he,rfl⟩:=hrel;by_cases hend:q=x.ps.length
  ·subst hend;rw[DY]at he;go_wp2;go_meet;exact⟨⟨_,rfl,⟨hk0,hk1⟩,he⟩,rfl⟩
  ·have hlt:q<x.ps.length:=(by omega);have A8:(q:Int)<x.ps.length:=(by omega);by_cases hk2:k<=4000
   ·obtain⟨a,rfl,s,pb,nb,kb,z,hz,d0,d3,hs,hnb,hj⟩:=hp2 q hlt;have hnx:=BD Fb hlt;rw[<-hz]at hnx;generalize hT:Aj Fb (x.ps.take q)=T0 at*;replace hnx:=Wx hnx;go_wp2;obtain⟨w7,rfl⟩:=again wr;go_loopw[5,8] (λn i wr=>∃j:Nat,∃k:Int,j<=nb/\i=cI cJ (j:Int)/\n=cI cJ k/\Cn k 1125899906842624/\GV k (1+x.n.size+es.size+Aj F6 tl+T0+1+s.size+KE z j)/\wr=w7) (λ_ i _=>nb-(intOf i).toNat);exact⟨0,k+1+s.size,AY,rfl,by go_num,⟨by omega,by omega⟩,(he.add (.of (n:=1)) hk0 (by omega)).add (.of (n:=s.size)) (by omega) (by omega),rfl⟩;clear hk0 hk1 hk2 he;obtain⟨j,k,hjl,rfl,rfl,⟨hk0,hk1⟩,he,rfl⟩:=hrel;by_cases hje:j=nb
    ·subst hje;clear hj;go_wp2;go_roundw;exact⟨q+1,k,by omega,by go_num,rfl,⟨hk0,hk1⟩,he.cast (by have:=hnx.out;omega),trivial⟩;simp[intOf];omega
    ·have hjlt:j<nb:=(by omega);have hjI:(j:Int)<nb:=(by omega);by_cases hk2:k<=4000
     ·obtain⟨b,rfl,s2,t2,hzj,e0,e2,hs2,ht2⟩:=hj j hjlt;clear hj;have hnn:KE z (j+1)=KE z j+(1+s2.size+t2.size):=(by rw[<-hzj];rfl);by_cases hk3:k+1+s2.size<=4000
      ·go_wp2;go_roundw;exact⟨j+1,k+1+s2.size+t2.size,by omega,by go_num,by go_num,⟨by omega,by omega⟩,(((he.add (.of (n:=1)) hk0 (by omega)).add (.of (n:=s2.size)) (by omega) (by omega)).add (.of (n:=t2.size)) (by omega) (by omega)).cast (by omega),trivial⟩;simp[intOf];omega
      ·go_wp2;go_roundw;exact⟨j+1,k+1+s2.size,by omega,by go_num,by go_num,⟨by omega,by omega⟩,.big (by omega),trivial⟩;simp[intOf];omega
     ·clear hj;go_wp2;go_roundw;exact⟨q+1,k,by omega,by go_num,rfl,⟨hk0,hk1⟩,.big (by omega),trivial⟩;simp[intOf];omega
   ·clear hp2;go_wp2;go_meet;exact⟨⟨_,rfl,⟨hk0,hk1⟩,.big (by omega)⟩,rfl⟩
 obtain⟨⟨k,rfl,⟨hk0,hk1⟩,he⟩,rfl⟩:=hcut;go_wp2;go_loopw[5,9] (λn i wr=>∃q:Nat,∃k:Int,q<=x.cs.length/\i=cI cJ (q:Int)/\n=cI cJ k/\Cn k 1125899906842624/\GV k (1+x.n.size+es.size+Aj F6 tl+Aj Fb x.ps+Aj IJ (x.cs.take q))/\AA6 wc wr) (λ_ i _=>x.cs.length-(intOf i).toNat);exact⟨0,_,AY,rfl,rfl,⟨hk0,hk1⟩,he,AL⟩;obtain⟨q,k,hq,rfl,rfl,⟨hk0,hk1⟩,he,hbw⟩:=hrel;have hB1:=hB.nx hbw;have b2:=hB1.c 2 _ rfl;have hbf:=AB hb1 hbw;by_cases hend:q=x.cs.length
 ·subst hend;rw[DY,hcb]at he;go_wp2;go_ret;exact⟨hbf,_,rfl,⟨hk0,hk1⟩,he⟩
 ·have hlt:q<x.cs.length:=by omega
  have A8:(q:Int)<x.cs.length:=by omega
  by_cases hk2:k<=4000
  ·obtain⟨a,rfl,hI⟩:=hc q x.cs[q] (by simp[hlt]);obtain⟨g0,⟨g1,y1⟩,⟨g2,y2⟩,⟨v3,g3,r3⟩,⟨v4,g4,r4⟩,v5,g5,r5⟩:=hI;have hw:=AB h1 hbw;have hV:Pv w0 (.agg #[cI cJ x.cs[q].op,cS x.cs[q].d,cS x.cs[q].n,v3,v4,v5]) x.cs[q] v3 v4 v5:=⟨rfl,⟨y1,y2⟩,r3,r4,r5⟩;have hA:=VH hw hV;have g0:=AA hw g0;have g1:=AA hw g1;have g2:=AA hw g2;have g3:=AA hw g3;have g4:=AA hw g4;have g5:=AA hw g5;obtain⟨uw,k3',rfl⟩:=r3.slice;obtain⟨p4',k4',rfl⟩:=r4.slice;obtain⟨p5',k5',rfl⟩:=r5.slice;have hS:=λk:Int=>tH (k:=k) (A:=1+x.n.size+es.size+Aj F6 tl+Aj Fb x.ps) hlt;generalize x.cs[q]=y at*;go_wp2_with fail;refine hA.mono ?_;rintro e w2 ⟨hb2,n,rfl,⟨hn0,hn1⟩,he2⟩;have pJ:=hS _ (he.add he2 hk0 hn0);have hbw2:=AB hbw hb2;go_wp2;go_roundw;exact⟨q+1,k+n,by omega,by go_num,by go_num,⟨by omega,by omega⟩,pJ,hbw2⟩;simp[intOf];omega
  ·clear hc hB hB1;go_wp2;go_ret;exact⟨hbf,_,rfl,⟨hk0,hk1⟩,.big (by omega)⟩
def cntF(f:Fn):Nat:=1+f.n.size+f.r.size+CY f.ps+CY f.vs+Aj G5 f.bs
def uQ{k:Int}{A:Nat}{l:List Bk}(h:q<l.length)(he:GV k (A+Aj G5 (l.take q)+G5 l[q])):GV k (A+Aj G5 (l.take (q+1))):=
 he.cast (by rw[BD G5 h];omega)
def Jf.val{x:Bk}(h:Jf w a x):∃u1 u2 u3,Qw w (.agg #[cS x.n,u1,u2,cI cJ x.e.k,cI cJ x.e.a.k,cS x.e.a.s,cI cJ x.e.a.n,u3,cI cJ x.e.n]) x u1 u2 u3/\w.cell? a=cP (cS x.n)/\At w a 1 u1/\At w a 2 u2/\At w a 3 (cI cJ x.e.k)/\At w a 4 (cI cJ x.e.a.k)/\At w a 5 (cS x.e.a.s)/\At w a 6 (cI cJ x.e.a.n)/\At w a 7 u3/\At w a 8 (cI cJ x.e.n):=by
 obtain⟨⟨h1,z1⟩,⟨u1,h2,r1⟩,⟨u2,h3,r2⟩,h4,⟨h5,⟨h6,z2⟩,h7⟩,⟨u3,h8,r3⟩,h9⟩:=h;exact⟨u1,u2,u3,⟨rfl,⟨z1,z2⟩,r1,r2,r3⟩,h1,h2,h3,h4,h5,h6,h7,h8,h9⟩
theorem Sm(h0:AA6 w0 w){x:Fn}(hv:EL w0 v x u1 u2 u3):Calls prog 66 #[v,cI cJ 4000] w λe w'=>AA6 w w'/\∃n:Int,e=.returned (cI cJ n)/\Cn n 2251799813685248/\GV n (cntF x):=by
 obtain⟨rfl,⟨z1,z2⟩,hp,hv,hk⟩:=hv;generalize hcf:cntF x=CF at*;unfold cntF at hcf;have z1:=Qe z1;have z2:=Qe z2;obtain⟨p1,k1,rfl⟩:=hp.slice;obtain⟨p2,k2,rfl⟩:=hv.slice;obtain⟨p3,k3,rfl,-,QY,hk⟩:=hk;have hb1:=AJ w (.cells #[cS x.n,cS x.r,cY p1 x.ps.length k1,cY p2 x.vs.length k2,cY p3 x.bs.length k3] 66);have hB:=Ae.alloc w [cS x.n,cS x.r,cY p1 x.ps.length k1,cY p2 x.vs.length k2,cY p3 x.bs.length k3] 66;have h1:=AB h0 hb1;have hP:=JC h1 hp;have hV:=JC h1 hv;clear hp hv;go_enter func66,ntmps66;by_cases c1:4000<x.bs.length
 ·have c1:(4000:Int)<x.bs.length:=by omega
  clear h1 hP hV hk;go_wp2;go_ret;exact⟨hb1,_,rfl,⟨by omega,by omega⟩,.big (by omega)⟩
 have c1I:¬(4000:Int)<x.bs.length:=by omega
 go_upto_if 20 with fail;refine(?_:∀W,W=w.alloc (.cells #[cS x.n,cS x.r,cY p1 x.ps.length k1,cY p2 x.vs.length k2,cY p3 x.bs.length k3] 66)->Code.wp _ _ _ _ W) _ rfl;intro W hW;rw[<-hW]at hb1 hB h1 hP hV;clear hW;go_cut[5]from 18 to 25 (λn wx=>WX n 2251799813685248 (1+x.n.size+x.r.size)/\wx=W)
 ·have b1:=hB.c 1 _ rfl;clear hP hV hk;by_cases hk:1+(x.n.size:Int)<=4000
  ·go_wp2;go_meet;exact⟨⟨_,rfl,⟨by omega,by omega⟩,.is (by omega)⟩,rfl⟩
  ·go_wp2;go_meet;exact⟨⟨_,rfl,⟨by omega,by omega⟩,.big (by omega)⟩,rfl⟩
 obtain⟨⟨k,rfl,⟨hk0,hk1⟩,he⟩,rfl⟩:=hcut;go_upto_if 28 with fail;go_cut[5]from 26 to 34 (λn wx=>WX n 2251799813685248 (1+x.n.size+x.r.size+CY x.ps)/\wx=wc)
 ·have b2:=hB.c 2 _ rfl;by_cases hk:k<=4000
  ·go_wp2_with fail;refine hP.mono ?_;rintro e w2 ⟨rfl,n,rfl,⟨hn0,hn1⟩,hn2⟩;go_wp2;go_meet;exact⟨⟨_,rfl,⟨by omega,by omega⟩,he.add hn2 hk0 hn0⟩,rfl⟩
  ·clear hP;go_wp2;go_meet;exact⟨⟨_,rfl,⟨by omega,by omega⟩,.big (by omega)⟩,rfl⟩
 obtain⟨⟨k,rfl,⟨hk0,hk1⟩,he⟩,rfl⟩:=hcut;go_upto_if 37 with fail;go_cut[5]from 35 to 43 (λn wx=>WX n 2251799813685248 (1+x.n.size+x.r.size+CY x.ps+CY x.vs)/\wx=wc)
 ·have b3:=hB.c 3 _ rfl;by_cases hk:k<=4000
  ·go_wp2_with fail;refine hV.mono ?_;rintro e w2 ⟨rfl,n,rfl,⟨hn0,hn1⟩,hn2⟩;go_wp2;go_meet;exact⟨⟨_,rfl,⟨by omega,by omega⟩,he.add hn2 hk0 hn0⟩,rfl⟩
  ·clear hV;go_wp2;go_meet;exact⟨⟨_,rfl,⟨by omega,by omega⟩,.big (by omega)⟩,rfl⟩
 clear hk0 hk1 hV he;obtain⟨⟨k,rfl,⟨hk0,hk1⟩,he⟩,rfl⟩:=hcut;go_wp2;go_loopw[5,6] (λn i wr=>∃q:Nat,∃k:Int,q<=x.bs.length/\i=cI cJ (q:Int)/\n=cI cJ k/\Cn k 2251799813685248/\GV k (1+x.n.size+x.r.size+CY x.ps+CY x.vs+Aj G5 (x.bs.take q))/\AA6 wc wr) (λ_ i _=>x.bs.length-(intOf i).toNat);exact⟨0,_,AY,rfl,rfl,⟨hk0,hk1⟩,he,AL⟩;clear hk0 hk1 he;obtain⟨q,k,hq,rfl,rfl,⟨hk0,hk1⟩,he,hbw⟩:=hrel;have hB1:=hB.nx hbw;have b4:=hB1.c 4 _ rfl;have hbf:=AB hb1 hbw;by_cases hend:q=x.bs.length
 ·subst hend;rw[DY,hcf]at he;go_wp2;go_ret;exact⟨hbf,_,rfl,⟨hk0,hk1⟩,he⟩
 ·have hlt:q<x.bs.length:=by omega
  have A8:(q:Int)<x.bs.length:=by omega
  by_cases hk2:k<=4000
  ·obtain⟨a,rfl,hI⟩:=hk q x.bs[q] (by simp[hlt]);obtain⟨v1,v2,v3,S9,g0,g1,g2,g3,g4,g5,g6,g7,g8⟩:=hI.val;have hw:=AB h1 hbw;have hA:=VI hw S9;have g0:=AA hw g0;have g1:=AA hw g1;have g2:=AA hw g2;have g3:=AA hw g3;have g4:=AA hw g4;have g5:=AA hw g5;have g6:=AA hw g6;have g7:=AA hw g7;have g8:=AA hw g8;obtain⟨-,-,r1,r2,r3⟩:=S9;obtain⟨p1',k1',rfl⟩:=r1.slice;obtain⟨p2',k2',rfl⟩:=r2.slice;obtain⟨uw,k3',rfl⟩:=r3.slice;have hS:=λk:Int=>uQ (k:=k) (A:=1+x.n.size+x.r.size+CY x.ps+CY x.vs) hlt;generalize x.bs[q]=y at*;go_wp2_with fail;refine hA.mono ?_;rintro e w2 ⟨hb2,n,rfl,⟨hn0,hn1⟩,he2⟩;have pJ:=hS _ (he.add he2 hk0 hn0);have hbw2:=AB hbw hb2;go_wp2;go_roundw;exact⟨q+1,k+n,by omega,by go_num,by go_num,⟨by omega,by omega⟩,pJ,hbw2⟩;simp[intOf];omega
  ·clear hk hB hB1;go_wp2;go_ret;exact⟨hbf,_,rfl,⟨hk0,hk1⟩,.big (by omega)⟩
def Cu{α:Type}(nm:α->ByteArray)(x:ByteArray):List α->Option Nat
 | []=>cX
 |y::r=>if nm y=x then cP 0 else(Cu nm x r).map (· +1)
def O7{nm:α->ByteArray}:∀{l:List α} {b:α},Ai nm x l=cP b->∃k,Cu nm x l=cP k/\l[k]? =cP b
 | [],b,h=>by cases h
 |y::r,b,h=>by
  unfold Ai at h;unfold Cu;by_cases e:nm y=x
  ·rw[if_pos e]at h⊢;exact⟨0,rfl,by simpa using h⟩
  ·rw[if_neg e]at h⊢;obtain⟨k,h1,h2⟩:=O7 h;exact⟨k+1,by rw[h1];rfl,by simpa using h2⟩
def ABj{nm:α->ByteArray}:∀{l:List α} {k:Nat},Cu nm x l=cP k->∃b,l[k]? =cP b/\nm b=x
 | [],k,h=>by cases h
 |y::r,k,h=>by
  unfold Cu at h;by_cases e:nm y=x
  ·rw[if_pos e]at h;injection h with h;subst h;exact⟨y,rfl,e⟩
  ·rw[if_neg e]at h
   cases h2:Cu nm x r with
   |none=>rw[h2]at h;cases h
   |some k2=>
    rw[h2]at h;injection h with h;subst h;obtain⟨b,h3,h4⟩:=ABj h2;exact⟨b,by simpa using h3,h4⟩
def Je(q:Nat)(r:Option Nat)(e:Ending):Prop:=match r with
 |some k=>e=.returned (.tuple #[cI cJ ((q+k:Nat):Int),cE cC])
 |none=>e=.returned (.tuple #[cI cJ 0,cE cA])
theorem Je.next{nm:α->ByteArray}{y:α}{r:List α}(hy:nm y≠x){e:Ending}(h:Je (q+1) (Cu nm x r) e):Je q (Cu nm x (y::r)) e:=by
 unfold Cu;rw[if_neg hy]
 cases hk:Cu nm x r with
 |none=>rw[hk]at h;exact h
 |some k=>
  rw[hk]at h;show e=_;rw[show q+(k+1)=q+1+k by omega];exact h
theorem NH(h0:AA6 w0 w)(hf:EL w0 v f u1 u2 u3)(x:ByteArray):Calls prog 55 #[v,cS x] w λe w'=>AA6 w w'/\Je 0 (Cu Bk.n x f.bs) e:=by
 obtain⟨rfl,-,hp,hv,hb⟩:=hf;obtain⟨p1,k1,rfl⟩:=hp.slice;obtain⟨p2,k2,rfl⟩:=hv.slice;obtain⟨pl,cl,rfl,-,hn,hl⟩:=hb;generalize f.n=fn at*;generalize f.r=fr at*;generalize f.ps.length=n1 at*;generalize f.vs.length=n2 at*;generalize f.bs=l at*;obtain⟨hB,hb1⟩:=BR (w:=w) (c1:=[cS fn,cS fr,cY p1 n1 k1,cY p2 n2 k2,cY pl l.length cl]) (t1:=66) (AL);go_enter func55,ntmps55;generalize Cr:w.alloc (.cells #[cS fn,cS fr,cY p1 n1 k1,cY p2 n2 k2,cY pl l.length cl] 66)=W at*;have hw:=AB h0 hb1;have b4:=hB.c 4 _ rfl;go_wp2;go_loopw[6] (λi wr=>∃q:Nat,q<=l.length/\i=cI cJ (q:Int)/\wr=W/\∀e,Je q (Cu Bk.n x (l.drop q)) e->Je 0 (Cu Bk.n x l) e) (λi _=>l.length-(intOf i).toNat);exact⟨0,AY,rfl,(by first|rfl|exact Cr),λe h=>h⟩;obtain⟨q,hq,rfl,rfl,hO⟩:=hrel;by_cases hend:q=l.length
 ·subst hend;rw[List.drop_length]at hO;have hO2:=Wx (hO _ rfl);go_wp2;go_ret2;exact⟨hb1,hO2.out⟩
 ·have hlt:q<l.length:=by omega
  have A8:(q:Int)<l.length:=by omega
  rw[List.drop_eq_getElem_cons hlt]at hO;obtain⟨a,rfl,⟨d0,-⟩,-⟩:=hl q l[q] (by simp[hlt]);replace d0:=AA hw d0;by_cases hy:l[q].n=x
  ·have he:=EZ hy;have hO2:=Wx (hO _ (show Je q (Cu Bk.n x (l[q]::l.drop (q+1))) (.returned (.tuple #[cI cJ (q:Int),cE cC])) by unfold Cu;rw[if_pos hy];rfl));generalize l[q]=y at*;go_wp2;go_ret2;exact⟨hb1,hO2.out⟩
  ·have he:=Ea hy;replace hO:=λe h=>hO e (Je.next hy h);generalize l[q]=y at*;go_wp2;go_roundw;exact⟨q+1,by omega,by go_num,trivial,hO⟩;simp[intOf];omega
theorem Og(h0:AA6 w0 w)(hf:EL w0 v f u1 u2 u3)(x:ByteArray):Calls prog 73 #[v,cS x] w λe w'=>AA6 w w'/\Je 0 (Cu Bk.n x f.bs) e:=by
 obtain⟨rfl,-,hp,hv,hb⟩:=hf;obtain⟨p1,k1,rfl⟩:=hp.slice;obtain⟨p2,k2,rfl⟩:=hv.slice;obtain⟨pl,cl,rfl,-,hn,hl⟩:=hb;generalize f.n=fn at*;generalize f.r=fr at*;generalize f.ps.length=n1 at*;generalize f.vs.length=n2 at*;generalize f.bs=l at*;obtain⟨hB,hb1⟩:=BR (w:=w) (c1:=[cS fn,cS fr,cY p1 n1 k1,cY p2 n2 k2,cY pl l.length cl]) (t1:=66) (AL);go_enter func73,ntmps73;generalize Cr:w.alloc (.cells #[cS fn,cS fr,cY p1 n1 k1,cY p2 n2 k2,cY pl l.length cl] 66)=W at*;have hw:=AB h0 hb1;have b4:=hB.c 4 _ rfl;go_wp2;go_loopw[11] (λi wr=>∃q:Nat,q<=l.length/\i=cI cJ (q:Int)/\AA6 W wr/\∀e,Je q (Cu Bk.n x (l.drop q)) e->Je 0 (Cu Bk.n x l) e) (λi _=>l.length-(intOf i).toNat);exact⟨0,AY,rfl,(by first|exact AL|(rw[Cr];exact AL)),λe h=>h⟩;obtain⟨q,hq,rfl,hbr,hO⟩:=hrel;have hbf:=AB hb1 hbr;by_cases hend:q=l.length
 ·subst hend;rw[List.drop_length]at hO;have hO2:=Wx (hO _ rfl);go_wp2;go_ret2;exact⟨hbf,hO2.out⟩
 ·have hlt:q<l.length:=by omega
  have A8:(q:Int)<l.length:=by omega
  rw[List.drop_eq_getElem_cons hlt]at hO;obtain⟨a,rfl,hI⟩:=hl q l[q] (by simp[hlt]);obtain⟨v1,v2,v3,S9,g0,g1,g2,g3,g4,g5,g6,g7,g8⟩:=hI.val;have hwr:=AB hw hbr;replace g0:=AA hwr g0;replace g1:=AA hwr g1;replace g2:=AA hwr g2;replace g3:=AA hwr g3;replace g4:=AA hwr g4;replace g5:=AA hwr g5;replace g6:=AA hwr g6;replace g7:=AA hwr g7;replace g8:=AA hwr g8;obtain⟨-,-,r1,r2,r3⟩:=S9;obtain⟨p1',k1',rfl⟩:=r1.slice;obtain⟨p2',k2',rfl⟩:=r2.slice;obtain⟨uw,k3',rfl⟩:=r3.slice;have hba:=λo=>hbr.alloc hbr.size o;have hbb:=λo=>hbf.alloc hbf.size o;by_cases hy:l[q].n=x
  ·have he:=EZ hy;have hO2:=Wx (hO _ (show Je q (Cu Bk.n x (l[q]::l.drop (q+1))) (.returned (.tuple #[cI cJ (q:Int),cE cC])) by unfold Cu;rw[if_pos hy];rfl));generalize l[q]=y at*;go_wp2;go_ret2;exact⟨hbb _,hO2.out⟩
  ·have he:=Ea hy;replace hO:=λe h=>hO e (Je.next hy h);generalize l[q]=y at*;go_wp2;go_roundw;exact⟨q+1,by omega,by go_num,hba _,hO⟩;simp[intOf];omega
structure xM{α:Type}(nm:α->ByteArray)(l:List α)(x:ByteArray)(k:Nat)(c:α):Prop where
 at':l[k]? =cP c
 n:nm c=x
 no:∀(j:Nat) y,j<k->l[j]? =cP y->nm y≠x
theorem UE{nm:α->ByteArray}:∀{l:List α} {c:α},Ai nm x l=cP c->∃k,xM nm l x k c
 | [],c,h=>by cases h
 |y::r,c,h=>by
  unfold Ai at h;by_cases e:nm y=x
  ·rw[if_pos e]at h;injection h with h;subst h;exact⟨0,rfl,e,λj y hj=>absurd hj (Nat.not_lt_zero _)⟩
  ·rw[if_neg e]at h;obtain⟨k,h1,h2,h3⟩:=UE h;refine⟨k+1,by simpa using h1,h2,λj z hj hz=>?_⟩
   cases j with
   |zero=>
    obtain rfl:y=z:=by simpa using hz
    exact e
   |succ j=>exact h3 j z (by omega) (by simpa using hz)
def xM.case{nm:α->ByteArray}{l:List α}{k:Nat}{c:α}(h:xM nm l x k c)(hq:q<=k)(hl:q<l.length):(q=k/\l[q]=c)\/(q<k/\nm l[q]≠x):=by
 by_cases e:q=k
 ·subst e;have:=h.at';rw[List.getElem?_eq_getElem hl]at this;exact .inl ⟨rfl,by simpa using this⟩
 ·exact .inr ⟨by omega,h.no q l[q] (by omega) (by simp[hl])⟩
def jR(w0:World)(v:Value)(l:List Cl)(x:ByteArray)(c:Cl)(u:Value):Prop:=∃k a n cu,xM Cl.n l x k c/\v=cY (cP a) n cu/\At w0 (a.add (k*2)) 1 u
def Zo(w0:World)(v:Value)(l:List Fn)(x:ByteArray)(c:Fn)(u1 u2 u3:Value):Prop:=∃k a n cu,xM Fn.n l x k c/\v=cY (cP a) n cu/\At w0 (a.add (k*5)) 2 u1/\At w0 (a.add (k*5)) 3 u2/\At w0 (a.add (k*5)) 4 u3
theorem Vf{l:List Cl}(hl:Row Y0 2 w0 v l)(h:Ai Cl.n x l=cP c):∃u,jR w0 v l x c u/\jQ w0 (.agg #[cS c.n,u]) c u:=by
 obtain⟨k,hk⟩:=UE h;obtain⟨p,cu,e,-,-,hl⟩:=hl;obtain⟨a,rfl,⟨c0,z0⟩,u,c1,r1⟩:=hl k c hk.at';exact⟨u,⟨k,a,_,_,hk,e,c1⟩,rfl,z0,r1⟩
theorem QD{l:List Fn}(hl:Row VP 5 w0 v l){c:Fn}(h:Ai Fn.n x l=cP c):∃u1 u2 u3,Zo w0 v l x c u1 u2 u3/\EL w0 (.agg #[cS c.n,cS c.r,u1,u2,u3]) c u1 u2 u3:=by
 obtain⟨k,hk⟩:=UE h;obtain⟨p,cu,e,-,-,hl⟩:=hl;obtain⟨a,rfl,⟨c0,z0⟩,⟨c1,z1⟩,⟨u1,c2,r1⟩,⟨u2,c3,r2⟩,u3,c4,r3⟩:=hl k c hk.at';exact⟨u1,u2,u3,⟨k,a,_,_,hk,e,c2,c3,c4⟩,rfl,⟨z0,z1⟩,r1,r2,r3⟩
def JB{u:Value}(h:w.cell? a=cP u)(h2:w.cell? a=cP v):u=v:=by
 rw[h]at h2;injection h2
theorem Ya(h0:AA6 w0 w){l:List Cl}(hl:Row Y0 2 w0 v l)(x:ByteArray){uu:Value}(hsel:jR w0 v l x c uu):Calls prog 191 #[v,cS x,.func (Fn.func 192) #[] #[]] w λe w'=>AA6 w w'/\e=.returned (.tuple #[.agg #[cS c.n,uu],cE cC]):=by
 obtain⟨p,cu,rfl,-,hn,hl⟩:=hl;obtain⟨kk,aa,nn,cc,hk,iG,hu⟩:=hsel;have hpe:p=cP aa:=by simpa using(show p=cP aa/\_ by simpa using iG).1
 subst hpe;go_enter func191,ntmps191;go_wp2;go_loopw[13] (λi wr=>∃q:Nat,q<=l.length/\i=cI cJ (q:Int)/\AA6 w wr/\Ae wr w.heap.size [(cS ⟨#[]⟩),(cY cX 0 0)]/\q<=kk) (λi _=>l.length-(intOf i).toNat);exact⟨0,AY,rfl,AJ _ _,Ae.alloc w [(cS ⟨#[]⟩),(cY cX 0 0)] _,AY⟩;obtain⟨q,hq,rfl,hb,hB,hf⟩:=hrel;by_cases hend:q=l.length
 ·exfalso;have:=(List.getElem?_eq_some_iff.1 hk.at').1;omega
 ·have hlt:q<l.length:=by omega
  have A8:(q:Int)<l.length:=by omega
  rcases hk.case (by assumption) hlt with⟨rfl,-⟩|⟨hqk,hy⟩
  ·have he:=EZ hk.n;obtain⟨a,ha,hA⟩:=hl q c hk.at';obtain rfl:aa=a:=(by simpa using ha);obtain⟨⟨c0,z0⟩,u1,c1,r1⟩:=hA;obtain rfl:=JB c1 hu;have hb0:=AB h0 hb;have c0:=AA hb0 c0;have c1:=AA hb0 c1;obtain⟨p1,k1,rfl⟩:=r1.slice;go_wp2_with fail;refine(Oo _ _ _).mono ?_;rintro e w2 ⟨rfl,hb2⟩;have hA2:=(Ae.alloc wr [(cS c.n),(cY p1 c.fs.length k1)] 153).nx hb2;have hB2:=(hB.al (.cells #[cS c.n,cY p1 c.fs.length k1] 153)).nx hb2;have hb3:=(hb.alloc hb.size (.cells #[cS c.n,cY p1 c.fs.length k1] 153)).trans (hb2.mono (hb.alloc hb.size _).size);obtain⟨d0,d1⟩:=hA2.c2;obtain⟨e0,e1⟩:=hB2.c2;obtain⟨f0,f1⟩:=hB2.f2;have hlt2:=hA2.lt;have Sy:w.heap.size<=wr.heap.size:=hb.size;have hwl:=hB.lt;have hb4:=hb3;have hb4:=hb4.setCell (p:=⟨w.heap.size,0,cX⟩) (AQ) (cS c.n);have hb4:=hb4.setCell (p:=⟨w.heap.size,1,cX⟩) (AQ) (cY p1 c.fs.length k1);go_wp2;(refine rB rfl (by go_simp;try rfl) rfl ?_);exact⟨hb4,rfl⟩
  ·have he:=Ea hy;obtain⟨a,ha,hA⟩:=hl q l[q] (by simp[hlt]);obtain rfl:aa=a:=(by simpa using ha);obtain⟨⟨c0,z0⟩,u1,c1,r1⟩:=hA;have hb0:=AB h0 hb;have c0:=AA hb0 c0;have c1:=AA hb0 c1;obtain⟨p1,k1,rfl⟩:=r1.slice;generalize l[q]=y at*;go_wp2_with fail;refine(Oo _ _ _).mono ?_;rintro e w2 ⟨rfl,hb2⟩;have hA2:=(Ae.alloc wr [(cS y.n),(cY p1 y.fs.length k1)] 153).nx hb2;have hB2:=(hB.al (.cells #[cS y.n,cY p1 y.fs.length k1] 153)).nx hb2;have hb3:=(hb.alloc hb.size (.cells #[cS y.n,cY p1 y.fs.length k1] 153)).trans (hb2.mono (hb.alloc hb.size _).size);obtain⟨d0,d1⟩:=hA2.c2;go_wp2;go_roundw;exact⟨q+1,by omega,by go_num,hb3,hB2,by omega⟩;simp[intOf];omega
theorem YZ(h0:AA6 w0 w){l:List Fn}(hl:Row VP 5 w0 v l)(x:ByteArray){c:Fn}{om oh og:Value}(hsel:Zo w0 v l x c om oh og):Calls prog 42 #[v,cS x,.func (Fn.func 43) #[] #[]] w λe w'=>AA6 w w'/\e=.returned (.tuple #[.agg #[cS c.n,cS c.r,om,oh,og],cE cC]):=by
 obtain⟨p,cu,rfl,-,hn,hl⟩:=hl;obtain⟨kk,aa,nn,cc,hk,iG,hu1,hu2,hu3⟩:=hsel;have hpe:p=cP aa:=by simpa using(show p=cP aa/\_ by simpa using iG).1
 subst hpe;go_enter func42,ntmps42;go_wp2;go_loopw[13] (λi wr=>∃q:Nat,q<=l.length/\i=cI cJ (q:Int)/\AA6 w wr/\Ae wr w.heap.size [(cS ⟨#[]⟩),(cS ⟨#[]⟩),(cY cX 0 0),(cY cX 0 0),(cY cX 0 0)]/\q<=kk) (λi _=>l.length-(intOf i).toNat);exact⟨0,AY,rfl,AJ _ _,Ae.alloc w [(cS ⟨#[]⟩),(cS ⟨#[]⟩),(cY cX 0 0),(cY cX 0 0),(cY cX 0 0)] _,AY⟩;obtain⟨q,hq,rfl,hb,hB,hf⟩:=hrel;by_cases hend:q=l.length
 ·exfalso;have:=(List.getElem?_eq_some_iff.1 hk.at').1;omega
 ·have hlt:q<l.length:=by omega
  have A8:(q:Int)<l.length:=by omega
  rcases hk.case (by assumption) hlt with⟨rfl,-⟩|⟨hqk,hy⟩
  ·have he:=EZ hk.n;obtain⟨a,ha,hA⟩:=hl q c hk.at';obtain rfl:aa=a:=(by simpa using ha);obtain⟨⟨c0,z0⟩,⟨c1,z1⟩,⟨u1,c2,r1⟩,⟨u2,c3,r2⟩,u3,c4,r3⟩:=hA;obtain rfl:=JB c2 hu1;obtain rfl:=JB c3 hu2;obtain rfl:=JB c4 hu3;have hb0:=AB h0 hb;have c0:=AA hb0 c0;have c1:=AA hb0 c1;have c2:=AA hb0 c2;have c3:=AA hb0 c3;have c4:=AA hb0 c4;obtain⟨p1,k1,rfl⟩:=r1.slice;obtain⟨p2,k2,rfl⟩:=r2.slice;obtain⟨p3,k3,rfl⟩:=r3.slice;go_wp2_with fail;refine(Om _ _ _ _ _ _).mono ?_;rintro e w2 ⟨rfl,hb2⟩;have hA2:=(Ae.alloc wr [(cS c.n),(cS c.r),(cY p1 c.ps.length k1),(cY p2 c.vs.length k2),(cY p3 c.bs.length k3)] 66).nx hb2;have hB2:=(hB.al (.cells #[cS c.n,cS c.r,cY p1 c.ps.length k1,cY p2 c.vs.length k2,cY p3 c.bs.length k3] 66)).nx hb2;have hb3:=(hb.alloc hb.size (.cells #[cS c.n,cS c.r,cY p1 c.ps.length k1,cY p2 c.vs.length k2,cY p3 c.bs.length k3] 66)).trans (hb2.mono (hb.alloc hb.size _).size);obtain⟨d0,d1,d2,d3,d4⟩:=hA2.c5;obtain⟨e0,e1,e2,e3,e4⟩:=hB2.c5;obtain⟨f0,f1,f2,f3,f4⟩:=hB2.f5;have hlt2:=hA2.lt;have Sy:w.heap.size<=wr.heap.size:=hb.size;have hwl:=hB.lt;have hb4:=hb3;have hb4:=hb4.setCell (p:=⟨w.heap.size,0,cX⟩) (AQ) (cS c.n);have hb4:=hb4.setCell (p:=⟨w.heap.size,1,cX⟩) (AQ) (cS c.r);have hb4:=hb4.setCell (p:=⟨w.heap.size,2,cX⟩) (AQ) (cY p1 c.ps.length k1);have hb4:=hb4.setCell (p:=⟨w.heap.size,3,cX⟩) (AQ) (cY p2 c.vs.length k2);have hb4:=hb4.setCell (p:=⟨w.heap.size,4,cX⟩) (AQ) (cY p3 c.bs.length k3);go_wp2;(refine rB rfl (by go_simp;try rfl) rfl ?_);exact⟨hb4,rfl⟩
  ·have he:=Ea hy;obtain⟨a,ha,hA⟩:=hl q l[q] (by simp[hlt]);obtain rfl:aa=a:=(by simpa using ha);obtain⟨⟨c0,z0⟩,⟨c1,z1⟩,⟨u1,c2,r1⟩,⟨u2,c3,r2⟩,u3,c4,r3⟩:=hA;have hb0:=AB h0 hb;have c0:=AA hb0 c0;have c1:=AA hb0 c1;have c2:=AA hb0 c2;have c3:=AA hb0 c3;have c4:=AA hb0 c4;obtain⟨p1,k1,rfl⟩:=r1.slice;obtain⟨p2,k2,rfl⟩:=r2.slice;obtain⟨p3,k3,rfl⟩:=r3.slice;generalize l[q]=y at*;go_wp2_with fail;refine(Om _ _ _ _ _ _).mono ?_;rintro e w2 ⟨rfl,hb2⟩;have hA2:=(Ae.alloc wr [(cS y.n),(cS y.r),(cY p1 y.ps.length k1),(cY p2 y.vs.length k2),(cY p3 y.bs.length k3)] 66).nx hb2;have hB2:=(hB.al (.cells #[cS y.n,cS y.r,cY p1 y.ps.length k1,cY p2 y.vs.length k2,cY p3 y.bs.length k3] 66)).nx hb2;have hb3:=(hb.alloc hb.size (.cells #[cS y.n,cS y.r,cY p1 y.ps.length k1,cY p2 y.vs.length k2,cY p3 y.bs.length k3] 66)).trans (hb2.mono (hb.alloc hb.size _).size);obtain⟨d0,d1,d2,d3,d4⟩:=hA2.c5;go_wp2;go_roundw;exact⟨q+1,by omega,by go_num,hb3,hB2,by omega⟩;simp[intOf];omega
theorem Ot(h0:AA6 w0 w){p:Pg}{u4:Value}(hp:Cj w0 v p u1 u2 u3 u4)(x:ByteArray){uu:Value}(hsel:jR w0 u1 p.cs x c uu)(hval:jQ w0 (.agg #[cS c.n,uu]) c uu):Calls prog 135 #[v,cS x] w λe w'=>AA6 w w'/\e=.returned (.tuple #[.agg #[cS c.n,uu],cE cC]):=by
 obtain⟨rfl,hc,hg,hx,hf⟩:=hp;have hb1:=AJ w (.cells #[cE p.ssa,u1,u2,u3,u4] 27);have hb2:=(Below.refl (w.alloc (.cells #[cE p.ssa,u1,u2,u3,u4] 27)).heap.size (w.alloc (.cells #[cE p.ssa,u1,u2,u3,u4] 27))).alloc (AQ) (.cells #[cS ⟨#[]⟩,cY cX 0 0] 153);have hb3:=AB hb1 hb2;have hB:=Ae.alloc (w.alloc (.cells #[cE p.ssa,u1,u2,u3,u4] 27)) [(cS ⟨#[]⟩),(cY cX 0 0)] 153;have hF:=Ya (AB h0 hb3) hc x hsel;have hs:(w.alloc (.cells #[cE p.ssa,u1,u2,u3,u4] 27)).heap.size=w.heap.size+1:=by simp
 rw[hs]at hB;go_enter func135,ntmps135;go_wp2_with fail;refine hF.mono ?_;rintro e w1 ⟨hb4,ho⟩;have hB1:=hB.nx hb4;have hb5:=AB hb3 hb4;have f0:=λi hi=>hB1.f i hi;have hw1:w.heap.size<=w.heap.size+1:=by omega
 subst ho;obtain⟨-,-,hr1⟩:=hval;obtain⟨p1,k1,rfl⟩:=hr1.slice;have hb6:=hb5;have hb6:=hb6.setCell (p:=⟨w.heap.size+1,0,cX⟩) hw1 (cS c.n);have hb6:=hb6.setCell (p:=⟨w.heap.size+1,1,cX⟩) hw1 (cY p1 c.fs.length k1);have c0:=hB1.c 0 _ rfl;have g0:=f0 0 (by simp);have c1:=hB1.c 1 _ rfl;have g1:=f0 1 (by simp);have hst:=hB1.lt;go_wp2;(refine rB rfl (by go_simp;try rfl) rfl ?_);exact⟨hb6,rfl⟩
theorem Kh(h0:AA6 w0 w){p:Pg}{u4:Value}(hp:Cj w0 v p u1 u2 u3 u4)(x:ByteArray){c:Fn}{om oh og:Value}(hsel:Zo w0 u4 p.fs x c om oh og)(hval:EL w0 (.agg #[cS c.n,cS c.r,om,oh,og]) c om oh og):Calls prog 22 #[v,cS x] w λe w'=>AA6 w w'/\e=.returned (.tuple #[.agg #[cS c.n,cS c.r,om,oh,og],cE cC]):=by
 obtain⟨rfl,hc,hg,hx,hf⟩:=hp;have hb1:=AJ w (.cells #[cE p.ssa,u1,u2,u3,u4] 27);have hb2:=(Below.refl (w.alloc (.cells #[cE p.ssa,u1,u2,u3,u4] 27)).heap.size (w.alloc (.cells #[cE p.ssa,u1,u2,u3,u4] 27))).alloc (AQ) (.cells #[cS ⟨#[]⟩,cS ⟨#[]⟩,cY cX 0 0,cY cX 0 0,cY cX 0 0] 66);have hb3:=AB hb1 hb2;have hB:=Ae.alloc (w.alloc (.cells #[cE p.ssa,u1,u2,u3,u4] 27)) [(cS ⟨#[]⟩),(cS ⟨#[]⟩),(cY cX 0 0),(cY cX 0 0),(cY cX 0 0)] 66;have hF:=YZ (AB h0 hb3) hf x hsel;have hs:(w.alloc (.cells #[cE p.ssa,u1,u2,u3,u4] 27)).heap.size=w.heap.size+1:=by simp
 rw[hs]at hB;go_enter func22,ntmps22;go_wp2_with fail;refine hF.mono ?_;rintro e w1 ⟨hb4,ho⟩;have hB1:=hB.nx hb4;have hb5:=AB hb3 hb4;have f0:=λi hi=>hB1.f i hi;have hw1:w.heap.size<=w.heap.size+1:=by omega
 subst ho;obtain⟨-,-,hr1,hr2,hr3⟩:=hval;obtain⟨p1,k1,rfl⟩:=hr1.slice;obtain⟨p2,k2,rfl⟩:=hr2.slice;obtain⟨p3,k3,rfl⟩:=hr3.slice;have hb6:=hb5;have hb6:=hb6.setCell (p:=⟨w.heap.size+1,0,cX⟩) hw1 (cS c.n);have hb6:=hb6.setCell (p:=⟨w.heap.size+1,1,cX⟩) hw1 (cS c.r);have hb6:=hb6.setCell (p:=⟨w.heap.size+1,2,cX⟩) hw1 (cY p1 c.ps.length k1);have hb6:=hb6.setCell (p:=⟨w.heap.size+1,3,cX⟩) hw1 (cY p2 c.vs.length k2);have hb6:=hb6.setCell (p:=⟨w.heap.size+1,4,cX⟩) hw1 (cY p3 c.bs.length k3);have c0:=hB1.c 0 _ rfl;have g0:=f0 0 (by simp);have c1:=hB1.c 1 _ rfl;have g1:=f0 1 (by simp);have c2:=hB1.c 2 _ rfl;have g2:=f0 2 (by simp);have c3:=hB1.c 3 _ rfl;have g3:=f0 3 (by simp);have c4:=hB1.c 4 _ rfl;have g4:=f0 4 (by simp);have hst:=hB1.lt;go_wp2;(refine rB rfl (by go_simp;try rfl) rfl ?_);exact⟨hb6,rfl⟩
section
def Ul{fn:Func}{p q:Tmp}{ty oo:TypeId}(h:fn.results=#[.cell p ty,.cell q oo])(tmps:Array Value)(P:Program)(w:World):(results fn tmps).run P w=((asAddr (tmps.getD p undef)).run P w).andThen λa w₁=>((loadVar ty a).run P w₁).andThen λv w₂=>((asAddr (tmps.getD q undef)).run P w₂).andThen λa2 w₃=>((loadVar oo a2).run P w₃).andThen λv2 w₄=> .ok (.tuple #[v,v2]) w₄:=by
 simp only[results,h];simp
structure EC(W:World)(B p q i j:Nat)(zp cp zq cq:List Value)(L:Nat->Bool)(w:World):Prop where
 b:Below B W w
 k:∀r,r≠p->r≠q->w.heap[r]? =W.heap[r]?
 x:Ae w p (if L i=cC then cp else zp)
 y:Ae w q (if L j=cC then cq else zq)
section
variable {W w w' : World} {B p q i j : Nat} {zp cp zq cq : List Value} {L : Nat -> Bool}
def EC.start(b:Below B W w)(k:∀r:Nat,w.heap[r]? =W.heap[r]?)(hx:Ae w p zp)(hy:Ae w q zq):EC W B p q i j zp cp zq cq (λ_=>cA) w:=⟨b,λr _ _=>k r,hx,hy⟩
theorem EC.keep(h:EC W B p q i j zp cp zq cq L w){m:Nat}(h1:(i==m)=cA)(h2:(j==m)=cA):EC W B p q i j zp cp zq cq (upd L m) w:=
 ⟨h.b,h.k,by rw[upd_ne h1];exact h.x,by rw[upd_ne h2];exact h.y⟩
theorem EC.cell(h:EC W B p q i j zp cp zq cq L w)(hc:W.cell? a=cP v)(h1:a.block≠p)(h2:a.block≠q):w.cell? a=cP v:=by
 rw[World.cell?_of_block (w:=W) (w':=w) (a:=a) (h.k a.block h1 h2)];exact hc
theorem EC.px(h:EC W B p q i j zp cp zq cq L w)(hi:L i=cA):Ae w p zp:=by have:=h.x;rw[hi]at this;exact this
def EC.qy(h:EC W B p q i j zp cp zq cq L w)(hj:L j=cA):Ae w q zq:=by have:=h.y;rw[hj]at this;exact this
theorem EC.Z6(h:EC W B p q i j zp cp zq cq L w)(hb:Below B w w')(hk:∀r,r≠p->w'.heap[r]? =w.heap[r]?)(hx:Ae w' p cp)(hpq:q≠p)(h2:(j==i)=cA):EC W B p q i j zp cp zq cq (upd L i) w':=
 ⟨h.b.trans hb,λr h1 h2=>(hk r h1).trans (h.k r h1 h2),by rw[Cc];exact hx,by rw[upd_ne h2];exact h.y.same (hk q hpq)⟩
theorem EC.Z5(h:EC W B p q i j zp cp zq cq L w)(hb:Below B w w')(hk:∀r,r≠q->w'.heap[r]? =w.heap[r]?)(hy:Ae w' q cq)(hpq:p≠q)(h2:(i==j)=cA):EC W B p q i j zp cp zq cq (upd L j) w':=
 ⟨h.b.trans hb,λr h1 h2=>(hk r h2).trans (h.k r h1 h2),by rw[upd_ne h2];exact h.x.same (hk p hpq),by rw[Cc];exact hy⟩
theorem EC.done(h:EC W B p q i j zp cp zq cq L w)(hi:L i=cC)(hj:L j=cC):Ae w p cp/\Ae w q cq:=by grind [cases EC,cases Ae]
end
def BZ(w:World)(p:Nat):Nat->List Value->World
 |_,[]=>w
 |i,v::r=>BZ (w.setCell ⟨p,i,cX⟩ v) p (i+1) r
theorem Bu{r:Nat}(h:r≠p):∀(cs:List Value) (i:Nat) (w:World),(BZ w p i cs).heap[r]? =w.heap[r]?
 | [],_,_=>rfl
 |v::l,i,w=>(Bu h l (i+1) _).trans (Below.heap_setCell _ _ _ _ (λe=>h e))
theorem Ay(h:B<=p):∀(cs:List Value) (i:Nat) (w:World),Below B w (BZ w p i cs)
 | [],_,w=>AL
 |v::l,i,w=>((AL).setCell (p:=⟨p,i,cX⟩) h v).trans (Ay h l (i+1) _)
theorem DK:∀(cs:List Value) (i:Nat) (w:World),(BZ w p i cs).heap.size=w.heap.size
 | [],_,_=>rfl
 |v::l,i,w=>(DK l (i+1) _).trans (by simp[World.setCell])
theorem CK:∀(cs zs:List Value) (i:Nat) (w:World),Ae w p zs->i+cs.length=zs.length->Ae (BZ w p i cs) p (zs.take i++cs)
 | [],zs,i,w,h,e=>by
  rw[List.append_nil,List.take_of_length_le (by simp at e;omega)]
  exact h
 |v::l,zs,i,w,h,e=>by
  have hi:i<zs.length:=by simp at e;omega
  have:=CK l (zs.set i v) (i+1) _ (h.set hi v) (by simp at e⊢;omega);rw[List.take_add_one,List.take_set_of_le (Nat.le_refl i),List.getElem?_set_self hi]at this;simpa[BZ]using this
end
structure jS(w0:World)(v:Value)(l:List Bk)(x:ByteArray)(b:Bk)(u1 u2 u3:Value)(k:Nat)(a:Addr):Prop where
 ix:Cu Bk.n x l=cP k
 lt:k<l.length
 n:l.length<=140737488351232
 sl:∃c,v=cY (cP a) l.length c
 nm:b.n=x
 c:w0.cell? (a.add (k*9))=cP (cS b.n)/\At w0 (a.add (k*9)) 1 u1/\At w0 (a.add (k*9)) 2 u2/\At w0 (a.add (k*9)) 3 (cI cJ b.e.k)/\At w0 (a.add (k*9)) 4 (cI cJ b.e.a.k)/\At w0 (a.add (k*9)) 5 (cS b.e.a.s)/\At w0 (a.add (k*9)) 6 (cI cJ b.e.a.n)/\At w0 (a.add (k*9)) 7 u3/\At w0 (a.add (k*9)) 8 (cI cJ b.e.n)
abbrev vk(b:Bk)(u1 u2 u3:Value):Value:=.agg #[cS b.n,u1,u2,cI cJ b.e.k,cI cJ b.e.a.k,cS b.e.a.s,cI cJ b.e.a.n,u3,cI cJ b.e.n]
theorem Vg{l:List Bk}(hl:Row Jf 9 w0 v l)(h:Ai Bk.n x l=cP b):∃u1 u2 u3 k a,jS w0 v l x b u1 u2 u3 k a/\Qw w0 (vk b u1 u2 u3) b u1 u2 u3:=by
 obtain⟨k,hk,hb⟩:=O7 h;obtain⟨p,cu,e,-,hn,hl⟩:=hl;obtain⟨a,rfl,hA⟩:=hl k b hb;obtain⟨u1,u2,u3,hV,hc⟩:=hA.val;exact⟨u1,u2,u3,k,a,⟨hk,(List.getElem?_eq_some_iff.1 hb).1,hn.1,⟨cu,e⟩,(Ak h).2,hc⟩,hV⟩
structure Here(w0:World)(p:Pg)(k:Hd)(x:Lv)(f:Fn)(b:Bk)(f1 f2 f3 b1 b2 b3:Value)(q:Nat)(a:Addr):Prop where
 vp:Cj w0 (.agg #[k.u0,k.u1,k.u2,k.u3,k.u4]) p k.u1 k.u2 k.u3 k.u4
 sf:Zo w0 k.u4 p.fs x.f f f1 f2 f3
 vf:EL w0 (.agg #[cS f.n,cS f.r,f1,f2,f3]) f f1 f2 f3
 sb:jS w0 f3 f.bs x.b b b1 b2 b3 q a
 vb:Qw w0 (vk b b1 b2 b3) b b1 b2 b3
def V3{p:Pg}{x:Lv}(hp:Cj w0 (.agg #[k.u0,k.u1,k.u2,k.u3,k.u4]) p k.u1 k.u2 k.u3 k.u4)(hf:Ai Fn.n x.f p.fs=cP f)(hb:Ai Bk.n x.b f.bs=cP b):∃f1 f2 f3 b1 b2 b3 q a,Here w0 p k x f b f1 f2 f3 b1 b2 b3 q a:=by
 obtain⟨f1,f2,f3,h1,h2⟩:=QD hp.f hf;obtain⟨b1,b2,b3,q,a,h3,h4⟩:=Vg h2.b hb;exact⟨f1,f2,f3,b1,b2,b3,q,a,hp,h1,h2,h3,h4⟩
theorem PN{N M:Nat}{s:St}{j:Int}(h:Am w B N M k s j){rest:List Lv}{x:Lv}(hfr:s.frames=rest++[x])(hl:rest.length+1<=140737488351232)(h0:AA6 w0 w){p:Pg}{f1 f2 f3 b1 b2 b3:Value}(hh:Here w0 p k x f b f1 f2 f3 b1 b2 b3 q a):Calls prog 50 #[.pointer (cP ⟨M,0,cX⟩)] w λe w'=>e=.returned (.tuple #[.agg #[cS f.n,cS f.r,f1,f2,f3],vk b b1 b2 b3])/\AA6 w w':=by
 unfold vk;obtain⟨hp,hsf,hvf,hsb,hvb⟩:=hh;have hF:=λv (hw:AA6 w0 v)=>Kh hw hp x.f hsf hvf;have hP:=λv (hw:AA6 w0 v)=>Og hw hvf x.b;rw[hsb.ix]at hP;obtain⟨-,hlt,hn,⟨cb,rfl⟩,-,d0,d1,d2,d3,d4,d5,d6,d7,d8⟩:=hsb;obtain⟨NY,Nb,rfl⟩:=hvf.p.slice;obtain⟨NW,Na,rfl⟩:=hvf.v.slice;obtain⟨gy,iE,rfl⟩:=hvb.p.slice;obtain⟨vw,wD,rfl⟩:=hvb.c.slice;obtain⟨gZ,iD,rfl⟩:=hvb.t.slice;generalize f.ps.length=Y3 at*;generalize f.vs.length=Y2 at*;generalize b.ps.length=o7 at*;generalize b.cs.length=oz at*;generalize b.e.to.length=ou at*;obtain⟨FB,cap,bm,hT,-⟩:=h.top hfr hl;have hd:=h.hd;obtain⟨g0,g1,g2,g3,g4,-⟩:=hd;obtain⟨hx2,hx3,hb2⟩:=Ch (w:=w) (c1:=[cS ⟨#[]⟩,cS ⟨#[]⟩,cY cX 0 0,cY cX 0 0,cY cX 0 0]) (c2:=[cS ⟨#[]⟩,cY cX 0 0,cY cX 0 0,cI cJ 0,cI cJ 0,cS ⟨#[]⟩,cI cJ 0,cY cX 0 0,cI cJ 0]) (t1:=66) (t2:=82) (AL);generalize f.bs.length=nb at*;generalize f.n=fn at*;generalize f.r=fr at*;generalize b.n=bn at*;generalize b.e.k=bk at*;generalize b.e.a.k=bak at*;generalize b.e.a.s=qF at*;generalize b.e.a.n=ban at*;generalize b.e.n=qE at*;go_enter func50,ntmps50;go_wp2;generalize Cr:World.alloc _ _=W at*;have hTW:=hT.kp hb2;have nO:=AB h0 hb2;replace g0:=AA hb2 g0;replace g1:=AA hb2 g1;replace g2:=AA hb2 g2;replace g3:=AA hb2 g3;replace g4:=AA hb2 g4;have hdr:=(Below.refl W.heap.size W).drew;refine ALR (S:=Ck W 13 14 [cS ⟨#[]⟩,cS ⟨#[]⟩,cY cX 0 0,cY cX 0 0,cY cX 0 0] [cS fn,cS fr,cY NY Y3 Nb,cY NW Y2 Na,cY (cP a) nb cb]) (Ck.start hdr) ?_;iterate 5((refine AU.f (λz=>z.s.keep rfl rfl) (λz=>ALS (AA z.s.1 g0) (ALS (AA z.s.1 g1) (ALS (AA z.s.1 g2) (ALS (AA z.s.1 g3) (AA z.s.1 g4))))) ?_))
 (apply AU.y rfl;intro V L w1 _ _ z hK;go_simp;go_wp2_with((refine(He (AA z.s.1 hTW.sl) hTW.l).mono ?_;rintro e w2 ⟨rfl,qq,rfl⟩));(try simp only[pE]);exact hK.out _ (z.s.call (Al _) rfl rfl);intros;rfl);iterate 3((refine AU.f (λz=>z.s.keep rfl rfl) (λz=>(hTW.kp z.s.1).f) ?_))
 (apply AU.y rfl;intro V L w1 _ _ z hK;go_simp;go_wp2_with((refine(hF _ (AB nO z.s.1)).mono ?_;rintro e w2 ⟨hb,rfl⟩));(try simp only[pE]);exact hK.out _ (z.s.call hb rfl rfl);intros;rfl);iterate 3((refine AU.q (λz=>z.s.keep rfl rfl) ?_))
 (apply AU.w rfl;intro V L w1 _ _ _ z hK;go_simp;exact hK rfl (z.s.made rfl z.i _);(try simp only[pE]));refine AU.val undef (λ_=>rfl) (λV L w1 K' Q' hS hi hR' hd hK=>?_) ?_
 ·have hl:=hd.out 13 (by kernel_rfl);obtain⟨pb,hp,hp0,hp1,hx⟩:=hS.at hl hi;obtain⟨k0,k1,k2,k3,k4⟩:=hx.c5;obtain⟨f0,f1,f2,f3,f4⟩:=hx.f5;go_simp;exact hK.out _ _ (by simp only[hp];rfl) (hS.fill hl hp hp0 (by first|(rw[DK];exact hp1)|simpa using hp1) (hS.1.trans (Ay hp0 [cS fn,cS fr,_,_,cY (cP a) nb cb] 0 w1)) (CK [cS fn,cS fr,_,_,cY (cP a) nb cb] _ 0 w1 hx rfl) rfl)
 simp only[Act.put];(refine AU.q (λz=>z.s.keep rfl rfl) ?_);refine AU.nil λV w5 hS=>?_;obtain⟨pb,hpb,hp0,hp1,hxb⟩:=hS.done rfl rfl;have hb5:=hS.1;simp only[hpb];have gJ:=hTW.kp hb5;have Ku:=AB nO hb5;replace hx2:=hx2.nx hb5;replace hx3:=hx3.nx hb5;have hws:w.heap.size+1<W.heap.size:=by rw[<-Cr];simp
 replace hb5:=hb2.trans (hb5.mono hb2.size);have hn1:w.heap.size≠pb:=by omega
 have hn2:w.heap.size+1≠pb:=by omega
 generalize W.heap.size=sz at*;go_wp2;refine ALQ (S:=λ_ v=>AA6 w5 v) Ac ?_;iterate 2((refine Ab.f (λz=>z.s) (λz=>(hxb.nx z.s).c5) ?_))
 (apply Ab.y rfl;intro L w1 _ _ z hK;go_simp;go_wp2_with((refine(He (AA z.s gJ.sl) gJ.l).mono ?_;rintro e w2 ⟨rfl,qq,rfl⟩));(try simp only[pE]);exact hK.out _ (AB z.s (Al _));rfl);iterate 3((refine Ab.f (λz=>z.s) (λz=>(gJ.kp z.s).bl) ?_))
 (apply Ab.y rfl;intro L w1 _ _ z hK;go_simp;go_wp2_with((refine(hP _ (AB Ku z.s)).mono ?_;rintro e w2 ⟨hb,rfl⟩));(try simp only[pE]);exact hK.out _ (AB z.s hb);rfl);iterate 5((refine Ab.q (λz=>z.s) ?_))
 refine Ab.nil λw6 hb6=>?_;have PX:=AB Ku hb6;replace hx2:=hx2.nx hb6;replace hx3:=hx3.nx hb6;replace hxb:=hxb.nx hb6;replace hb6:=AB hb5 hb6;have AJJ:=World.block_lt_of_cell? w0 _ d0;generalize w5=w5 at*;go_wp2;have hne:(a.add (q*9)).block<w.heap.size:=by have:=h0.size;omega
 replace d0:=AA PX d0;replace d1:=AA PX d1;replace d2:=AA PX d2;replace d3:=AA PX d3;replace d4:=AA PX d4;replace d5:=AA PX d5;replace d6:=AA PX d6;replace d7:=AA PX d7;replace d8:=AA PX d8;have iC:(a.add (q*9)).block≠w.heap.size:=by omega
 have iB:(a.add (q*9)).block≠w.heap.size+1:=by omega
 refine AO (S:=EC w6 w.heap.size w.heap.size (w.heap.size+1) 6 7 [cS ⟨#[]⟩,cS ⟨#[]⟩,cY cX 0 0,cY cX 0 0,cY cX 0 0] [cS fn,cS fr,cY NY Y3 Nb,cY NW Y2 Na,cY (cP a) nb cb]
  [cS ⟨#[]⟩,cY cX 0 0,cY cX 0 0,cI cJ 0,cI cJ 0,cS ⟨#[]⟩,cI cJ 0,cY cX 0 0,cI cJ 0] [cS bn,cY gy o7 iE,cY vw oz wD,cI cJ bk,cI cJ bak,cS qF,cI cJ ban,cY gZ ou iD,cI cJ qE])
  rfl (by kernel_rfl) (EC.start Ac (λ_=>rfl) hx2.drew hx3.drew) ?_
 iterate 6((refine Ab.f (λz=>z.s.keep rfl rfl) (λz=>ALS (z.s.cell (hxb.c 0 _ rfl) hn1.symm hn2.symm) (ALS (z.s.cell (hxb.c 1 _ rfl) hn1.symm hn2.symm) (ALS (z.s.cell (hxb.c 2 _ rfl) hn1.symm hn2.symm) (ALS (z.s.cell (hxb.c 3 _ rfl) hn1.symm hn2.symm) (ALS (z.s.cell (hxb.c 4 _ rfl) hn1.symm hn2.symm) (ALS (z.s.cell d0 iC iB) (ALS (z.s.cell d1 iC iB) (ALS (z.s.cell d2 iC iB) (ALS (z.s.cell d3 iC iB) (ALS (z.s.cell d4 iC iB) (ALS (z.s.cell d5 iC iB) (ALS (z.s.cell d6 iC iB) (ALS (z.s.cell d7 iC iB) (z.s.cell d8 iC iB)))))))))))))) ?_))
 (refine Ab.step (a1:=?_) rfl (λL w1 K' Q' hS hi hR hd hK=>?_) ?_ ?_;rotate_left)
 ·have hx:=hS.px hi;obtain⟨k0,k1,k2,k3,k4⟩:=hx.c5;obtain⟨z0,z1,z2,z3,z4⟩:=hx.f5;go_simp;exact hK.out _ (hS.Z6 (Ay (AQ) [cS fn,cS fr,cY NY Y3 Nb,cY NW Y2 Na,cY (cP a) nb cb] 0 w1) (λr hr=>Bu hr [cS fn,cS fr,cY NY Y3 Nb,cY NW Y2 Na,cY (cP a) nb cb] 0 w1) (CK [cS fn,cS fr,cY NY Y3 Nb,cY NW Y2 Na,cY (cP a) nb cb] _ 0 w1 hx rfl) (by omega) rfl)
 ·rfl
 (refine Ab.step (a1:=?_) rfl (λL w1 K' Q' hS hi hR hd hK=>?_) ?_ ?_;rotate_left)
 ·have hx:=hS.qy hi;obtain⟨k0,k1,k2,k3,k4,k5,k6,k7,k8⟩:=hx.c9;obtain⟨z0,z1,z2,z3,z4,z5,z6,z7,z8⟩:=hx.f9;go_simp;exact hK.out _ (hS.Z5 (Ay (Aa) [cS bn,cY gy o7 iE,cY vw oz wD,cI cJ bk,cI cJ bak,cS qF,cI cJ ban,cY gZ ou iD,cI cJ qE] 0 w1) (λr hr=>Bu hr [cS bn,cY gy o7 iE,cY vw oz wD,cI cJ bk,cI cJ bak,cS qF,cI cJ ban,cY gZ ou iD,cI cJ qE] 0 w1) (CK [cS bn,cY gy o7 iE,cY vw oz wD,cI cJ bk,cI cJ bak,cS qF,cI cJ ban,cY gZ ou iD,cI cJ qE] _ 0 w1 hx rfl) (by omega) rfl)
 ·rfl
 refine Ab.nil λw7 hS=>?_;obtain⟨hX,hY⟩:=hS.done rfl rfl;have BJ:=hb6.trans hS.b;obtain⟨k0,k1,k2,k3,k4⟩:=hX.c5;obtain⟨z0,z1,z2,z3,z4,z5,z6,z7,z8⟩:=hY.c9;go_wp2;(try simp only[Exit.inBlock,Exit.then]);refine bodyPost_ret_by (v:=.tuple #[.agg #[cS fn,cS fr,cY NY Y3 Nb,cY NW Y2 Na,cY (cP a) nb cb],.agg #[cS bn,cY gy o7 iE,cY vw oz wD,cI cJ bk,cI cJ bak,cS qF,cI cJ ban,cY gZ ou iD,cI cJ qE]]) ((Ul rfl _ _ _).trans (by go_simp;try rfl)) rfl ⟨rfl,BJ⟩
end Go.Proofs.YtlffomedflegdaaGreatDoor
