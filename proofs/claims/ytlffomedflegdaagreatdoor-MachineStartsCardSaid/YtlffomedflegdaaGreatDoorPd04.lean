/- Part 04 of the proof: Flo, FloI, Mch, End, Set, Unl, Dec, Wt, Ws, Wu. -/
import Derived.Test.YtlffomedflegdaaGreatDoorPd03
set_option linter.all false
set_option maxHeartbeats 16000000
set_option maxRecDepth 100000
namespace Go.Proofs.YtlffomedflegdaaGreatDoor
open Go.Proofs.Tryz
open Go.RowKit
open Go.Value renaming int→cI,string→cS,slice→cY,bool→cE
open Go.IntKind renaming i64→cJ
open Option renaming some→cP,none→cX
open Bool renaming false→cA,true→cC
variable {a n op:Int}{d t:ByteArray}{f:Fn}{fm:Fm}{i:Is}{k:Nat}{m:Vm}{p:Pg}{v:Vu}{α:Type}
section
namespace Dp
open Ieee
def u64(n:Int):Nat:=(n%18446744073709551616).toNat
def Bc(u:Nat):Bool:=decide (9218868437227405312<u%9223372036854775808)
def Pe:Int:=9221120237041090560
def Ba(n:Int):Int:=if Bc (u64 n)then Pe else n
def rW(n:Int):u64 n<18446744073709551616:=by unfold u64;omega
theorem wrap_i64_small(n:Nat)(h:n<9223372036854775808):IntKind.i64.wrap (n:Int)=n:=by
 simp only[IntKind.wrap,IntKind.bits,IntKind.signed];simp;omega
theorem Bl(n:Int):(BitVec.ofInt 64 n).toNat=u64 n:=by
 simp[u64]
theorem SA(n:Int):bits .and .i64 n 9218868437227405312=((u64 n%9223372036854775808/4503599627370496*4503599627370496:Nat):Int):=by
 unfold bits;simp only[BitVec.toNat_and];show IntKind.i64.wrap (((BitVec.ofInt 64 n).toNat&&& (BitVec.ofInt 64 9218868437227405312).toNat:Nat):Int)=_;rw[Bl];have e:(BitVec.ofInt 64 9218868437227405312).toNat=9218868437227405312:=by decide
 have m:u64 n&&&9218868437227405312=u64 n%9223372036854775808/4503599627370496*4503599627370496:=nat_midmask 63 52 (u64 n) (by decide);rw[e,m,wrap_i64_small];omega
theorem R9(n:Int):bits .and .i64 n 4503599627370495=((u64 n%4503599627370496:Nat):Int):=by
 unfold bits;simp only[BitVec.toNat_and];show IntKind.i64.wrap (((BitVec.ofInt 64 n).toNat&&& (BitVec.ofInt 64 4503599627370495).toNat:Nat):Int)=_;rw[Bl];have e:(BitVec.ofInt 64 4503599627370495).toNat=4503599627370495:=by decide
 rw[e,nat_mask52,wrap_i64_small];omega
def Xp(h1:bits .and .i64 n 9218868437227405312=9218868437227405312)(h2:(bits .and .i64 n 4503599627370495 !=0)=cC):Ba n=Pe:=by
 rw[SA]at h1;rw[R9]at h2;have h3:u64 n%4503599627370496≠0:=by
  intro h;rw[h]at h2;simp at h2
 have:Bc (u64 n)=cC:=by
  unfold Bc;simp;omega
 simp[Ba,this]
def Xr(h1:¬bits .and .i64 n 9218868437227405312=9218868437227405312):Ba n=n:=by
 rw[SA]at h1;have:Bc (u64 n)=cA:=by
  unfold Bc;simp;omega
 simp[Ba,this]
def Xq(h2:(bits .and .i64 n 4503599627370495 !=0)=cA):Ba n=n:=by
 rw[R9]at h2;have h3:u64 n%4503599627370496=0:=by
  have:=bne_eq_false_iff_eq.1 h2;omega
 have:Bc (u64 n)=cA:=by
  unfold Bc;simp;omega
 simp[Ba,this]
def pb(n:Int):Nat:=u64 (Ba n)
def tr(b:Bool):Int:=if b then 1 else 0
def eB(n:Int):decide (9218868437227405312<(IntKind.u64.wrap n).tmod 9223372036854775808)=Bc (u64 n):=by
 rw[IntKind.wrap_u64,tmod_of_emod];unfold Bc u64;congr 1;apply propext;constructor<;>intro h<;>omega
theorem UL(n:Int):wrap64 n=if n%18446744073709551616>=9223372036854775808 then n%18446744073709551616-18446744073709551616 else n%18446744073709551616:=by
 unfold wrap64;split<;>omega
theorem UM(r:Nat)(h:r<18446744073709551616):u64 (wrap64 r)=r:=by
 rw[UL];unfold u64;split<;>omega
theorem Xt(r:Nat)(h:r<18446744073709551616)(hn:Bc r=cC):Ba (wrap64 r)=Pe:=by
 unfold Ba;rw[UM r h,hn];rfl
def kR(x y t:Nat):(Question.nanBits .f64 x y).cut t<18446744073709551616/\Bc ((Question.nanBits .f64 x y).cut t)=cC:=by
 have e:(Question.nanBits .f64 x y).cut t=(t%2)*9223372036854775808+9218868437227405312+1+(t/2)%4503599627370495:=rfl;rw[e];refine⟨by omega,?_⟩;unfold Bc;simp only[decide_eq_true_eq];rcases Nat.mod_two_eq_zero_or_one t with h|h<;>rw[h]<;>omega
theorem Uw(x y:Nat):(Question.nanBits .f64 x y).forced=cA:=rfl
def Eo(op:BinOp)(x y:Nat):Int:=match floatBits op .f64 x y with
 |some r=>Ba (wrap64 r)
 |none=>Pe
def JD{P:Program}(op:BinOp)(hop:op=.add\/op=.sub\/op=.mul\/op=.quo)(t:TypeId)(x y:Nat)(w:World):∃r w1,(binOp op t (.float .f64 x) (.float .f64 y)).run P w=.ok (.float .f64 r) w1/\AA6 w w1/\r<18446744073709551616/\Ba (wrap64 r)=Eo op x y:=by
 cases h:floatBits op .f64 x y with
 |some r=>
  refine⟨r,w,run_float_arith w op t .f64 x y r h,AL,?_,by simp[Eo,h]⟩;have:=floatBits_wf h;simp[Lit.wf]at this
  exact this
 |none=>
  obtain⟨h1,h2⟩:=kR x y (w.tape w.drawn (Question.nanBits .f64 x y));refine⟨_,w.drew,?_,Ac,h1,by rw[Xt _ h1 h2];simp[Eo,h]⟩;rcases hop with rfl|rfl|rfl|rfl<;>simp only[floatBits]at h<;>simp[binOp,Op.floatArith,h,Uw]
theorem dW:Bc (u64 Pe)=cC:=by decide
theorem Oy(n:Int):Bc (pb n)=Bc (u64 n):=by
 unfold pb Ba;cases h:Bc (u64 n)
 ·simp[h]
 ·simp[dW]
def Xu(h:Bc (u64 n)=cA):pb n=u64 n:=by simp[pb,Ba,h]
theorem Zu(n:Int):pb n<18446744073709551616:=rW _
theorem cZ{x:Nat}(_h:x<18446744073709551616):(double.read x).isNaN=Bc x:=by
 unfold Format.read;have e1:double.signWeight=9223372036854775808:=by decide
 have e2:double.binade=4503599627370496:=by decide
 have e3:double.infRung=9218868437227405312:=by decide
 simp only[e1,e2,e3];unfold Bc;split
 ·simp[Datum.isNaN];omega
 ·split
  ·simp[Datum.isNaN];omega
  ·split
   ·simp[Datum.isNaN];omega
   ·simp[Datum.isNaN];omega
theorem X5{a b:Datum}(h:a.isNaN=cC\/b.isNaN=cC):a.order b=cX:=by
 rcases h with h|h
 ·cases a<;>simp[Datum.isNaN]at h;simp[Datum.order]
 ·cases a<;>cases b<;>simp[Datum.isNaN]at h<;>simp[Datum.order]
theorem Ut{a:Datum}(h:a.isNaN=cA):a.order a=cP .eq:=by
 cases a with
 |number s m p=>simp[Datum.order,Std.ReflCmp.compare_self]
 |infinity s=>simp[Datum.order,Std.ReflCmp.compare_self]
 |nan s f=>simp[Datum.isNaN]at h
theorem IE{x:Nat}(h:x<18446744073709551616):(FloatKind.f64.format.order x x !=cP .eq)=Bc x:=by
 show((double.read x).order (double.read x) !=cP .eq)=_;rw[<-cZ h];cases hn:(double.read x).isNaN
 ·rw[Ut hn];rfl
 ·rw[X5 (.inl hn)];rfl
def iX(x y:Nat):Option Ordering:=FloatKind.f64.format.order x y
def OA(op a b:Int):Int×Bool:=
 if op=15 then(Eo .add (pb a) (pb b),cC)
 else if op=16 then(Eo .sub (pb a) (pb b),cC)
 else if op=17 then(Eo .mul (pb a) (pb b),cC)
 else if op=18 then(Eo .quo (pb a) (pb b),cC)
 else if op=19 then(tr (iX (pb a) (pb b)==cP .eq),cC)
 else if op=20 then(tr (iX (pb a) (pb b)==cP .lt),cC)
 else if op=21 then(tr (iX (pb a) (pb b)==cP .lt||iX (pb a) (pb b)==cP .eq),cC)
 else(0,cA)
section
variable {op a b : Int}
def mH{x:Int}(h:(op==15)=cC)(hx:x=Eo .add (pb a) (pb b)):OA op a b=(x,cC):=by
 have:op=15:=by simpa using h
 subst this;subst hx;rfl
def l8{x:Int}(h:(op==16)=cC)(hx:x=Eo .sub (pb a) (pb b)):OA op a b=(x,cC):=by
 have:op=16:=by simpa using h
 subst this;subst hx;rfl
def mD{x:Int}(h:(op==17)=cC)(hx:x=Eo .mul (pb a) (pb b)):OA op a b=(x,cC):=by
 have:op=17:=by simpa using h
 subst this;subst hx;rfl
def l9{x:Int}(h:(op==18)=cC)(hx:x=Eo .quo (pb a) (pb b)):OA op a b=(x,cC):=by
 have:op=18:=by simpa using h
 subst this;subst hx;rfl
def mG(h:(op==19)=cC):OA op a b=(tr (FloatKind.f64.format.order (pb a) (pb b)==cP .eq),cC):=by
 have:op=19:=by simpa using h
 subst this;rfl
def mE(h:(op==20)=cC):OA op a b=(tr (FloatKind.f64.format.order (pb a) (pb b)==cP .lt),cC):=by
 have:op=20:=by simpa using h
 subst this;rfl
def mF(h:(op==21)=cC):OA op a b=(tr (FloatKind.f64.format.order (pb a) (pb b)==cP .lt||FloatKind.f64.format.order (pb a) (pb b)==cP .eq),cC):=by
 have:op=21:=by simpa using h
 subst this;rfl
def fO(h1:(op==15)=cA)(h2:(op==16)=cA)(h3:(op==17)=cA)(h4:(op==18)=cA)(h5:(op==19)=cA)(h6:(op==20)=cA)(h7:(op==21)=cA):OA op a b=(0,cA):=by
 simp only[beq_eq_false_iff_ne]at*;simp[OA, *]
end
def MR(n:Int):Int:=Ba (wrap64 (floatOfInt .f64 n))
def Tk(d:Nat):UInt8:=if d<10 then UInt8.ofNat (48+d)else UInt8.ofNat (87+d)
def oJ(u k:Nat):List UInt8:=[48,102]++(List.range k).map λi=>Tk (u/16^ (15-i)%16)
def Hf(u:Nat):List UInt8:=oJ u 16
def Ie(u:Nat):Nat->List UInt8
 |0=> []
 |k+1=>Tk (u/16^k%16)::Ie u k
theorem Ny(u k:Nat):(Ie u k).length=k:=by
 induction k with
 |zero=>rfl
 |succ k ih=>simp[Ie,ih]
theorem Sg(u:Nat):[48,102]++Ie u 16=Hf u:=rfl
def lH{d:Nat}(h:d<10):((Tk d).toNat:Int)=d+48:=by
 simp only[Tk,h,if_true,UInt8.toNat_ofNat'];omega
def lI{d:Nat}(h:¬d<10)(h2:d<16):((Tk d).toNat:Int)=d+87:=by
 simp only[Tk,h,if_false,UInt8.toNat_ofNat'];omega
def Qm(c:Nat):Nat:=if 97<=c then(c+9)%16 else c%16
def H9(l:List UInt8):Nat->Nat
 |0=>0
 |k+1=>H9 l k*16+Qm (l.getD (2+k) 0).toNat
def kL(c:Nat):Qm c<16:=by unfold Qm;split<;>omega
def fP(l:List UInt8)(k:Nat):H9 l k<16^k:=by
 induction k with
 |zero=>simp[H9]
 |succ k ih=>have:=kL (l.getD (2+k) 0).toNat;rw[Nat.pow_succ,H9];omega
def LZ(l:List UInt8):Int×Bool:=
 if l.length=18/\Hf (pb (wrap64 (H9 l 16)))=l then(wrap64 (H9 l 16),cC)else(0,cA)
theorem NV(u:Nat):(Hf u).length=18:=by simp[Hf,oJ]
def sP{x c:Nat}(hx:x<1152921504606846976)(hc:c<256)(h:97<=IntKind.u64.wrap (c:Int)):IntKind.u64.wrap (IntKind.u64.wrap ((x:Int)*16)+(IntKind.u64.wrap (IntKind.u64.wrap (c:Int)-87)).tmod 16)=((x*16+Qm c:Nat):Int):=by
 simp only[IntKind.wrap_u64,tmod_of_emod]at*;have:97<=c:=by omega
 simp only[Qm,this,if_true];omega
def sO{x c:Nat}(hx:x<1152921504606846976)(hc:c<256)(h:IntKind.u64.wrap (c:Int)<97):IntKind.u64.wrap (IntKind.u64.wrap ((x:Int)*16)+(IntKind.u64.wrap (IntKind.u64.wrap (c:Int)-48)).tmod 16)=((x*16+Qm c:Nat):Int):=by
 simp only[IntKind.wrap_u64,tmod_of_emod]at*;have:¬97<=c:=by omega
 simp only[Qm,this,if_false];omega
def U9(l:List UInt8)(h:k<16):H9 l k<1152921504606846976:=by
 have h1:=fP l k;have h2:16^k<=16^15:=Nat.pow_le_pow_right (by omega) (by omega);omega
def getD_at{s:ByteArray}(h:k<s.size):s.data.toList.getD k 0=s[k]:=by
 rw[List.getD_eq_getElem?_getD,List.getElem?_eq_getElem (by simpa using h)];rfl
theorem lN{s:ByteArray}{x:Nat}(hx:x=H9 s.data.toList 16)(h:(!Hf (pb (wrap64 x))==s.toList)=cC):LZ s.data.toList=(0,cA):=by
 subst hx;rw[ByteArray.toList_eq]at h;simp only[Bool.not_eq_true',beq_eq_false_iff_ne]at h;unfold LZ;rw[if_neg (λk=>h k.2)]
def eu{s:ByteArray}{x:Nat}(hs:s.size=18)(hx:x=H9 s.data.toList 16)(h:(!Hf (pb (wrap64 x))==s.toList)=cA):LZ s.data.toList=(wrap64 x,cC):=by
 subst hx;rw[ByteArray.toList_eq]at h;simp only[Bool.not_eq_false',beq_iff_eq]at h;unfold LZ;rw[if_pos ⟨by simpa using hs,h⟩]
end Dp
end
section
namespace Dp
open Ieee
def cO{x:Nat}(h:Bc x=cA)(hi:x%9223372036854775808≠9218868437227405312):∃m i,double.read x=.number (x/9223372036854775808%2==1) m i/\((x%9223372036854775808<4503599627370496/\m=x%9223372036854775808/\i= -1074)\/(4503599627370496<=x%9223372036854775808/\m=4503599627370496+x%4503599627370496/\i=((x%9223372036854775808/4503599627370496:Nat):Int)-1075)):=by
 have e1:double.signWeight=9223372036854775808:=by decide
 have e2:double.binade=4503599627370496:=by decide
 have e3:double.infRung=9218868437227405312:=by decide
 have e4:double.leastPlace= -1074:=by decide
 have hn:¬9218868437227405312<x%9223372036854775808:=by simpa[Bc]using h
 unfold Format.read;simp only[e1,e2,e3,e4];by_cases h1:x%9223372036854775808<4503599627370496
 ·exact⟨_,_,by rw[if_pos h1],.inl ⟨h1,rfl,rfl⟩⟩
 ·refine⟨_,_,by rw[if_neg h1,if_pos (by omega)],.inr ⟨by omega,?_,?_⟩⟩
  ·omega
  ·omega
theorem dA{x:Nat}(hi:x%9223372036854775808=9218868437227405312):double.read x=.infinity (x/9223372036854775808%2==1):=by
 have e1:double.signWeight=9223372036854775808:=by decide
 have e2:double.binade=4503599627370496:=by decide
 have e3:double.infRung=9218868437227405312:=by decide
 unfold Format.read;grind
theorem jl(n:Int)(h1: -9223372036854775808<=n)(h2:n<=9223372036854775807):(u64 n/9223372036854775808%2==1)=decide (n<0):=by grind [u64]
theorem fQ(s:Bool)(n drop:Nat):Toward.cut .zero s n drop=n/2^drop:=by
 unfold Toward.cut;simp only[Bool.toNat_false,Nat.add_zero];rw[Nat.shiftLeft_eq,Nat.one_mul];by_cases h:drop<=n.log2+2
 ·rw[Nat.min_eq_left h]
 ·rw[Nat.min_eq_right (by omega)];have hl:n<2^ (n.log2+1):=Nat.lt_log2_self;have h1:n<2^ (n.log2+2):=A9 hl (Nat.pow_le_pow_right (by omega) (by omega));have h2:n<2^drop:=A9 hl (Nat.pow_le_pow_right (by omega) (by omega));rw[Nat.div_eq_of_lt h1,Nat.div_eq_of_lt h2]
theorem XO(s:Bool)(m:Nat)(i:Int):(Datum.number s m i).toInt .zero=cP (signed s (m*2^i.toNat/2^ (-i).toNat) 0):=by
 simp only[Datum.toInt,Datum.integral,fQ,Nat.shiftLeft_eq]
def FD(n:Int):Nat:=u64 n%9223372036854775808/4503599627370496
def Nq(n:Int):Nat:=u64 n%9223372036854775808%4503599627370496+4503599627370496
def Qn(n:Int):Nat:=Nq n*2^ (FD n-1075)/2^ (1075-FD n)
def CU(n:Int):Int:=
 if Bc (u64 n)then 0
 else if 1086<=FD n then(if n<0 then-9223372036854775808 else 9223372036854775807)
 else if FD n<1023 then 0
 else if n<0 then-(Qn n:Int)else Qn n
def Vw(n:Int):Nq n<9007199254740992:=by unfold Nq;omega
def kT(n:Int):4503599627370496<=Nq n:=by unfold Nq;omega
theorem Vx(h:FD n<1086):Qn n<9223372036854775808:=by
 unfold Qn;have h1:Nq n*2^ (FD n-1075)/2^ (1075-FD n)<=Nq n*2^ (FD n-1075):=Nat.div_le_self _ _;have h2:2^ (FD n-1075)<=2^10:=Nat.pow_le_pow_right (by omega) (by omega);have h3:=Vw n;have h4:Nq n*2^ (FD n-1075)<=9007199254740991*2^10:=Nat.mul_le_mul (by omega) h2;omega
def nW:Nat:=4890909195324358656
def xL:Nat:=14114281232179134464
theorem dD:double.read nW=.number cA 4503599627370496 11:=by decide
theorem dB:double.read xL=.number cC 4503599627370496 11:=by decide
theorem Gv(s:Bool)(m:Nat)(i:Int)(t:Bool)(_hm:4503599627370496<=m)(hi:11<=i):Datum.order (.number s m i) (.number t 4503599627370496 11)=cP (compare (signed s (m*2^ (i-11).toNat) 0) (signed t 4503599627370496 0)):=by
 have h:min i 11=11:=by omega
 simp only[Datum.order,h,signed,Nat.shiftLeft_eq];simp
theorem GH(s:Bool)(m:Nat)(i:Int)(t:Bool)(hi:i<=11):Datum.order (.number s m i) (.number t 4503599627370496 11)=cP (compare (signed s m 0) (signed t (4503599627370496*2^ (11-i).toNat) 0)):=by
 have h:min i 11=i:=by omega
 simp only[Datum.order,h,signed,Nat.shiftLeft_eq];simp
theorem DR(m:Nat):signed cA m 0=m:=by simp[signed]
theorem Ci(m:Nat):signed cC m 0= -(m:Int):=by simp[signed]
def UJ{b:Int}(h:a<b):compare a b=.lt:=by simp[compare,compareOfLessAndEq,h]
theorem cmp_eq{b:Int}(h:a=b):compare a b=.eq:=by grind
def aX{b:Int}(h:b<a):compare a b=.gt:=by
 have h1:¬a<b:=by omega
 have h2:a≠b:=by omega
 simp[compare,compareOfLessAndEq,h1,h2]
def iO(x:Nat):Bool:=FloatKind.f64.format.order x nW==cP .gt||FloatKind.f64.format.order x nW==cP .eq
def vg(x:Nat):Bool:=FloatKind.f64.format.order x xL==cP .lt
theorem MI{x:Nat}{o:Ordering}(h:(double.read x).order (.number cA 4503599627370496 11)=cP o):iO x=(o==.gt||o==.eq):=by
 unfold iO;show((double.read x).order (double.read nW)==_||(double.read x).order (double.read nW)==_)=_;rw[dD,h];cases o<;>rfl
theorem RJ{x:Nat}{o:Ordering}(h:(double.read x).order (.number cC 4503599627370496 11)=cP o):vg x=(o==.lt):=by
 unfold vg;show((double.read x).order (double.read xL)==_)=_;rw[dB,h];cases o<;>rfl
theorem Tx{x:Nat}{s:Bool}{m:Nat}{i:Int}(h:double.read x=.number s m i)(hb:m*2^i.toNat/2^ (-i).toNat<9223372036854775808\/(s=cC/\m*2^i.toNat/2^ (-i).toNat=9223372036854775808)):floatToIntVal .f64 x .i64=cP (signed s (m*2^i.toNat/2^ (-i).toNat) 0):=by
 unfold floatToIntVal;have e:FloatKind.f64.decode x=.number s m i:=h;rw[e,XO];generalize m*2^i.toNat/2^ (-i).toNat=q at*;simp only;rw[if_pos];have e1:IntKind.i64.min= -9223372036854775808:=rfl;have e2:IntKind.i64.max=9223372036854775807:=rfl;rw[e1,e2];cases s
 ·rw[DR];simp at hb;omega
 ·rw[Ci];simp at hb;omega
def sG{m a b:Nat}(hm:m<9007199254740992)(ha:a=0)(hb:53<=b):m*2^a/2^b=0:=by
 subst ha;rw[Nat.pow_zero,Nat.mul_one];apply Nat.div_eq_of_lt;have:2^53<=2^b:=Nat.pow_le_pow_right (by omega) hb;omega
theorem Rt{m:Nat}(hm:m<9007199254740992)(hk:1<=k):m<4503599627370496*2^k:=by grind
theorem PK(s:Bool){M K:Nat}(h:M<K):compare (signed s M 0) (signed cA K 0)=.lt:=by
 apply UJ;cases s
 ·rw[DR,DR];omega
 ·rw[DR,Ci];omega
theorem NR(s:Bool){M K:Nat}(h:M<K):compare (signed s M 0) (signed cC K 0)=.gt:=by
 apply aX;cases s
 ·rw[DR,Ci];omega
 ·rw[Ci,Ci];omega
theorem UN(n:Int)(h1: -9223372036854775808<=n)(h2:n<=9223372036854775807)(hn:Bc (u64 n)=cA):(iO (u64 n)=cC/\CU n=9223372036854775807)\/(iO (u64 n)=cA/\vg (u64 n)=cC/\CU n= -9223372036854775808)\/(iO (u64 n)=cA/\vg (u64 n)=cA/\floatToIntVal .f64 (u64 n) .i64=cP (CU n)):=by
 have hs:=jl n h1 h2;by_cases hi:u64 n%9223372036854775808=9218868437227405312
 ·have hr:=dA hi;rw[hs]at hr;have he:1086<=FD n:=by unfold FD;omega
  by_cases hneg:n<0
  ·right;left;rw[decide_eq_true hneg]at hr;refine⟨?_,?_,by simp[CU,hn,he,hneg]⟩
   ·rw[MI (o:=.lt) (by rw[hr];rfl)];rfl
   ·rw[RJ (o:=.lt) (by rw[hr];rfl)];rfl
  ·left;rw[decide_eq_false hneg]at hr;exact⟨by rw[MI (o:=.gt) (by rw[hr];rfl)];rfl,by simp[CU,hn,he,hneg]⟩
 ·obtain⟨m,i,hr,hmi⟩:=cO hn hi;rw[hs]at hr;rcases hmi with⟨hsub,hm,hii⟩|⟨AJS,hm,hii⟩
  ·
   have he0:FD n=0:=(by unfold FD;omega);have hv:CU n=0:=(by simp[CU,hn,he0]);subst hii;have hq:m*2^ (-1074:Int).toNat/2^ (-(-1074:Int)).toNat=0:=sG (by omega) rfl (by decide);have hlt:m<4503599627370496*2^ (11-(-1074:Int)).toNat:=Rt (by omega) (by decide);right;right;refine⟨?_,?_,?_⟩
   ·rw[MI (o:=.lt)]
    ·rfl
    ·rw[hr,GH _ _ _ _ (by omega),PK _ hlt]
   ·rw[RJ (o:=.gt)]
    ·rfl
    ·rw[hr,GH _ _ _ _ (by omega),NR _ hlt]
   ·rw[Tx hr (by rw[hq];left;omega),hq,hv];cases decide (n<0)<;>simp[signed]
  ·have hme:Nq n=m:=(by unfold Nq;omega);have hie:i=(FD n:Int)-1075:=(by unfold FD;omega);have hmg:m*2^i.toNat/2^ (-i).toNat=Qn n:=by
    unfold Qn;rw[hme];have e1:i.toNat=FD n-1075:=(by omega);have e2:(-i).toNat=1075-FD n:=(by omega);rw[e1,e2]
   have hml:=Vw n;have AJX:=kT n;by_cases hbig:1086<=FD n
   ·have ZT:11<=i:=(by omega);have hp:1<=2^ (i-11).toNat:=Nat.one_le_two_pow;have hge:4503599627370496<=m*2^ (i-11).toNat:=by
     have:=Nat.mul_le_mul (show 4503599627370496<=m by omega) hp;omega
    by_cases hneg:n<0
    ·rw[decide_eq_true hneg]at hr;have hc1:iO (u64 n)=cA:=by
      rw[MI (o:=.lt)]
      ·rfl
      ·rw[hr,Gv _ _ _ _ (by omega) ZT];congr 1;apply UJ;rw[DR,Ci];omega
     have htv:CU n= -9223372036854775808:=(by simp[CU,hn,hbig,hneg]);by_cases hx:m*2^ (i-11).toNat=4503599627370496
     ·right;right;have hi':i=11:=by
       have:¬12<=i:=by
        intro h12;have hp2:2^1<=2^ (i-11).toNat:=Nat.pow_le_pow_right (by omega) (by omega);have:=Nat.mul_le_mul (show 4503599627370496<=m by omega) hp2;omega
       omega
      subst hi';have ADr:m=4503599627370496:=(by simpa using hx);refine⟨hc1,?_,?_⟩
      ·rw[RJ (o:=.eq)]
       ·rfl
       ·rw[hr,Gv _ _ _ _ (by omega) ZT,hx];rw[cmp_eq rfl]
      ·have hq:m*2^ (11:Int).toNat/2^ (-(11:Int)).toNat=9223372036854775808:=(by rw[ADr];rfl);rw[Tx hr (by rw[hq];right;exact⟨rfl,rfl⟩),hq,htv,Ci];rfl
     ·right;left;refine⟨hc1,?_,htv⟩;rw[RJ (o:=.lt)]
      ·rfl
      ·rw[hr,Gv _ _ _ _ (by omega) ZT];congr 1;apply UJ;rw[Ci,Ci];omega
    ·left;rw[decide_eq_false hneg]at hr;refine⟨?_,by simp[CU,hn,hbig,hneg]⟩;by_cases hx:m*2^ (i-11).toNat=4503599627370496
     ·rw[MI (o:=.eq)]
      ·rfl
      ·rw[hr,Gv _ _ _ _ (by omega) ZT];exact congrArg cP (cmp_eq (by rw[hx]))
     ·rw[MI (o:=.gt)]
      ·rfl
      ·rw[hr,Gv _ _ _ _ (by omega) ZT];exact congrArg cP (aX (by rw[DR,DR];omega))
   ·right;right;have hlt:m<4503599627370496*2^ (11-i).toNat:=Rt (by omega) (by omega);have hmv:=Vx (show FD n<1086 by omega);refine⟨?_,?_,?_⟩
    ·rw[MI (o:=.lt)]
     ·rfl
     ·rw[hr,GH _ _ _ _ (by omega),PK _ hlt]
    ·rw[RJ (o:=.gt)]
     ·rfl
     ·rw[hr,GH _ _ _ _ (by omega),NR _ hlt]
    ·rw[Tx hr (by rw[hmg];left;exact hmv),hmg];congr 1;have h0:FD n<1023->Qn n=0:=by
      intro h;unfold Qn;have e1:FD n-1075=0:=(by omega);rw[e1,Nat.pow_zero,Nat.mul_one];apply Nat.div_eq_of_lt;have:2^53<=2^ (1075-FD n):=Nat.pow_le_pow_right (by omega) (by omega);omega
     unfold CU;rw[hn,if_neg (by simp),if_neg hbig];by_cases hs:FD n<1023
     ·rw[if_pos hs,h0 hs];cases decide (n<0)<;>simp[signed]
     ·rw[if_neg hs];by_cases hneg:n<0
      ·rw[decide_eq_true hneg,if_pos hneg,Ci]
      ·rw[decide_eq_false hneg,if_neg hneg,DR]
end Dp
end
section
open Num Dp
abbrev E9:ByteArray:=⟨#[114,101,102]⟩
structure Ob where (c:ByteArray) (vs:List Vu)
structure Ev where (n:ByteArray) (ar:List Int) (r:Int) (fl:Bool)
structure Lv where (f b:ByteArray) (i:Nat) (vars:Vm)
structure St where (status:Int) (result:Vu) (code:Int) (frames:List Lv) (heap:List Ob) (globals:List Vu) (trace:List Ev) (marks:List Int) (allocs steps guards asked:Int)
def Ar(l:Vm)(a:Ag):Vu:=if a.k=1 then getM l a.s else if a.k=2 then(BA,a.n)else if a.k=3 then(Ao,a.n)else(E9,0)
def Ap(t:ByteArray):Vu:=if t=BA\/t=Ao then(t,0)else(E9,0)
def Lx(t:ByteArray)(a:Option Int):Vu:=match a with
 |none=>Ap t
 |some n=>if t=BA then(t,n)else if t=Ao then(t,Ba n)else(E9,0)
def ET:List Vr->List Int->Vm->Vm
 | [],_,m=>m
 |v::r,l,m=>ET r l.tail (Ei m v.n (Lx v.t l.head?))
def st0:St:=⟨0,(Bv,0),0,[],[],[],[],[],0,0,0,0⟩
def GK(p:Pg)(x:ByteArray)(args:List Int):Option St:=match Ai Fn.n x p.fs with
 |none=>cX
 |some f=>match f.bs with
  | []=>cX
  |b::_=>cP {st0 with frames:=[⟨x,b.n,0,ET f.ps args []⟩],globals:=p.gs.map λg=>Ap g.t}
def FK(x:ByteArray):List Vr->Option Nat
 | []=>cX
 |v::r=>if v.n=x then cP 0 else(FK x r).map (· +1)
def BP(s:St)(rest:List Lv)(x:Lv)(d:ByteArray)(v:Vu):St:={s with frames:=rest++[⟨x.f,x.b,x.i+1,if d=Bv then x.vars else Ei x.vars d v⟩]}
def TU(s:St)(rest:List Lv)(x:Lv)(d:ByteArray):Option St:=if d=Bv then cP (BP s rest x d (Bv,0))else cX
def Gd(s:St)(c:Int):St:={s with status:=2,code:=c}
def setAt{α:Type}(l:List α)(k:Nat)(v:α):List α:=l.set k v
def fieldAt(p:Pg)(s:St)(o:Vu)(x:ByteArray):Option (Nat×ByteArray×List Vu×Nat×Vu):=
 if o.1=E9/\1<=o.2 then match s.heap[(o.2-1).toNat]? with
  |none=>cX
  |some ob=>match Ai Cl.n ob.c p.cs with
   |none=>cX
   |some c=>match FK x c.fs with
    |none=>cX
    |some k=>match ob.vs[k]? with
     |none=>cX
     |some v=>cP ((o.2-1).toNat,ob.c,ob.vs,k,v)
 else cX
def bindM:List Vr->List Vu->Vm->Option Vm
 |_,[],m=>cP m
 | [],_::_,_=>cX
 |v::r,u::l,m=>bindM r l (Ei m v.n u)
def JN(s:St)(e:Ev):St:={s with trace:=s.trace++[e],marks:=s.marks++[s.allocs]}
def Em(p:Pg)(c:ByteArray)(l:List Vu):List Vu:=match l with
 | []=>match Ai Cl.n c p.cs with
  |none=> []
  |some k=>k.fs.map λv=>Ap v.t
 |_=>l
def Bq(p:Pg)(ans fails:List Int)(s:St)(rest:List Lv)(x:Lv)(i:Is):Option St:=
 if i.op=25 then cP (BP {s with heap:=s.heap++[⟨i.n,Em p i.n (i.as.map (Ar x.vars))⟩],allocs:=s.allocs+1} rest x i.d (E9,(s.heap.length:Int)+1))
 else if i.op=29 then match FK i.n p.gs with
  |none=>cX
  |some k=>match s.globals[k]? with
   |none=>cX
   |some v=>cP (BP s rest x i.d v)
 else if i.op=31 then match Ai Fn.n i.n p.fs with
  |none=>cX
  |some g=>match g.bs with
   | []=>cX
   |b::_=>match bindM g.ps (i.as.map (Ar x.vars)) []with
    |none=>cX
    |some m=>cP {s with frames:=rest++[x]++[⟨i.n,b.n,0,m⟩]}
 else if i.op=32 then cP (BP {JN s ⟨i.n,i.as.map (λa=>(Ar x.vars a).2),(ans[s.asked.toNat]?).getD 0,cA⟩with asked:=s.asked+1} rest x i.d (BA,(ans[s.asked.toNat]?).getD 0))
 else if i.op=34 then if s.guards∈fails then cP {s with guards:=s.guards+1,status:=4}else TU {s with guards:=s.guards+1} rest x i.d
 else match i.as with
 | []=>cX
 |a::r=>
  if i.op=22 then cP (BP s rest x i.d (Ao,MR (Ar x.vars a).2))
  else if i.op=23 then cP (BP s rest x i.d (BA,CU (Ar x.vars a).2))
  else if i.op=24 then cP (BP s rest x i.d (Ar x.vars a))
  else if i.op=26 then(if(Ar x.vars a).2=0 then cP (Gd s 1)else match fieldAt p s (Ar x.vars a) i.n with
   |none=>cX
   |some q=>cP (BP s rest x i.d q.2.2.2.2))
  else if i.op=30 then match FK i.n p.gs with
   |none=>cX
   |some k=>match s.globals[k]? with
    |none=>cX
    |some _=>TU {s with globals:=setAt s.globals k (Ar x.vars a)} rest x i.d
  else if i.op=33 then TU (JN s ⟨Bv,[(Ar x.vars a).2],0,decide ((Ar x.vars a).1=Ao)⟩) rest x i.d
  else match r with
  | []=>cX
  |b::_=>
   if i.op=27 then(if(Ar x.vars a).2=0 then cP (Gd s 1)else match fieldAt p s (Ar x.vars a) i.n with
    |none=>cX
    |some q=>TU {s with heap:=setAt s.heap q.1 ⟨q.2.1,setAt q.2.2.1 q.2.2.2.1 (Ar x.vars b)⟩} rest x i.d)
   else if i.op=28 then cP (BP s rest x i.d (BA,if(Ar x.vars a).2=(Ar x.vars b).2 then 1 else 0))
   else if 1<=i.op/\i.op<=14 then(if(Kv i.op (Ar x.vars a).2 (Ar x.vars b).2).2=cC then cP (BP s rest x i.d (BA,(Kv i.op (Ar x.vars a).2 (Ar x.vars b).2).1))else cP (Gd s 2))
   else if 15<=i.op/\i.op<=21 then cP (BP s rest x i.d (if i.op<=18 then Ao else BA,(OA i.op (Ar x.vars a).2 (Ar x.vars b).2).1))
   else cX
def H7(f:Fn)(s:St)(rest:List Lv)(x:Lv)(y:ByteArray):Option St:=match Ai Bk.n y f.bs with
 |none=>cX
 |some b=>if b.ps=[]then cP {s with frames:=rest++[⟨x.f,y,0,x.vars⟩]}else cX
def K4(p:Pg)(s:St)(rest:List Lv)(v:Vu):Option St:=match rest.getLast? with
 |none=>cP {s with frames:=[],status:=1,result:=v}
 |some y=>match Ai Fn.n y.f p.fs with
  |none=>cX
  |some g=>match Ai Bk.n y.b g.bs with
   |none=>cX
   |some b=>match b.cs[y.i]? with
    |none=>cX
    |some i=>if i.d=Bv then cX else cP (BP s rest.dropLast y i.d v)
def La(p:Pg)(f:Fn)(s:St)(rest:List Lv)(x:Lv)(t:Tm):Option St:=
 if t.k=1 then match t.to with
  | []=>cX
  |y::_=>H7 f s rest x y
 else if t.k=2 then match t.to with
  |t0::t1::_=>H7 f s rest x (if(Ar x.vars t.a).2=0 then t1 else t0)
  |_=>cX
 else if t.k=3 then K4 p s rest (Ar x.vars t.a)
 else if t.k=4 then cP (Gd s t.n)
 else cX
def xH(p:Pg)(s:St):Option (Lv×Fn×Bk):=match s.frames.getLast? with
 |none=>cX
 |some x=>match Ai Fn.n x.f p.fs with
  |none=>cX
  |some f=>match Ai Bk.n x.b f.bs with
   |none=>cX
   |some b=>cP (x,f,b)
def El(p:Pg)(ans fails:List Int)(s:St)(x:Lv)(f:Fn)(b:Bk):Option St:=
 if x.i=b.cs.length then La p f s s.frames.dropLast x b.e else match b.cs[x.i]? with
  |none=>cX
  |some i=>Bq p ans fails s s.frames.dropLast x i
def H8(x:Lv)(b:Bk):Bool:=decide (x.i=b.cs.length)&&decide (b.e.k=1)
def EP(p:Pg)(ans fails:List Int)(fuel:Int)(s:St)(j:Nat):Option (St×Nat):=match xH p s with
 |none=>cX
 |some (x,f,b)=>
  if H8 x b=cC then(if j=256 then cP ({s with status:=3},j)else(El p ans fails s x f b).map λt=>(t,j+1))
  else if fuel<=s.steps then cP ({s with status:=3},j)
  else(El p ans fails {s with steps:=s.steps+1} x f b).map λt=>(t,0)
def Jg(s:St):St:=if s.status=3 then{s with status:=0}else s
end
def Zl(r:Option ByteArray)(k:Int)(fr:ByteArray)(n:Int):Bool:=
 if k=1 then cC else if k=2 then decide (r=cP BA)else if k=3 then(match r with|some t=>Du t fr|none=>cA)else if k=4 then decide (10<=n)else cA
def Pq(f:Fn)(k:Int)(a:Ag)(n:Int):Bool:=Zl (GJ f a) k f.r n
theorem cK{w0 w:World}(h0:AA6 w0 w){v u1 u2 u3:Value}(hf:EL w0 v f u1 u2 u3)(k:Int)(a:Ag)(p4:Option Addr)(l4 k4:Nat)(n:Int):Calls prog 129 #[v,.agg #[cI cJ k,cI cJ a.k,cS a.s,cI cJ a.n,cY p4 l4 k4,cI cJ n]] w λe w'=>e=.returned (cE (Pq f k a n))/\AA6 w w':=by
 have J6:=hf;obtain⟨rfl,hz,hp,hv,hbk⟩:=hf;obtain⟨p1,k1,rfl⟩:=hp.slice;obtain⟨p2,k2,rfl⟩:=hv.slice;obtain⟨p3,k3,rfl⟩:=hbk.slice;clear hbk hp hv hz;have hb1:=AJ w (.cells #[cS f.n,cS f.r,cY p1 f.ps.length k1,cY p2 f.vs.length k2,cY p3 f.bs.length k3] 66);have hb2:=hb1.alloc hb1.size (.cells #[cI cJ k,cI cJ a.k,cS a.s,cI cJ a.n,cY p4 l4 k4,cI cJ n] 80);have hF:=(Ae.alloc w [cS f.n,cS f.r,cY p1 f.ps.length k1,cY p2 f.vs.length k2,cY p3 f.bs.length k3] 66).al (.cells #[cI cJ k,cI cJ a.k,cS a.s,cI cJ a.n,cY p4 l4 k4,cI cJ n] 80);have hT:=Ae.alloc (w.alloc (.cells #[cS f.n,cS f.r,cY p1 f.ps.length k1,cY p2 f.vs.length k2,cY p3 f.bs.length k3] 66)) [cI cJ k,cI cJ a.k,cS a.s,cI cJ a.n,cY p4 l4 k4,cI cJ n] 80;have hs:(w.alloc (.cells #[cS f.n,cS f.r,cY p1 f.ps.length k1,cY p2 f.vs.length k2,cY p3 f.bs.length k3] 66)).heap.size=w.heap.size+1:=by simp
 rw[hs]at hT;have hC:=Vj (AB h0 hb2) J6 a;clear hb1 hs J6;unfold Pq;generalize GJ f a=r at*;obtain⟨R,hR⟩:∃R:Bool,R=Zl r k f.r n:=⟨_,rfl⟩;rw[<-hR];unfold Zl at hR;go_enter func129,ntmps129;go_wp2_with fail;refine hC.mono ?_;rintro e w1 ⟨hb3,ho⟩;have hb:=AB hb2 hb3;have a1:=(hF.nx hb3).c 1 _ rfl;have b0:=(hT.nx hb3).c 0 _ rfl;have b5:=(hT.nx hb3).c 5 _ rfl;obtain⟨t,ok,rfl,hok⟩:∃(t:ByteArray) (ok:Bool),e=.returned (.tuple #[cS t,cE ok])/\((ok=cC/\r=cP t)\/(ok=cA/\r=cX)):=by
  cases r with
  |none=>exact⟨_,_,ho,.inr ⟨rfl,rfl⟩⟩
  |some t=>exact⟨_,_,ho.1,.inl ⟨rfl,rfl⟩⟩
 clear ho hC hF hT hb2 hb3;by_cases e1:k=1
 ·subst e1;rw[if_pos rfl]at hR;subst hR;clear hok;go_wp2;go_ret;exact⟨rfl,hb⟩
 rw[if_neg e1]at hR;by_cases e2:k=2
 ·subst e2;rw[if_pos rfl]at hR;rcases hok with⟨rfl,rfl⟩|⟨rfl,rfl⟩
  ·by_cases ht:t=BA
   ·have g:=FE (l:=[105,110,116]) ht;obtain rfl:R=cC:=(by rw[hR,ht];rfl);clear ht hR e1;go_wp2;go_ret;exact⟨rfl,hb⟩
   ·have g:=D9 (l:=[105,110,116]) ht;obtain rfl:R=cA:=(by rw[hR];exact decide_eq_false (λh=>ht (by injection h)));clear ht hR e1;go_wp2;go_ret;exact⟨rfl,hb⟩
  ·obtain rfl:R=cA:=(by rw[hR];rfl);clear hR e1;go_wp2;go_ret;exact⟨rfl,hb⟩
 rw[if_neg e2]at hR;by_cases e3:k=3
 ·subst e3;rw[if_pos rfl]at hR;rcases hok with⟨rfl,rfl⟩|⟨rfl,rfl⟩
  ·have hD:=Gt t f.r w1;dsimp only at hR;rw[<-hR]at hD;clear hR e1 e2;go_wp2_with fail;refine hD.mono ?_;rintro e w2 ⟨rfl,rfl⟩;clear hD;cases R
   ·go_wp2;go_ret;exact⟨rfl,hb⟩
   ·go_wp2;go_ret;exact⟨rfl,hb⟩
  ·obtain rfl:R=cA:=hR;clear e1 e2;go_wp2;go_ret;exact⟨rfl,hb⟩
 rw[if_neg e3]at hR;clear hok;by_cases e4:k=4
 ·subst e4;rw[if_pos rfl]at hR;clear e1 e2 e3;by_cases hn:10<=n
  ·obtain rfl:R=cC:=(by rw[hR];exact decide_eq_true hn);clear hR;go_wp2;go_ret;exact⟨rfl,hb⟩
  ·obtain rfl:R=cA:=(by rw[hR];exact decide_eq_false hn);have hn2:decide (10<=n)=cA:=decide_eq_false hn;clear hR hn;go_wp2;go_ret;exact⟨rfl,hb⟩
 rw[if_neg e4]at hR;subst hR;have f1:(k==1)=cA:=by simpa using e1
 have f2:(k==2)=cA:=by simpa using e2
 have f3:(k==3)=cA:=by simpa using e3
 have f4:(k==4)=cA:=by simpa using e4
 clear e1 e2 e3 e4;go_wp2;go_ret;exact⟨rfl,hb⟩
section
open Go.MapKept Go.ChangeMaps
def isIn(T:List ByteArray)(s:ByteArray):Bool:=T.any λy=>decide (y=s)
theorem sZ{T:List ByteArray}{s:ByteArray}(h:s∈T):isIn T s=cC:=by grind [isIn]
theorem su{T:List ByteArray}{s:ByteArray}(h:s∉T):isIn T s=cA:=by grind [isIn]
end
def mW(T:List ByteArray):List ByteArray->Bool
 | []=>cC
 |s::r=>if isIn T s then cA else mW (T++[s]) r
theorem Ip:∀(l T:List ByteArray),mW T l=cC↔(∀s∈l,s∉T)/\l.Nodup
 | [],T=>by simp[mW]
 |s::r,T=>by
  unfold mW;have ih:=Ip r (T++[s]);by_cases h:s∈T
  ·rw[if_pos (sZ h)];simp[h]
  ·rw[if_neg (by rw[su h];simp),ih];simp only[List.mem_append,not_or,List.mem_cons,List.not_mem_nil,or_false,List.nodup_cons];constructor
   ·rintro⟨h1,h2⟩
    exact⟨λx hx=>by
     rcases hx with rfl|hx;· exact h
     ·exact(h1 x hx).1,λhs=>(h1 s hs).2 rfl,h2⟩
   ·rintro⟨h1,h2,h3⟩;exact⟨λx hx=>⟨h1 x (.inr hx),λe=>h2 (e▸hx)⟩,h3⟩
def Cg(p:Pg)(t:ByteArray):Bool:=decide (t=BA)||(decide (t=Ao)||(Ai Cl.n t p.cs).isSome)
def Dv(p:Pg)(l:List Vr):Bool:=l.all (λv=>Cg p v.t)&&mW [] (l.map Vr.n)
def G9(p:Pg):Bool:=mW [] (p.cs.map Cl.n)&& (mW [] (p.xs.map Ex.n)&& (mW [] (p.fs.map Fn.n)&& (Dv p p.gs&& (p.cs.all (λc=>Dv p c.fs)&&p.fs.all (λf=>Cg p f.r&&Dv p (f.ps++f.vs))))))
section
open Num Dp
def okV(h:List Ob)(v:Vu)(t:ByteArray):Prop:=Dq t=cC->v.2=0\/(v.1=E9/\1<=v.2/\∃ob,h[(v.2-1).toNat]? =cP ob/\ob.c=t)
def Ext(h h':List Ob):Prop:=∀(k:Nat) ob,h[k]? =cP ob->∃ob',h'[k]? =cP ob'/\ob'.c=ob.c
def Ext.refl(h:List Ob):Ext h h:=λ_ ob e=>⟨ob,e,rfl⟩
theorem Ext.push(h:List Ob)(o:Ob):Ext h (h++[o]):=by grind [Ext,cases Ob]
theorem Ext.set{h:List Ob}{o:Ob}(hk:h[k]? =cP o)(vs:List Vu):Ext h (h.set k ⟨o.c,vs⟩):=by grind [Ext,cases Ob]
def okV.ext{h h':List Ob}(hv:okV h v t)(he:Ext h h'):okV h' v t:=λht=>by
 rcases hv ht with h0|⟨h1,h2,ob,h3,h4⟩
 ·exact .inl h0
 ·obtain⟨o',h5,h6⟩:=he _ _ h3;exact .inr ⟨h1,h2,o',h5,h6.trans h4⟩
def okV.zero{h:List Ob}(e:v.2=0):okV h v t:=λ_=> .inl e
def okV.plain{h:List Ob}(e:Dq t=cA):okV h v t:=λht=>by rw[e]at ht;cases ht
def JR:Dq BA=cA:=by decide
def Jr:Dq Ao=cA:=by decide
def kC:Dq Fx=cC:=by decide
def RP(i:Is):Prop:=∀fm,BH i.op=cP fm->fm.d=decide (i.d≠Bv)
structure oV(p:Pg)(f:Fn)(b:Bk):Prop where
 ps:b.ps=[]
 cs:∀i∈b.cs,Di p f i=cC/\RP i
 e:Pq f b.e.k b.e.a b.e.n=cC
 to1:b.e.k=1->b.e.to.length=1
 to2:b.e.k=2->b.e.to.length=2
 ways:∀y∈b.e.to,∃b',Ai Bk.n y f.bs=cP b'
structure AA5(p:Pg)(f:Fn):Prop where
 bs:f.bs≠ []
 b:∀b∈f.bs,oV p f b
structure DJ(p:Pg):Prop where
 names:∀c∈p.cs,c.n≠BA/\c.n≠Ao/\c.n≠Fx
 heads:G9 p=cC
 fs:∀f∈p.fs,AA5 p f
structure uY(p:Pg):Prop where
 g:∀v∈p.gs,Cg p v.t=cC
 c:∀c∈p.cs,∀v∈c.fs,Cg p v.t=cC
 r:∀f∈p.fs,Cg p f.r=cC
 v:∀f∈p.fs,∀v∈f.ps++f.vs,Cg p v.t=cC
 n:∀f∈p.fs,((f.ps++f.vs).map Vr.n).Nodup
theorem Yg(p:Pg)(l:List Vr):Dv p l=cC↔(∀v∈l,Cg p v.t=cC)/\(l.map Vr.n).Nodup:=by grind [Dv,Cg,Ip,cases Pg,cases Vr]
theorem DJ.hp(h:DJ p):uY p:=by
 have:=h.heads;unfold G9 at this;simp only[Bool.and_eq_true,List.all_eq_true,Yg]at this;obtain⟨_,_,_,h1,h2,h3⟩:=this;exact⟨h1.1,λc hc=>(h2 c hc).1,λf hf=>(h3 f hf).1,λf hf=>(h3 f hf).2.1,λf hf=>(h3 f hf).2.2⟩
theorem Ak{nm:α->ByteArray}{x:ByteArray}{c:α}:∀{l:List α},Ai nm x l=cP c->c∈l/\nm c=x
 | [],h=>by cases h
 |y::r,h=>by
  unfold Ai at h;by_cases e:nm y=x
  ·rw[if_pos e]at h;injection h with h;subst h;exact⟨by simp,e⟩
  ·rw[if_neg e]at h;obtain⟨h1,h2⟩:=Ak h;exact⟨by simp[h1],h2⟩
theorem fD{nm:α->ByteArray}{y:α}{r:List α}:Ai nm (nm y) (y::r)=cP y:=by grind [Ai]
def Sd(hg:DJ p)(hk:Cg p t=cC)(hr:Dq t=cC):(∃c,Ai Cl.n t p.cs=cP c)/\t≠Fx:=by
 unfold Cg at hk;unfold Dq at hr;simp only[Bool.and_eq_true,decide_eq_true_eq]at hr;simp only[Bool.or_eq_true,decide_eq_true_eq,hr.1,hr.2,false_or]at hk;obtain⟨c,hc⟩:=Option.isSome_iff_exists.1 hk;obtain⟨h1,h2⟩:=Ak hc;exact⟨⟨c,hc⟩,h2▸(hg.names c h1).2.2⟩
theorem R7(hg:DJ p){c:Cl}(hc:Ai Cl.n t p.cs=cP c):Dq t=cC/\c.n=t:=by grind [Ai,Dq,Ak,cases Pg,cases DJ,cases Cl]
theorem KP{x:ByteArray}{v:Vr}(h:varOf f x=cP v):v∈f.ps++f.vs/\v.n=x:=by
 unfold varOf at h;grind [Ak,cases Fn,cases Vr]
theorem V8{x y:ByteArray}(hy:y≠x):∀(m:Vm) (v:Vu),(Ei m x v).find? (λz=>decide (z.1=y))=m.find? (λz=>decide (z.1=y))
 | [],v=>by
  have:¬x=y:=λe=>hy e.symm
  simp[Ei,this]
 |z::r,v=>by
  unfold Ei;by_cases e:z.1=x
  ·have:¬x=y:=λh=>hy h.symm;rw[if_pos e,List.find?_cons,List.find?_cons];simp[this,e]
  ·rw[if_neg e,List.find?_cons,List.find?_cons,V8 hy r v]
theorem find_eq{x:ByteArray}:∀(m:Vm) (v:Vu),(Ei m x v).find? (λz=>decide (z.1=x))=cP (x,v)
 | [],v=>by simp[Ei]
 |z::r,v=>by
  unfold Ei;by_cases e:z.1=x
  ·rw[if_pos e,List.find?_cons];simp
  ·rw[if_neg e,List.find?_cons,find_eq r v];simp[e]
theorem J2(m:Vm)(x:ByteArray)(v:Vu)(y:ByteArray):getM (Ei m x v) y=if y=x then v else getM m y:=by
 unfold getM;by_cases e:y=x
 ·subst e;rw[find_eq,if_pos rfl]
 ·rw[V8 e,if_neg e]
def EO(f:Fn)(h:List Ob)(m:Vm):Prop:=∀x v,varOf f x=cP v->okV h (getM m x) v.t
theorem EO.ext{h h':List Ob}(a:EO f h m)(he:Ext h h'):EO f h' m:=λx v hx=>(a x v hx).ext he
theorem EO.put{h:List Ob}(a:EO f h m){x:ByteArray}{u:Vu}(hu:∀v,varOf f x=cP v->okV h u v.t):EO f h (Ei m x u):=by grind [EO,varOf,okV,Ei,J2,cases Fn,cases Ob]
theorem QB(hg:DJ p)(hf:f∈p.fs){h:List Ob}(hm:EO f h m){a:Ag}{t':ByteArray}(ht:GJ f a=cP t)(hfit:Du t t'=cC):okV h (Ar m a) t':=by
 unfold GJ at ht;unfold Ar;by_cases h1:a.k=1
 ·rw[if_pos h1]at ht⊢
  cases hv:varOf f a.s with
  |none=>rw[hv]at ht;cases ht
  |some v=>
   rw[hv]at ht;obtain rfl:v.t=t:=(by simpa using ht);have hok:=hm _ _ hv;unfold Du at hfit;rw[Bool.or_eq_true,Bool.and_eq_true,decide_eq_true_eq,decide_eq_true_eq]at hfit;rcases hfit with e|⟨e,_⟩
   ·rw[<-e];exact hok
   ·exfalso;have hk:=hg.hp.v f hf v (KP hv).1;exact(Sd hg hk (by rw[e];exact kC)).2 e
 rw[if_neg h1]at ht⊢;by_cases h2:a.k=2
 ·rw[if_pos h2]at ht⊢;obtain rfl:BA=t:=by simpa using ht
  have:t'=BA:=by
   unfold Du at hfit;rw[Bool.or_eq_true,Bool.and_eq_true,decide_eq_true_eq,decide_eq_true_eq]at hfit;rcases hfit with e|⟨e,_⟩
   ·exact e.symm
   ·exact absurd e (by decide)
  subst this;exact .plain JR
 rw[if_neg h2]at ht⊢;by_cases h3:a.k=3
 ·rw[if_pos h3]at ht⊢;obtain rfl:Ao=t:=by simpa using ht
  have:t'=Ao:=by
   unfold Du at hfit;rw[Bool.or_eq_true,Bool.and_eq_true,decide_eq_true_eq,decide_eq_true_eq]at hfit;rcases hfit with e|⟨e,_⟩
   ·exact e.symm
   ·exact absurd e (by decide)
  subst this;exact .plain Jr
 rw[if_neg h3];exact .zero rfl
def iZ(p:Pg)(h:List Ob)(ob:Ob):Prop:=∃c,Ai Cl.n ob.c p.cs=cP c/\ob.vs.length=c.fs.length/\∀(k:Nat) v x,ob.vs[k]? =cP v->c.fs[k]? =cP x->okV h v x.t
def KM(p:Pg)(h:List Ob):Prop:=∀ob∈h,iZ p h ob
def MV(p:Pg)(h:List Ob)(g:List Vu):Prop:=g.length=p.gs.length/\∀(k:Nat) v x,g[k]? =cP v->p.gs[k]? =cP x->okV h v x.t
theorem iZ.ext{h h':List Ob}{ob:Ob}(a:iZ p h ob)(he:Ext h h'):iZ p h' ob:=by
 obtain⟨c,h1,h2,h3⟩:=a;exact⟨c,h1,h2,λk v x hv hx=>(h3 k v x hv hx).ext he⟩
theorem MV.ext{h h':List Ob}{g:List Vu}(a:MV p h g)(he:Ext h h'):MV p h' g:=⟨a.1,λk v x hv hx=>(a.2 k v x hv hx).ext he⟩
def Ca(p:Pg)(h:List Ob)(x:Lv)(f:Fn)(b:Bk):Prop:=Ai Fn.n x.f p.fs=cP f/\Ai Bk.n x.b f.bs=cP b/\x.i<=b.cs.length/\EO f h x.vars
def mO(p:Pg)(x y:Lv):Prop:=∃f b i,Ai Fn.n x.f p.fs=cP f/\Ai Bk.n x.b f.bs=cP b/\b.cs[x.i]? =cP i/\i.op=31/\i.n=y.f
def Dn(p:Pg)(h:List Ob):List Lv->Prop
 | []=>True
 | [x]=>∃f b,Ca p h x f b
 |y::x::r=>(∃f b,Ca p h y f b)/\mO p x y/\Dn p h (x::r)
theorem Dn.ext{h h':List Ob}(he:Ext h h'):∀{l:List Lv},Dn p h l->Dn p h' l
 | [],_=>trivial
 | [_],⟨f,b,h1,h2,h3,h4⟩=>⟨f,b,h1,h2,h3,h4.ext he⟩
 |_::_::_,⟨⟨f,b,h1,h2,h3,h4⟩,hc,hr⟩=>⟨⟨f,b,h1,h2,h3,h4.ext he⟩,hc,Dn.ext he hr⟩
def Dn.top{h:List Ob}{y:Lv}:∀{l:List Lv},Dn p h (y::l)->∃f b,Ca p h y f b
 | [],hs=>hs
 |_::_,hs=>hs.1
theorem Dn.turn{h:List Ob}{y y':Lv}(hf:y'.f=y.f)(hy:∃f b,Ca p h y' f b):∀{l:List Lv},Dn p h (y::l)->Dn p h (y'::l)
 | [],_=>hy
 |x::r,hs=>by
  obtain⟨_,⟨f,b,i,h1,h2,h3,h4,h5⟩,hr⟩:=hs;exact⟨hy,⟨f,b,i,h1,h2,h3,h4,h5.trans hf.symm⟩,hr⟩
structure WT(p:Pg)(s:St):Prop where
 heap:KM p s.heap
 glob:MV p s.heap s.globals
 frames:Dn p s.heap s.frames.reverse
 live:s.status=0->s.frames≠ []
end
section
open Num Dp
def JA{x:ByteArray}:∀{l:List Vr} {v:Vr},Ai Vr.n x l=cP v->∃k,FK x l=cP k/\l[k]? =cP v
 | [],v,h=>by cases h
 |y::r,v,h=>by
  unfold Ai at h;unfold FK;by_cases e:y.n=x
  ·rw[if_pos e]at h⊢;exact⟨0,rfl,by simpa using h⟩
  ·rw[if_neg e]at h⊢;obtain⟨k,h1,h2⟩:=JA h;exact⟨k+1,by rw[h1];rfl,by simpa using h2⟩
def Gx(h:Di p f i=cC):∃fm d l,BH i.op=cP fm/\(fm.l<=(i.as.length:Int)/\(i.as.length:Int)<=fm.m)/\Ib f i fm=cP d/\DU f i.as=cP l/\l.length=i.as.length/\Av p i d l=cC:=by
 unfold Di at h
 cases ha:RL f i with
 |none=>rw[ha]at h;cases h
 |some q=>
  rw[ha]at h;obtain⟨d,l⟩:=q;unfold RL at ha
  cases h1:BH i.op with
  |none=>rw[h1]at ha;cases ha
  |some fm=>
   rw[h1]at ha;dsimp only at ha;by_cases h2:(i.as.length:Int)<fm.l\/fm.m<i.as.length
   ·rw[if_pos h2]at ha;cases ha
   ·rw[if_neg h2]at ha
    cases h3:Ib f i fm with
    |none=>rw[h3]at ha;cases ha
    |some d2=>
     rw[h3]at ha;dsimp only at ha
     cases h4:DU f i.as with
     |none=>rw[h4]at ha;cases ha
     |some l2=>
      rw[h4]at ha;injection ha with ha;injection ha with e1 e2;subst e1 e2;exact⟨fm,d2,l2,rfl,by omega,h3,rfl,KR f _ _ h4,h⟩
theorem Gh:∀{ar:List Ag} {l:List ByteArray},DU f ar=cP l->∀(k:Nat) a,ar[k]? =cP a->∃t,l[k]? =cP t/\GJ f a=cP t
 | [],l,h,k,a,ha=>by simp at ha
 |b::r,l,h,k,a,ha=>by
  simp only[DU]at h
  cases h1:GJ f b with
  |none=>rw[h1]at h;cases h
  |some t=>
   rw[h1]at h;dsimp only at h
   cases h2:DU f r with
   |none=>rw[h2]at h;cases h
   |some l2=>
    rw[h2]at h;injection h with h;subst h
    cases k with
    |zero=>
     obtain rfl:b=a:=by simpa using ha
     exact⟨t,rfl,h1⟩
    |succ k=>exact Gh h2 k a (by simpa using ha)
def WB(h:Ib f i fm=cP d)(hd:fm.d=cC):∃v,varOf f i.d=cP v/\v.t=d:=by simp_all[Ib,varOf,cX]
section
variable {p : Pg} {s : St} {f : Fn} {b : Bk} {x : Lv} {rest : List Lv} {i : Is}
def QC(hh:KM p s.heap)(hgl:MV p s.heap s.globals)(_:s.status=0){h0:List Ob}(he:Ext h0 s.heap)(hs:Dn p h0 (x::rest.reverse))(hx:Ca p h0 x f b)(hi:b.cs[x.i]? =cP i)(hv:d≠Bv->∀y,varOf f d=cP y->okV s.heap v y.t):WT p (BP s rest x d v) where
 heap:=hh
 glob:=hgl
 frames:=by
  unfold BP;simp only[List.reverse_append,List.reverse_cons,List.reverse_nil,List.nil_append,List.singleton_append];refine Dn.turn (y:=x) (y':=⟨x.f,x.b,x.i+1,if d=Bv then x.vars else Ei x.vars d v⟩) rfl ⟨f,b,hx.1,hx.2.1,?_,?_⟩ (hs.ext he)
  ·have:=(List.getElem?_eq_some_iff.1 hi).1;dsimp only;omega
  ·dsimp only;by_cases e:d=Bv
   ·rw[if_pos e];exact hx.2.2.2.ext he
   ·rw[if_neg e];exact(hx.2.2.2.ext he).put (hv e)
 live:=λ_=>by unfold BP;simp
theorem Jl(hd:RP i)(hf:BH i.op=cP fm)(h:fm.d=cA):i.d=Bv:=by
 have:=hd fm hf;grind
theorem jX(hd:RP i)(hf:BH i.op=cP fm)(h:fm.d=cC):i.d≠Bv:=by
 have:=hd fm hf;grind
theorem KG(hw:WT p s)(hfr:s.frames=rest++[x])(hst:s.status=0)(hx:Ca p s.heap x f b)(hi:b.cs[x.i]? =cP i)(hd:Ib f i fm=cP d)(FJ:fm.d=cC)(hv:okV s.heap v d):WT p (BP s rest x i.d v):=by
 have hs:=hw.frames;rw[hfr]at hs;simp only[List.reverse_append,List.reverse_cons,List.reverse_nil,List.nil_append,List.singleton_append]at hs;refine QC hw.heap hw.glob hst (Ext.refl _) hs hx hi λ_ y hy=>?_;obtain⟨u,h1,h2⟩:=WB hd FJ;grind
def go_ok(hw:WT p s)(hfr:s.frames=rest++[x])(hst:s.status=0)(hx:Ca p s.heap x f b)(hi:b.cs[x.i]? =cP i)(hd:i.d=Bv):∃t,TU s rest x i.d=cP t/\WT p t:=by
 have hs:=hw.frames;rw[hfr]at hs;simp only[List.reverse_append,List.reverse_cons,List.reverse_nil,List.nil_append,List.singleton_append]at hs;unfold TU;rw[if_pos hd];exact⟨_,rfl,QC hw.heap hw.glob hst (Ext.refl _) hs hx hi λe=>absurd hd e⟩
def Lh(hw:WT p s)(c:Int):WT p (Gd s c):=⟨hw.heap,hw.glob,hw.frames,λe=>absurd e (show¬(2:Int)=0 by decide)⟩
end
theorem R8(hg:DJ p){g:Fn}(hf:f∈p.fs){h:List Ob}(hm:EO f h m):∀(ps:List Vr) (ar:List Ag) (l:List ByteArray) (m0:Vm),DU f ar=cP l->FZ l ps=cC->(ps.map Vr.n).Nodup->
  (∀v∈ps,getM m0 v.n=(Bv,0))->∃m1,bindM ps (ar.map (Ar m)) m0=cP m1/\(∀v∈ps,okV h (getM m1 v.n) v.t)/\∀y,(∀v∈ps,v.n≠y)->getM m1 y=getM m0 y
 |ps,[],l,m0,ht,hfit,_,_=>by
  obtain rfl:[]=l:=by simpa[DU]using ht
  cases ps with
  |nil=>exact⟨m0,by cases m0<;>rfl,λv hv=>by simp at hv,λ_ _=>rfl⟩
  |cons v r=>simp[FZ]at hfit
 | [],a::r,l,m0,ht,hfit,_,_=>by
  have hl:=KR f _ _ ht
  cases l with
  |nil=>simp at hl
  |cons t l=>simp[FZ]at hfit
 |v::ps,a::r,l,m0,ht,hfit,hn,h0=>by
  simp only[DU]at ht
  cases h1:GJ f a with
  |none=>rw[h1]at ht;cases ht
  |some t=>
   rw[h1]at ht;dsimp only at ht
   cases h2:DU f r with
   |none=>rw[h2]at ht;cases ht
   |some l2=>
    rw[h2]at ht;injection ht with ht;subst ht;unfold FZ at hfit;rw[Bool.and_eq_true]at hfit;rw[List.map_cons,List.nodup_cons]at hn;have hne:∀u∈ps,u.n≠v.n:=λu hu e=>hn.1 (e▸List.mem_map.2 ⟨u,hu,rfl⟩)
    obtain⟨m1,e1,e2,e3⟩:=R8 hg (g:=g) hf hm ps r l2 (Ei m0 v.n (Ar m a)) h2 hfit.2 hn.2 (λu hu=>by
     rw[J2,if_neg (hne u hu)]
     exact h0 u (by simp[hu]))
    refine⟨m1,by rw[List.map_cons];unfold bindM;exact e1,λu hu=>?_,λy hy=>?_⟩
    ·rcases List.mem_cons.1 hu with rfl|hu
     ·rw[e3 _ hne,J2,if_pos rfl];exact QB hg hf hm h1 hfit.1
     ·exact e2 u hu
    ·rw[e3 y (λu hu=>hy u (by simp[hu])),J2,if_neg (λe=>hy v (by simp) e.symm)]
theorem Yl(hg:DJ p){g:Fn}(hf:f∈p.fs)(hgm:g∈p.fs){h:List Ob}(hm:EO f h m){ar:List Ag}{l:List ByteArray}(ht:DU f ar=cP l)(hfit:FZ l g.ps=cC):∃m1,bindM g.ps (ar.map (Ar m)) []=cP m1/\EO g h m1:=by
 have hn:=hg.hp.n g hgm;rw[List.map_append,List.nodup_append]at hn;obtain⟨m1,e1,e2,e3⟩:=R8 hg (g:=g) hf hm g.ps ar l [] ht hfit hn.1 (λ_ _=>rfl);refine⟨m1,e1,λx v hx=>?_⟩;obtain⟨h1,rfl⟩:=KP hx;rcases List.mem_append.1 h1 with h1|h1
 ·exact e2 v h1
 ·rw[e3 v.n (λu hu e=>hn.2.2 u.n (List.mem_map.2 ⟨u,hu,rfl⟩) v.n (List.mem_map.2 ⟨v,h1,rfl⟩) e)];exact .zero rfl
theorem Sk:∀{l:List ByteArray} {vs:List Vr},FZ l vs=cC->l.length=vs.length:=by grind [J3,cases Vr]
theorem V7:∀{l:List ByteArray} {vs:List Vr},FZ l vs=cC->∀(k:Nat) t v,l[k]? =cP t->vs[k]? =cP v->Du t v.t=cC
 | [],_,_,k,t,v,h,_=>by simp at h
 |_::_,[],_,k,t,v,_,h=>by simp at h
 |a::r,w::s,hf,k,t,v,h1,h2=>by
  unfold FZ at hf;rw[Bool.and_eq_true]at hf
  cases k with
  |zero=>
   obtain rfl:a=t:=(by simpa using h1);obtain rfl:w=v:=by simpa using h2
   exact hf.1
  |succ k=>exact V7 hf.2 k t v (by simpa using h1) (by simpa using h2)
def Ke(h:List Ob)(t t':ByteArray):okV h (Ap t) t':=.zero (by unfold Ap;split<;>rfl)
theorem I6(h:BH op=cP fm):(1<=op/\op<=21)\/op=22\/op=23\/op=24\/op=25\/op=26\/op=27\/op=28\/op=29\/op=30\/op=31\/op=32\/op=33\/op=34:=by grind [BH,cases Fm]
def PD(h:BH op=cP fm):fm.m<=8:=by
 rcases I6 h with h1|h1|h1|h1|h1|h1|h1|h1|h1|h1|h1|h1|h1|h1
 ·unfold BH at h;rw[if_pos h1]at h;injection h with h;subst h;decide
 all_goals (subst h1;simp[BH]at h;subst h;decide)
def Fg{l:List α}(h:l.length=1):∃a,l=[a]:=List.length_eq_one_iff.1 h
def MP{l:List α}(h:l.length=2):∃a b,l=[a,b]:=by
 match l,h with
 | [a,b],_=>exact⟨a,b,rfl⟩
theorem all_eq{l:List ByteArray}{a e:ByteArray}(h:FP l a d e=cC):d=e:=by grind [FP]
def R4(hg:DJ p){s:St}(hh:KM p s.heap)(hm:EO f s.heap m){a:Ag}{r:Vr}(ht:GJ f a=cP t)(hq:GN p i a t=cP r)(h0:(Ar m a).2≠0):∃k c vs q v,fieldAt p s (Ar m a) i.n=cP (k,c,vs,q,v)/\s.heap[k]? =cP ⟨c,vs⟩/\vs[q]? =cP v/\okV s.heap v r.t/\∃cl,Ai Cl.n c p.cs=cP cl/\cl.fs[q]? =cP r/\vs.length=cl.fs.length:=by
 unfold GN at hq;by_cases hk:a.k=1
 ·rw[if_pos hk]at hq;unfold EH at hq
  cases hc:Ai Cl.n t p.cs with
  |none=>rw[hc]at hq;cases hq
  |some cl=>
   rw[hc]at hq;dsimp only at hq;have hval:Ar m a=getM m a.s:=(by unfold Ar;rw[if_pos hk]);have hok:okV s.heap (Ar m a) t:=by
    unfold GJ at ht;rw[if_pos hk]at ht
    cases hv:varOf f a.s with
    |none=>rw[hv]at ht;cases ht
    |some v=>
     rw[hv]at ht;obtain rfl:v.t=t:=(by simpa using ht);rw[hval];exact hm _ _ hv
   rcases hok (R7 hg hc).1 with e|⟨h1,h2,ob,h3,h4⟩
   ·exact absurd e h0
   ·obtain⟨q,hq1,hq2⟩:=JA hq;obtain⟨c2,g1,g2,g3⟩:=hh ob (List.mem_of_getElem? h3);rw[h4,hc]at g1;obtain rfl:cl=c2:=(by simpa using g1);have hql:=(List.getElem?_eq_some_iff.1 hq2).1;have hv:ob.vs[q]? =cP (ob.vs[q]'(by omega)):=(by simp);refine⟨((Ar m a).2-1).toNat,ob.c,ob.vs,q,_,?_,h3,hv,g3 q _ r hv hq2,cl,by rw[h4];exact hc,hq2,g2⟩;unfold fieldAt;rw[if_pos ⟨h1,h2⟩,h3];dsimp only;rw[h4,hc];dsimp only;rw[hq1];dsimp only;rw[hv]
 ·rw[if_neg hk]at hq;cases hq
end
section
open Num Dp
section
variable {p : Pg} {s : St} {f : Fn} {b : Bk} {x : Lv} {rest : List Lv} {i : Is}
def WT.other{s s':St}(hw:WT p s)(h1:s'.heap=s.heap)(h2:s'.globals=s.globals)(h3:s'.frames=s.frames)(h4:s'.status=s.status):WT p s':=⟨by rw[h1];exact hw.heap,by rw[h1,h2];exact hw.glob,by rw[h1,h3];exact hw.frames,by rw[h4,h3];exact hw.live⟩
def WT.V4(hw:WT p s){h':List Ob}(hh:KM p h')(he:Ext s.heap h'):WT p {s with heap:=h'}:=⟨hh,hw.glob.ext he,hw.frames.ext he,hw.live⟩
theorem Mx(h:BH op=cP fm):fm.d=decide (op≠27/\op≠30/\op≠33/\op≠34):=by
 rcases I6 h with h1|h1|h1|h1|h1|h1|h1|h1|h1|h1|h1|h1|h1|h1
 ·have:1<=op/\op<=21:=h1;unfold BH at h;rw[if_pos this]at h;injection h with h;subst h;have:op≠27/\op≠30/\op≠33/\op≠34:=by omega
  simp[this]
 all_goals (subst h1;simp[BH]at h;subst h;simp)
theorem eD(hg:DJ p)(hw:WT p s)(hfr:s.frames=rest++[x])(hst:s.status=0)(hx:Ca p s.heap x f b)(hi:b.cs[x.i]? =cP i)(ans fails:List Int):∃t,Bq p ans fails s rest x i=cP t/\WT p t:=by
 have hf:f∈p.fs:=(Ak hx.1).1;have hb:b∈f.bs:=(Ak hx.2.1).1;obtain⟨Zc,hdst⟩:=((hg.fs f hf).b b hb).cs i (List.mem_of_getElem? hi);obtain⟨fm,d,l,hfo,hlen,hd,hts,hll,hq⟩:=Gx Zc;have hm:EO f s.heap x.vars:=hx.2.2.2;have FJ:=Mx hfo;have val:∀(k:Nat) a t t',i.as[k]? =cP a->l[k]? =cP t->Du t t'=cC->okV s.heap (Ar x.vars a) t':=λk a t t' ha ht hfit=>by
  obtain⟨t2,h1,h2⟩:=Gh hts k a ha;rw[ht]at h1;injection h1 with h1;subst h1;exact QB hg hf hm h2 hfit
 have Gu:∀{v:Vu},fm.d=cC->(Dq d=cA)->∃t,cP (BP s rest x i.d v)=cP t/\WT p t:=λh1 h2=>⟨_,rfl,KG hw hfr hst hx hi hd h1 (.plain h2)⟩;rcases I6 hfo with h1|h1|h1|h1|h1|h1|h1|h1|h1|h1|h1|h1|h1|h1
 ·
  have hfm:fm=⟨cC,cA,2,2⟩:=by
   unfold BH at hfo;rw[if_pos h1]at hfo;injection hfo with hfo;exact hfo.symm
  subst hfm;have h2:i.as.length=2:=by dsimp only at hlen;omega
  obtain⟨a,c,hac⟩:=MP h2;have hrf:Dq d=cA:=by
   unfold Av BX at hq;by_cases VO:i.op<=14
   ·rw[if_pos VO]at hq;rw[all_eq hq];exact JR
   ·rw[if_neg VO]at hq;by_cases h18:i.op<=18
    ·rw[if_pos h18]at hq;rw[all_eq hq];exact Jr
    ·rw[if_neg h18,if_pos h1.2]at hq;rw[all_eq hq];exact JR
  unfold Bq;iterate 5 rw[if_neg (by omega)]
  rw[hac];dsimp only;iterate 6 rw[if_neg (by omega)]
  rw[if_neg (by omega),if_neg (by omega)];by_cases VO:i.op<=14
  ·rw[if_pos ⟨h1.1,VO⟩];by_cases hz:(Kv i.op (Ar x.vars a).2 (Ar x.vars c).2).2=cC
   ·rw[if_pos hz];exact Gu rfl hrf
   ·rw[if_neg hz];exact⟨_,rfl,Lh hw 2⟩
  ·rw[if_neg (by omega),if_pos (by omega)];exact Gu rfl hrf
 ·
  have hfm:fm.d=cC:=by rw[FJ,h1];decide
  have hrf:Dq d=cA:=by
   unfold Av BX at hq;rw[h1]at hq;simp only[show¬(22:Int)<=14 by decide,show¬(22:Int)<=18 by decide,show¬(22:Int)<=21 by decide,if_false,if_true]at hq;rw[all_eq hq];exact Jr
  have h2:i.as.length=1:=by
   rw[h1]at hfo;simp[BH]at hfo;subst hfo;dsimp only at hlen;omega
  obtain⟨a,hac⟩:=Fg h2;unfold Bq;rw[h1,hac];exact Gu hfm hrf
 ·
  have hfm:fm.d=cC:=by rw[FJ,h1];decide
  have hrf:Dq d=cA:=by
   unfold Av BX at hq;rw[h1]at hq;simp only[show¬(23:Int)<=14 by decide,show¬(23:Int)<=18 by decide,show¬(23:Int)<=21 by decide,show¬(23:Int)=22 by decide,if_false,if_true]at hq;rw[all_eq hq];exact JR
  have h2:i.as.length=1:=by
   rw[h1]at hfo;simp[BH]at hfo;subst hfo;dsimp only at hlen;omega
  obtain⟨a,hac⟩:=Fg h2;unfold Bq;rw[h1,hac];exact Gu hfm hrf
 ·
  have hfm:fm.d=cC:=by rw[FJ,h1];decide
  have h2:i.as.length=1:=by
   rw[h1]at hfo;simp[BH]at hfo;subst hfo;dsimp only at hlen;omega
  obtain⟨a,hac⟩:=Fg h2;have hl0:∃t,l=[t]:=Fg (hll.trans h2);obtain⟨t,rfl⟩:=hl0;have hfit:Du t d=cC:=by
   unfold Av BX at hq;rw[h1]at hq;simpa using hq
  unfold Bq;rw[h1,hac];exact⟨_,rfl,KG hw hfr hst hx hi hd hfm (val 0 a t d (by rw[hac];rfl) rfl hfit)⟩
 ·
  have hfm:fm.d=cC:=by rw[FJ,h1];decide
  have hmd:Kz p i d l=cC:=by
   unfold Av BX at hq;rw[h1]at hq;simpa using hq
  unfold Kz at hmd
  cases hc:Ai Cl.n i.n p.cs with
  |none=>rw[hc]at hmd;cases hmd
  |some c=>
   rw[hc]at hmd;rw[Bool.and_eq_true,decide_eq_true_eq,Bool.or_eq_true,decide_eq_true_eq]at hmd;have hcn:=(R7 hg hc).2;have Nc:∀(k:Nat) (v:Vu) (y:Vr),(Em p i.n (i.as.map (Ar x.vars)))[k]? =cP v->c.fs[k]? =cP y->okV s.heap v y.t:=by
    intro k v y hv hy;unfold Em at hv
    cases has:i.as with
    |nil=>
     rw[has,List.map_nil,hc]at hv;dsimp only at hv;rw[List.getElem?_map,hy]at hv;obtain rfl:Ap y.t=v:=by simpa using hv
     exact Ke _ _ _
    |cons a r=>
     rw[has,List.map_cons]at hv;dsimp only at hv;rw[<-List.map_cons,<-has,List.getElem?_map]at hv
     cases ha:i.as[k]? with
     |none=>rw[ha]at hv;cases hv
     |some a2=>
      rw[ha]at hv;obtain rfl:Ar x.vars a2=v:=(by simpa using hv);have hfit:FZ l c.fs=cC:=by
       rcases hmd.2 with e|e
       ·rw[hll,has]at e;simp at e
       ·exact e
      obtain⟨t,ht,_⟩:=Gh hts k a2 ha;exact val k a2 t y.t ha ht (V7 hfit k t y ht hy)
   have EU:(Em p i.n (i.as.map (Ar x.vars))).length=c.fs.length:=by
    unfold Em
    cases has:i.as with
    |nil=>rw[List.map_nil,hc];simp
    |cons a r=>
     rw[List.map_cons];dsimp only;rcases hmd.2 with e|e
     ·rw[hll,has]at e;simp at e
     ·have:=Sk e;rw[hll,has]at this;simpa using this
   have he:=Ext.push s.heap ⟨i.n,Em p i.n (i.as.map (Ar x.vars))⟩;have hh:KM p (s.heap++[⟨i.n,Em p i.n (i.as.map (Ar x.vars))⟩]):=λob qQ=>by
    rcases List.mem_append.1 qQ with h|h
    ·exact(hw.heap ob h).ext he
    ·obtain rfl:ob=_:=(by simpa using h);exact⟨c,hc,EU,λk v y hv hy=>(Nc k v y hv hy).ext he⟩
   have hw2:WT p {s with heap:=s.heap++[⟨i.n,Em p i.n (i.as.map (Ar x.vars))⟩],allocs:=s.allocs+1}:=(hw.V4 hh he).other rfl rfl rfl rfl;unfold Bq;rw[h1,if_pos rfl];refine⟨_,rfl,?_⟩;refine KG (f:=f) (b:=b) hw2 hfr hst ⟨hx.1,hx.2.1,hx.2.2.1,hm.ext he⟩ hi hd hfm λ_=> .inr ⟨rfl,?_,⟨i.n,Em p i.n (i.as.map (Ar x.vars))⟩,?_,?_⟩
   ·dsimp only;omega
   ·dsimp only;rw[show(((s.heap.length:Int)+1)-1).toNat=s.heap.length by omega];simp
   ·rw[hmd.1];exact hcn.symm
 ·
  have hfm:fm.d=cC:=by rw[FJ,h1];decide
  have h2:i.as.length=1:=by
   rw[h1]at hfo;simp[BH]at hfo;subst hfo;dsimp only at hlen;omega
  obtain⟨a,hac⟩:=Fg h2;obtain⟨t,rfl⟩:=Fg (hll.trans h2);obtain⟨t2,e1,u7⟩:=Gh hts 0 a (by rw[hac];rfl);obtain rfl:t=t2:=by simpa using e1
  have hty:Ql d (GN p i a t)=cC:=by
   unfold Av BX at hq;rw[h1,hac]at hq;simpa using hq
  cases hr:GN p i a t with
  |none=>rw[hr]at hty;cases hty
  |some r=>
   rw[hr]at hty;have hty:r.t=d:=(by simpa[Ql]using hty);unfold Bq;rw[h1,hac];simp only[show¬(26:Int)=25 by decide,show¬(26:Int)=29 by decide,show¬(26:Int)=31 by decide,show¬(26:Int)=32 by decide,show¬(26:Int)=34 by decide,show¬(26:Int)=22 by decide,show¬(26:Int)=23 by decide,show¬(26:Int)=24 by decide,if_false,if_true];by_cases h0:(Ar x.vars a).2=0
   ·rw[if_pos h0];exact⟨_,rfl,Lh hw 1⟩
   ·rw[if_neg h0];obtain⟨k,c,vs,q,v,g1,g2,g3,g4,_⟩:=R4 hg hw.heap hm u7 hr h0;rw[g1];exact⟨_,rfl,KG hw hfr hst hx hi hd hfm (hty▸g4)⟩
 ·
  have hno:i.d=Bv:=Jl hdst hfo (by rw[FJ,h1];decide);have h2:i.as.length=2:=by
   rw[h1]at hfo;simp[BH]at hfo;subst hfo;dsimp only at hlen;omega
  obtain⟨a,c2,hac⟩:=MP h2;obtain⟨t,t2,rfl⟩:=MP (hll.trans h2);obtain⟨t3,e1,u7⟩:=Gh hts 0 a (by rw[hac];rfl);obtain rfl:t=t3:=by simpa using e1
  have hty:Td t2 (GN p i a t)=cC:=by
   unfold Av BX at hq;rw[h1,hac]at hq;simpa using hq
  cases hr:GN p i a t with
  |none=>rw[hr]at hty;cases hty
  |some r=>
   rw[hr]at hty;have hty:Du t2 r.t=cC:=hty;unfold Bq;rw[h1,hac];simp only[show¬(27:Int)=25 by decide,show¬(27:Int)=29 by decide,show¬(27:Int)=31 by decide,show¬(27:Int)=32 by decide,show¬(27:Int)=34 by decide,show¬(27:Int)=22 by decide,show¬(27:Int)=23 by decide,show¬(27:Int)=24 by decide,show¬(27:Int)=26 by decide,show¬(27:Int)=30 by decide,show¬(27:Int)=33 by decide,if_false,if_true];by_cases h0:(Ar x.vars a).2=0
   ·rw[if_pos h0];exact⟨_,rfl,Lh hw 1⟩
   ·rw[if_neg h0];obtain⟨k,c,vs,q,v,g1,g2,g3,g4,cl,g5,g6,g7⟩:=R4 hg hw.heap hm u7 hr h0;rw[g1];dsimp only;have he:Ext s.heap (setAt s.heap k ⟨c,setAt vs q (Ar x.vars c2)⟩):=Ext.set g2 _;have hv2:okV s.heap (Ar x.vars c2) r.t:=val 1 c2 t2 r.t (by rw[hac];rfl) rfl hty;have hh:KM p (setAt s.heap k ⟨c,setAt vs q (Ar x.vars c2)⟩):=λob qQ=>by
     rcases List.mem_or_eq_of_mem_set qQ with h|rfl
     ·exact(hw.heap ob h).ext he
     ·obtain⟨cl2,j1,j2,j3⟩:=hw.heap _ (List.mem_of_getElem? g2);refine⟨cl2,j1,by unfold setAt;rw[List.length_set];exact j2,λn u y hu hy=>?_⟩;dsimp only at j1 hu;rw[g5]at j1;obtain rfl:cl=cl2:=(by simpa using j1);unfold setAt at hu;by_cases hn:n=q
      ·subst hn;rw[List.getElem?_set_self (List.getElem?_eq_some_iff.1 g3).1]at hu;injection hu with hu;subst hu;rw[g6]at hy;injection hy with hy;subst hy;exact hv2.ext he
      ·rw[List.getElem?_set_ne (λe=>hn e.symm)]at hu;exact(j3 n u y hu hy).ext he
    exact go_ok (f:=f) (b:=b) (hw.V4 hh he) hfr hst ⟨hx.1,hx.2.1,hx.2.2.1,hm.ext he⟩ hi hno
 ·
  have hfm:fm.d=cC:=by rw[FJ,h1];decide
  have h2:i.as.length=2:=by
   rw[h1]at hfo;simp[BH]at hfo;subst hfo;dsimp only at hlen;omega
  obtain⟨a,c,hac⟩:=MP h2;have hrf:Dq d=cA:=by
   unfold Av BX at hq;rw[h1]at hq;simp only[show¬(28:Int)<=14 by decide,show¬(28:Int)<=18 by decide,show¬(28:Int)<=21 by decide,show¬(28:Int)=22 by decide,show¬(28:Int)=23 by decide,show¬(28:Int)=24 by decide,show¬(28:Int)=25 by decide,show¬(28:Int)=26 by decide,show¬(28:Int)=27 by decide,if_false,if_true,Bool.and_eq_true,decide_eq_true_eq]at hq;rw[hq.1];exact JR
  unfold Bq;rw[h1,hac];simp only[show¬(28:Int)=25 by decide,show¬(28:Int)=29 by decide,show¬(28:Int)=31 by decide,show¬(28:Int)=32 by decide,show¬(28:Int)=34 by decide,show¬(28:Int)=22 by decide,show¬(28:Int)=23 by decide,show¬(28:Int)=24 by decide,show¬(28:Int)=26 by decide,show¬(28:Int)=30 by decide,show¬(28:Int)=33 by decide,show¬(28:Int)=27 by decide,if_false,if_true];exact Gu hfm hrf
 ·
  have hfm:fm.d=cC:=by rw[FJ,h1];decide
  have hgl:Ia p i d (l[0]?.getD ⟨#[]⟩)=cC:=by
   unfold Av BX at hq;rw[h1]at hq;simpa using hq
  unfold Ia at hgl
  cases hv:Ai Vr.n i.n p.gs with
  |none=>rw[hv]at hgl;cases hgl
  |some g=>
   rw[hv]at hgl;dsimp only at hgl;rw[if_pos h1,decide_eq_true_eq]at hgl;obtain⟨k,k1,k2⟩:=JA hv;have hkl:=(List.getElem?_eq_some_iff.1 k2).1;have hgv:s.globals[k]? =cP (s.globals[k]'(by rw[hw.glob.1];exact hkl)):=(by simp);unfold Bq;rw[h1];simp only[show¬(29:Int)=25 by decide,if_false,if_true];rw[k1];dsimp only;rw[hgv];exact⟨_,rfl,KG hw hfr hst hx hi hd hfm (hgl▸hw.glob.2 k _ g hgv k2)⟩
 ·
  have hno:i.d=Bv:=Jl hdst hfo (by rw[FJ,h1];decide);have h2:i.as.length=1:=by
   rw[h1]at hfo;simp[BH]at hfo;subst hfo;dsimp only at hlen;omega
  obtain⟨a,hac⟩:=Fg h2;obtain⟨t,rfl⟩:=Fg (hll.trans h2);have hgl:Ia p i d t=cC:=by
   unfold Av BX at hq;rw[h1]at hq;simpa using hq
  unfold Ia at hgl
  cases hv:Ai Vr.n i.n p.gs with
  |none=>rw[hv]at hgl;cases hgl
  |some g=>
   rw[hv]at hgl;dsimp only at hgl;rw[if_neg (by omega)]at hgl;obtain⟨k,k1,k2⟩:=JA hv;have hkl:=(List.getElem?_eq_some_iff.1 k2).1;have hgv:s.globals[k]? =cP (s.globals[k]'(by rw[hw.glob.1];exact hkl)):=(by simp);unfold Bq;rw[h1,hac];simp only[show¬(30:Int)=25 by decide,show¬(30:Int)=29 by decide,show¬(30:Int)=31 by decide,show¬(30:Int)=32 by decide,show¬(30:Int)=34 by decide,show¬(30:Int)=22 by decide,show¬(30:Int)=23 by decide,show¬(30:Int)=24 by decide,show¬(30:Int)=26 by decide,if_false,if_true];rw[k1];dsimp only;rw[hgv];dsimp only;have hva:okV s.heap (Ar x.vars a) g.t:=val 0 a t g.t (by rw[hac];rfl) rfl hgl;refine go_ok (f:=f) (b:=b) (s:={s with globals:=setAt s.globals k (Ar x.vars a)}) ⟨hw.heap,⟨by unfold setAt;rw[List.length_set];exact hw.glob.1,λn u y hu hy=>?_⟩,hw.frames,hw.live⟩ hfr hst hx hi hno;dsimp only at hu⊢;unfold setAt at hu;by_cases hn:n=k
   ·subst hn;rw[List.getElem?_set_self (List.getElem?_eq_some_iff.1 hgv).1]at hu;injection hu with hu;subst hu;rw[k2]at hy;injection hy with hy;subst hy;exact hva
   ·rw[List.getElem?_set_ne (λe=>hn e.symm)]at hu;exact hw.glob.2 n u y hu hy
 ·
  have hca:K5 p i d l=cC:=by
   unfold Av BX at hq;rw[h1]at hq;simpa using hq
  unfold K5 at hca
  cases hv:Ai Fn.n i.n p.fs with
  |none=>rw[hv]at hca;cases hca
  |some g=>
   rw[hv]at hca;dsimp only at hca;rw[Bool.and_eq_true,decide_eq_true_eq]at hca;have hgm:=(Ak hv).1;obtain⟨m1,e1,e2⟩:=Yl hg hf hgm hm hts hca.1
   cases hbs:g.bs with
   |nil=>exact absurd hbs (hg.fs g hgm).bs
   |cons b0 br=>
    unfold Bq;rw[h1];simp only[show¬(31:Int)=25 by decide,show¬(31:Int)=29 by decide,if_false,if_true];rw[hv];dsimp only;rw[hbs];dsimp only;rw[e1];refine⟨_,rfl,hw.heap,hw.glob,?_,λ_=>by simp⟩;have hs:=hw.frames;rw[hfr]at hs;dsimp only;simp only[List.reverse_append,List.reverse_cons,List.reverse_nil,List.nil_append,List.singleton_append]at hs⊢;exact⟨⟨g,b0,hv,by rw[hbs];exact fD,AY,e2⟩,⟨f,b,i,hx.1,hx.2.1,hi,h1,rfl⟩,hs⟩
 ·
  have hfm:fm.d=cC:=by rw[FJ,h1];decide
  have hrf:Dq d=cA:=by
   unfold Av BX at hq;rw[h1]at hq;have hex:Qr p i d l=cC:=(by simpa using hq);unfold Qr at hex
   cases hv:Ai Ex.n i.n p.xs with
   |none=>rw[hv]at hex;cases hex
   |some g=>
    rw[hv]at hex;dsimp only at hex;rw[Bool.and_eq_true]at hex;rw[all_eq hex.2];exact JR
  unfold Bq;rw[h1];simp only[show¬(32:Int)=25 by decide,show¬(32:Int)=29 by decide,show¬(32:Int)=31 by decide,if_false,if_true];have hw2:WT p {JN s ⟨i.n,i.as.map (λa=>(Ar x.vars a).2),(ans[s.asked.toNat]?).getD 0,cA⟩with asked:=s.asked+1}:=hw.other rfl rfl rfl rfl;exact⟨_,rfl,KG (f:=f) (b:=b) hw2 hfr hst hx hi hd hfm (.plain hrf)⟩
 ·
  have hno:i.d=Bv:=Jl hdst hfo (by rw[FJ,h1];decide);have h2:i.as.length=1:=by
   rw[h1]at hfo;simp[BH]at hfo;subst hfo;dsimp only at hlen;omega
  obtain⟨a,hac⟩:=Fg h2;unfold Bq;rw[h1,hac];simp only[show¬(33:Int)=25 by decide,show¬(33:Int)=29 by decide,show¬(33:Int)=31 by decide,show¬(33:Int)=32 by decide,show¬(33:Int)=34 by decide,show¬(33:Int)=22 by decide,show¬(33:Int)=23 by decide,show¬(33:Int)=24 by decide,show¬(33:Int)=26 by decide,show¬(33:Int)=30 by decide,if_false,if_true];exact go_ok (f:=f) (b:=b) (hw.other rfl rfl rfl rfl) hfr hst hx hi hno
 ·
  have hno:i.d=Bv:=Jl hdst hfo (by rw[FJ,h1];decide);unfold Bq;rw[h1];simp only[show¬(34:Int)=25 by decide,show¬(34:Int)=29 by decide,show¬(34:Int)=31 by decide,show¬(34:Int)=32 by decide,if_false,if_true];by_cases hin:s.guards∈fails
  ·rw[if_pos hin];exact⟨_,rfl,hw.heap,hw.glob,hw.frames,λe=>by simp at e⟩
  ·rw[if_neg hin];exact go_ok (f:=f) (b:=b) (hw.other rfl rfl rfl rfl) hfr hst hx hi hno
def Vd(hg:DJ p)(hw:WT p s)(hfr:s.frames=rest++[x])(_:s.status=0)(hx:Ca p s.heap x f b){y:ByteArray}(hy:∃b',Ai Bk.n y f.bs=cP b'):∃t,H7 f s rest x y=cP t/\WT p t:=by
 obtain⟨b',hb'⟩:=hy;have hf:f∈p.fs:=(Ak hx.1).1;unfold H7;rw[hb'];dsimp only;rw[if_pos ((hg.fs f hf).b b' (Ak hb').1).ps];refine⟨_,rfl,hw.heap,hw.glob,?_,λ_=>by simp⟩;have hs:=hw.frames;rw[hfr]at hs;dsimp only;simp only[List.reverse_append,List.reverse_cons,List.reverse_nil,List.nil_append,List.singleton_append]at hs⊢;exact Dn.turn (y:=x) (y':=⟨x.f,y,0,x.vars⟩) rfl ⟨f,b',hx.1,hb',AY,hx.2.2.2⟩ hs
theorem lM(hg:DJ p)(hw:WT p s)(hfr:s.frames=rest++[x])(hst:s.status=0)(hx:Ca p s.heap x f b)(hv:okV s.heap v f.r):∃t,K4 p s rest v=cP t/\WT p t:=by
 have hs:=hw.frames;rw[hfr]at hs;simp only[List.reverse_append,List.reverse_cons,List.reverse_nil,List.nil_append,List.singleton_append]at hs;unfold K4;rcases List.eq_nil_or_concat rest with rfl|⟨r,y,rfl⟩
 ·exact⟨_,rfl,hw.heap,hw.glob,trivial,λe=>by simp at e⟩
 ·rw[List.concat_eq_append]at hs⊢;rw[List.getLast?_concat,List.dropLast_concat];dsimp only;simp only[List.reverse_append,List.reverse_cons,List.reverse_nil,List.nil_append,List.singleton_append]at hs;obtain⟨_,⟨g,c,i,h1,h2,h3,h4,h5⟩,hr⟩:=hs;rw[h1];dsimp only;rw[h2];dsimp only;rw[h3];dsimp only;have hgm:=(Ak h1).1;obtain⟨Zc,hdst⟩:=((hg.fs g hgm).b c (Ak h2).1).cs i (List.mem_of_getElem? h3);obtain⟨fm,d,l,hfo,hlen,hd,hts,hll,hq⟩:=Gx Zc;have hfm:fm.d=cC:=by rw[Mx hfo,h4];decide
  rw[if_neg (jX hdst hfo hfm)];obtain⟨g2,c2,k1,k2,k3,k4⟩:=hr.top;rw[h1]at k1;obtain rfl:g=g2:=by simpa using k1
  rw[h2]at k2;obtain rfl:c=c2:=by simpa using k2
  have hca:K5 p i d l=cC:=by
   unfold Av BX at hq;rw[h4]at hq;simpa using hq
  unfold K5 at hca;rw[h5,hx.1]at hca;dsimp only at hca;rw[Bool.and_eq_true,decide_eq_true_eq]at hca;refine⟨_,rfl,QC (f:=g) (b:=c) (i:=i) hw.heap hw.glob hst (Ext.refl _) hr ⟨h1,h2,k3,k4⟩ h3 λ_ u hu=>?_⟩;obtain⟨u2,j1,j2⟩:=WB hd hfm;rw[hu]at j1;injection j1 with j1;subst j1;rw[j2,hca.2];exact hv
theorem tX(hg:DJ p)(hw:WT p s)(hfr:s.frames=rest++[x])(hst:s.status=0)(hx:Ca p s.heap x f b):∃t,La p f s rest x b.e=cP t/\WT p t:=by
 have hf:f∈p.fs:=(Ak hx.1).1;have hgb:=(hg.fs f hf).b b (Ak hx.2.1).1;have he:=hgb.e;unfold Pq Zl at he;unfold La;by_cases h1:b.e.k=1
 ·rw[if_pos h1];obtain⟨y,hy⟩:=Fg (hgb.to1 h1);rw[hy];exact Vd hg hw hfr hst hx (hgb.ways y (by rw[hy];simp))
 rw[if_neg h1]at he⊢;by_cases h2:b.e.k=2
 ·rw[if_pos h2];obtain⟨y,z,hy⟩:=MP (hgb.to2 h2);rw[hy];refine Vd hg hw hfr hst hx ?_;by_cases hz:(Ar x.vars b.e.a).2=0
  ·rw[if_pos hz];exact hgb.ways z (by rw[hy];simp)
  ·rw[if_neg hz];exact hgb.ways y (by rw[hy];simp)
 rw[if_neg h2]at he⊢;by_cases h3:b.e.k=3
 ·rw[if_pos h3]at he⊢
  cases ht:GJ f b.e.a with
  |none=>rw[ht]at he;cases he
  |some t=>
   rw[ht]at he;exact lM hg hw hfr hst hx (QB hg hf hx.2.2.2 ht he)
 rw[if_neg h3]at he⊢;by_cases h4:b.e.k=4
 ·rw[if_pos h4];exact⟨_,rfl,Lh hw _⟩
 ·rw[if_neg h4]at he;cases he
def Z8(hw:WT p s)(hst:s.status=0):∃x f b,xH p s=cP (x,f,b)/\s.frames=s.frames.dropLast++[x]/\Ca p s.heap x f b:=by
 rcases List.eq_nil_or_concat s.frames with h|⟨r,x,h⟩
 ·exact absurd h (hw.live hst)
 ·rw[List.concat_eq_append]at h;have hs:=hw.frames;rw[h]at hs;simp only[List.reverse_append,List.reverse_cons,List.reverse_nil,List.nil_append,List.singleton_append]at hs;obtain⟨f,b,hx⟩:=hs.top;refine⟨x,f,b,?_,by rw[h,List.dropLast_concat],hx⟩;unfold xH;rw[h,List.getLast?_concat];dsimp only;rw[hx.1];dsimp only;rw[hx.2.1]
theorem step_ok(hg:DJ p)(hw:WT p s)(hst:s.status=0){x:Lv}{b:Bk}(hfr:s.frames=s.frames.dropLast++[x])(hx:Ca p s.heap x f b)(ans fails:List Int):∃t,El p ans fails s x f b=cP t/\WT p t:=by
 unfold El;by_cases he:x.i=b.cs.length
 ·rw[if_pos he];exact tX hg hw hfr hst hx
 ·rw[if_neg he];have hlt:x.i<b.cs.length:=by have:=hx.2.2.1;omega
  have hi:b.cs[x.i]? =cP b.cs[x.i]:=by simp
  rw[hi];exact eD hg hw hfr hst hx hi ans fails
theorem Ml(hg:DJ p)(hw:WT p s)(hst:s.status=0)(ans fails:List Int)(fuel:Int)(j:Nat):∃t k,EP p ans fails fuel s j=cP (t,k)/\WT p t:=by
 obtain⟨x,f,b,h1,h2,h3⟩:=Z8 hw hst;unfold EP;rw[h1];dsimp only;have spent:WT p {s with status:=3}:=⟨hw.heap,hw.glob,hw.frames,λe=>by simp at e⟩;by_cases hfree:H8 x b=cC
 ·rw[if_pos hfree];by_cases hj:j=256
  ·rw[if_pos hj];exact⟨_,_,rfl,spent⟩
  ·rw[if_neg hj];obtain⟨t,e,ht⟩:=step_ok hg hw hst h2 h3 ans fails;rw[e];exact⟨_,_,rfl,ht⟩
 ·rw[if_neg hfree];by_cases hs:fuel<=s.steps
  ·rw[if_pos hs];exact⟨_,_,rfl,spent⟩
  ·rw[if_neg hs];obtain⟨t,e,ht⟩:=step_ok (s:={s with steps:=s.steps+1}) hg (hw.other rfl rfl rfl rfl) hst h2 h3 ans fails;rw[e];exact⟨_,_,rfl,ht⟩
end
end
end Go.Proofs.YtlffomedflegdaaGreatDoor
