/- Part 6 of 49 of the proof: Num, Flo, FloI, Mch, End, Set. -/
import Derived.WalkKit
import Derived.WalkLawsBesides
import Derived.Laws.BitsAllLaws
import Derived.MapKept
import Derived.WideKeyEntry
import Derived.ChangeMaps4
import Derived.Below
import Derived.Test.YtlffomedflegdaaGreatDoorPz00
import Derived.Test.YtlffomedflegdaaGreatDoorPz04
import Derived.Test.YtlffomedflegdaaGreatDoorPz05
set_option linter.all false
set_option maxHeartbeats 16000000
set_option maxRecDepth 100000
namespace Go.Proofs.YtlffomedflegdaaGreatDoor
open Go.Proofs.Tryz
open Go.RowKit
variable {a b n:Int}{k m x:Nat}{s:ByteArray}
namespace Num
def mX(b:Bool):Int:=if b then 1 else 0
def sh(b:Int):Nat:=(b%64).toNat
def Kv(op a b:Int):Int×Bool:=
 if op=1 then(wrap64 (a+b),true)
 else if op=2 then(wrap64 (a-b),true)
 else if op=3 then(wrap64 (a*b),true)
 else if op=4 then(if b=0 then(0,false)else(wrap64 (a.tdiv b),true))
 else if op=5 then(if b=0 then(0,false)else(a.tmod b,true))
 else if op=6 then(bits .and .i64 a b,true)
 else if op=7 then(bits .or .i64 a b,true)
 else if op=8 then(bits .xor .i64 a b,true)
 else if op=9 then(wrap64 (a*2^sh b),true)
 else if op=10 then(a/2^sh b,true)
 else if op=11 then(mX (a==b),true)
 else if op=12 then(mX (a !=b),true)
 else if op=13 then(mX (decide (a<b)),true)
 else if op=14 then(mX (decide (a<=b)),true)
 else(0,false)
theorem mI{op:Int}(h:op<1\/14<op):Kv op a b=(0,false):=by
 unfold Kv;repeat rw[if_neg (by omega)]
def KD(n:Int):Nat:=(n%18446744073709551616).toNat
theorem Bl(n:Int):(BitVec.ofInt 64 n).toNat=KD n:=by simp[KD]
theorem UK(n:Int):wrap64 n=if n%18446744073709551616>=9223372036854775808 then n%18446744073709551616-18446744073709551616 else n%18446744073709551616:=by
 unfold wrap64;split<;>omega
theorem Mt(n:Int):IntKind.i64.wrap n=wrap64 n:=by
 rw[UK];simp only[IntKind.wrap,IntKind.bits,IntKind.signed];simp
theorem WE(a b:Int):bits .and .i64 a b=wrap64 ((KD a&&&KD b:Nat):Int):=by
 unfold bits;simp only[BitVec.toNat_and];show IntKind.i64.wrap (((BitVec.ofInt 64 a).toNat&&& (BitVec.ofInt 64 b).toNat:Nat):Int)=_;rw[Bl,Bl,Mt]
theorem sJ(a b:Int):bits .or .i64 a b=wrap64 ((KD a|||KD b:Nat):Int):=by
 unfold bits;simp only[BitVec.toNat_or];show IntKind.i64.wrap (((BitVec.ofInt 64 a).toNat|||(BitVec.ofInt 64 b).toNat:Nat):Int)=_;rw[Bl,Bl,Mt]
theorem jY(a b:Int):bits .xor .i64 a b=wrap64 ((KD a^^^KD b:Nat):Int):=by
 unfold bits;simp only[BitVec.toNat_xor];show IntKind.i64.wrap (((BitVec.ofInt 64 a).toNat^^^ (BitVec.ofInt 64 b).toNat:Nat):Int)=_;rw[Bl,Bl,Mt]
theorem uR(b:Int):bits .and .i64 b 63=((sh b:Nat):Int):=by
 rw[WE];have e:KD 63=63:=by decide
 have m:KD b&&&63=KD b%64:=Nat.and_two_pow_sub_one_eq_mod (KD b) 6;rw[e,m];unfold wrap64 KD sh;omega
theorem zU(b:Int):sh b<64:=by unfold sh;omega
def xD(d:Nat):UInt8:=UInt8.ofNat (48+d)
def L8(m:Nat):Nat->List UInt8
 |0=> []
 |k+1=>xD (m/10^k%10)::L8 m k
def iA:Nat->Nat->Nat
 |0,_=>1
 |f+1,m=>if m<10 then 1 else iA f (m/10)+1
def nd(m:Nat):Nat:=iA 20 m
def sign(n:Int):List UInt8:=if n<0 then[45]else[]
def Ee(n:Int):List UInt8:=sign n++L8 n.natAbs (nd n.natAbs)
theorem K9(m k:Nat):(L8 m k).length=k:=by
 induction k with
 |zero=>rfl
 |succ k ih=>simp[L8,ih]
theorem kQ(f m:Nat):1<=iA f m:=by cases f<;>simp[iA];split<;>omega
theorem dV(f m:Nat)(h:m<10^ (f+1)):m/10^ (iA f m)=0/\∀k,1<=k->k<iA f m->m/10^k≠0:=by
 induction f generalizing m with
 |zero=>
  refine⟨?_,fun k h1 h2=>?_⟩
  ·simp[iA];omega
  ·simp[iA]at h2;omega
 |succ f ih=>
  unfold iA;by_cases hm:m<10
  ·rw[if_pos hm];exact⟨by simp;omega,fun k h1 h2=>by omega⟩
  ·rw[if_neg hm];have hd:m/10<10^ (f+1):=by
    rw[Nat.pow_succ]at h;omega
   obtain⟨i1,i2⟩:=ih (m/10) hd;refine⟨?_,fun k h1 h2=>?_⟩
   ·rw[Nat.pow_succ,Nat.mul_comm,<-Nat.div_div_eq_div_mul];exact i1
   ·by_cases hk:k=1
    ·subst hk;simp;omega
    ·have:=i2 (k-1) (by omega) (by omega);rw[show k=(k-1)+1 from by omega,Nat.pow_succ,Nat.mul_comm,<-Nat.div_div_eq_div_mul];exact this
theorem QG(h:m<=9223372036854775808):m/10^ (nd m)=0/\∀k,1<=k->k<nd m->m/10^k≠0:=
 dV 20 m (by omega)
theorem aI(m:Nat):1<=nd m:=kQ 20 m
theorem oF(h:m<=9223372036854775808):nd m<=19:=by
 apply Classical.byContradiction;intro hn;have:=(QG h).2 19 (by omega) (by omega);grind
theorem tu(a:Int):Kv 4 a (-1)=(wrap64 (-a),true):=by simp[Kv]
theorem sD(a:Int):Kv 5 a (-1)=(0,true):=by simp[Kv]
theorem uD(h:b≠0):Kv 4 a b=(wrap64 (a.tdiv b),true):=by grind [Kv]
theorem sF(h:b≠0):Kv 5 a b=(a.tmod b,true):=by grind [Kv]
theorem Yf{d:Nat}(h:d<10):((xD d).toNat:Int)=48+d:=by
 simp only[xD,UInt8.toNat_ofNat'];omega
def Lb(l:List UInt8):Nat->Int
 |0=>0
 |k+1=>if k=0/\l.getD 0 0=45 then Lb l k else Lb l k*10+((l.getD k 0).toNat:Int)-48
def Ta(l:List UInt8):Int:=wrap64 (if l.getD 0 0=45 then-(Lb l (min l.length 30))else Lb l (min l.length 30))
def Nt(l:List UInt8):Int×Bool:=if Ee (Ta l)=l then(Ta l,true)else(0,false)
theorem FR(n:Int): -9223372036854775808<=wrap64 n/\wrap64 n<=9223372036854775807:=by unfold wrap64;omega
theorem NU(h:n.natAbs<=9223372036854775808):1<=(Ee n).length/\(Ee n).length<=20:=by grind [Ee,sign,aI,oF,K9]
theorem lQ{s:ByteArray}{x:Int}(hx:x=Ta s.data.toList)(h:(!Ee x==s.toList)=true):Nt s.data.toList=(0,false):=by
 subst hx;rw[ByteArray.toList_eq]at h;grind [Ta,Ee,Nt]
theorem fA{s:ByteArray}{x:Int}(hx:x=Ta s.data.toList)(h:(!Ee x==s.toList)=false):Nt s.data.toList=(x,true):=by
 subst hx;rw[ByteArray.toList_eq]at h;grind [Ta,Ee,Nt]
theorem Gl(h:k<s.size):s.data.toList.getD k 0=s[k]:=by
 rw[List.getD_eq_getElem?_getD,List.getElem?_eq_getElem (by simpa using h)];rfl
theorem size_data(s:ByteArray):s.data.toList.length=s.size:=by simp
theorem Ro(h:1<=s.size):s.toList.isEmpty=false:=by
 rw[ByteArray.toList_eq,List.isEmpty_eq_false_iff];grind [size_data]
theorem Yo{l:List UInt8}(h:1<=k\/l.getD 0 0≠45):Lb l (k+1)=Lb l k*10+((l.getD k 0).toNat:Int)-48:=by grind [Lb]
theorem Yp{l:List UInt8}(h:l.getD 0 0=45):Lb l 1=0:=by grind [Lb]
end Num
section
namespace Dp
open Ieee
def u64(n:Int):Nat:=(n%18446744073709551616).toNat
def Bc(u:Nat):Bool:=decide (9218868437227405312<u%9223372036854775808)
def Pe:Int:=9221120237041090560
def Ba(n:Int):Int:=if Bc (u64 n)then Pe else n
theorem rW(n:Int):u64 n<18446744073709551616:=by unfold u64;omega
theorem wrap_i64_small(n:Nat)(h:n<9223372036854775808):IntKind.i64.wrap (n:Int)=n:=by
 simp only[IntKind.wrap,IntKind.bits,IntKind.signed];simp;omega
theorem Bl(n:Int):(BitVec.ofInt 64 n).toNat=u64 n:=by
 simp[u64]
theorem SA(n:Int):bits .and .i64 n 9218868437227405312=((u64 n%9223372036854775808/4503599627370496*4503599627370496:Nat):Int):=by
 unfold bits;simp only[BitVec.toNat_and];show IntKind.i64.wrap (((BitVec.ofInt 64 n).toNat&&& (BitVec.ofInt 64 9218868437227405312).toNat:Nat):Int)=_;rw[Bl];have e:(BitVec.ofInt 64 9218868437227405312).toNat=9218868437227405312:=by decide
 have m:u64 n&&&9218868437227405312=u64 n%9223372036854775808/4503599627370496*4503599627370496:=nat_midmask 63 52 (u64 n) (by decide);rw[e,m,wrap_i64_small];omega
theorem R9(n:Int):bits .and .i64 n 4503599627370495=((u64 n%4503599627370496:Nat):Int):=by
 unfold bits;simp only[BitVec.toNat_and];show IntKind.i64.wrap (((BitVec.ofInt 64 n).toNat&&& (BitVec.ofInt 64 4503599627370495).toNat:Nat):Int)=_;rw[Bl];have e:(BitVec.ofInt 64 4503599627370495).toNat=4503599627370495:=by decide
 rw[e,nat_mask52,wrap_i64_small];omega
theorem Xp(h1:bits .and .i64 n 9218868437227405312=9218868437227405312)(h2:(bits .and .i64 n 4503599627370495 !=0)=true):Ba n=Pe:=by
 rw[SA]at h1;rw[R9]at h2;have h3:u64 n%4503599627370496≠0:=by
  intro h;rw[h]at h2;simp at h2
 have:Bc (u64 n)=true:=by
  unfold Bc;simp;omega
 simp[Ba,this]
theorem Xr(h1:¬bits .and .i64 n 9218868437227405312=9218868437227405312):Ba n=n:=by
 rw[SA]at h1;have:Bc (u64 n)=false:=by
  unfold Bc;simp;omega
 simp[Ba,this]
theorem Xq(h2:(bits .and .i64 n 4503599627370495 !=0)=false):Ba n=n:=by
 rw[R9]at h2;have h3:u64 n%4503599627370496=0:=by
  have:=bne_eq_false_iff_eq.1 h2;omega
 have:Bc (u64 n)=false:=by
  unfold Bc;simp;omega
 simp[Ba,this]
def pb(n:Int):Nat:=u64 (Ba n)
def tr(b:Bool):Int:=if b then 1 else 0
theorem eB(n:Int):decide (9218868437227405312<(IntKind.u64.wrap n).tmod 9223372036854775808)=Bc (u64 n):=by
 rw[IntKind.wrap_u64,tmod_of_emod];unfold Bc u64;congr 1;apply propext;constructor<;>intro h<;>omega
theorem UL(n:Int):wrap64 n=if n%18446744073709551616>=9223372036854775808 then n%18446744073709551616-18446744073709551616 else n%18446744073709551616:=by
 unfold wrap64;split<;>omega
theorem UM(r:Nat)(h:r<18446744073709551616):u64 (wrap64 r)=r:=by
 rw[UL];unfold u64;split<;>omega
theorem Xt(r:Nat)(h:r<18446744073709551616)(hn:Bc r=true):Ba (wrap64 r)=Pe:=by
 unfold Ba;rw[UM r h,hn];rfl
theorem kR(x y t:Nat):(Question.nanBits .f64 x y).cut t<18446744073709551616/\Bc ((Question.nanBits .f64 x y).cut t)=true:=by
 have e:(Question.nanBits .f64 x y).cut t=(t%2)*9223372036854775808+9218868437227405312+1+(t/2)%4503599627370495:=rfl;rw[e];refine⟨by omega,?_⟩;unfold Bc;simp only[decide_eq_true_eq];rcases Nat.mod_two_eq_zero_or_one t with h|h<;>rw[h]<;>omega
theorem Uw(x y:Nat):(Question.nanBits .f64 x y).forced=false:=rfl
def Eo(op:BinOp)(x y:Nat):Int:=match floatBits op .f64 x y with
 |some r=>Ba (wrap64 r)
 |none=>Pe
theorem JD{P:Program}(op:BinOp)(hop:op=.add\/op=.sub\/op=.mul\/op=.quo)(t:TypeId)(x y:Nat)(w:World):∃r w1,(binOp op t (.float .f64 x) (.float .f64 y)).run P w=.ok (.float .f64 r) w1/\AA6 w w1/\r<18446744073709551616/\Ba (wrap64 r)=Eo op x y:=by
 cases h:floatBits op .f64 x y with
 |some r=>
  refine⟨r,w,run_float_arith w op t .f64 x y r h,AL,?_,by simp[Eo,h]⟩;have:=floatBits_wf h;simp[Lit.wf]at this
  exact this
 |none=>
  obtain⟨h1,h2⟩:=kR x y (w.tape w.drawn (Question.nanBits .f64 x y));refine⟨_,w.drew,?_,Ac,h1,by rw[Xt _ h1 h2];simp[Eo,h]⟩;rcases hop with rfl|rfl|rfl|rfl<;>simp only[floatBits]at h<;>simp[binOp,Op.floatArith,h,Uw]
theorem dW:Bc (u64 Pe)=true:=by decide
theorem Oy(n:Int):Bc (pb n)=Bc (u64 n):=by
 unfold pb Ba;cases h:Bc (u64 n)
 ·simp[h]
 ·simp[dW]
theorem Xu(h:Bc (u64 n)=false):pb n=u64 n:=by simp[pb,Ba,h]
theorem Zu(n:Int):pb n<18446744073709551616:=rW _
theorem cZ(_h:x<18446744073709551616):(double.read x).isNaN=Bc x:=by
 unfold Format.read;have e1:double.signWeight=9223372036854775808:=by decide
 have e2:double.binade=4503599627370496:=by decide
 have e3:double.infRung=9218868437227405312:=by decide
 simp only[e1,e2,e3];unfold Bc;split
 ·simp[Datum.isNaN];omega
 ·split
  ·simp[Datum.isNaN];omega
  ·split
   ·simp[Datum.isNaN];omega
   ·simp[Datum.isNaN];omega
theorem X5{a b:Datum}(h:a.isNaN=true\/b.isNaN=true):a.order b=none:=by
 rcases h with h|h
 ·cases a<;>simp[Datum.isNaN]at h;simp[Datum.order]
 ·cases a<;>cases b<;>simp[Datum.isNaN]at h<;>simp[Datum.order]
theorem Ut{a:Datum}(h:a.isNaN=false):a.order a=some .eq:=by
 cases a with
 |number s m p=>simp[Datum.order,Std.ReflCmp.compare_self]
 |infinity s=>simp[Datum.order,Std.ReflCmp.compare_self]
 |nan s f=>simp[Datum.isNaN]at h
theorem IE(h:x<18446744073709551616):(FloatKind.f64.format.order x x !=some .eq)=Bc x:=by
 show((double.read x).order (double.read x) !=some .eq)=_;rw[<-cZ h];cases hn:(double.read x).isNaN
 ·rw[Ut hn];rfl
 ·rw[X5 (.inl hn)];rfl
def iX(x y:Nat):Option Ordering:=FloatKind.f64.format.order x y
def OA(op a b:Int):Int×Bool:=
 if op=15 then(Eo .add (pb a) (pb b),true)
 else if op=16 then(Eo .sub (pb a) (pb b),true)
 else if op=17 then(Eo .mul (pb a) (pb b),true)
 else if op=18 then(Eo .quo (pb a) (pb b),true)
 else if op=19 then(tr (iX (pb a) (pb b)==some .eq),true)
 else if op=20 then(tr (iX (pb a) (pb b)==some .lt),true)
 else if op=21 then(tr (iX (pb a) (pb b)==some .lt||iX (pb a) (pb b)==some .eq),true)
 else(0,false)
section
variable {op a b : Int}
theorem mH{x:Int}(h:(op==15)=true)(hx:x=Eo .add (pb a) (pb b)):OA op a b=(x,true):=by
 have:op=15:=by simpa using h
 subst this;subst hx;rfl
theorem l8{x:Int}(h:(op==16)=true)(hx:x=Eo .sub (pb a) (pb b)):OA op a b=(x,true):=by
 have:op=16:=by simpa using h
 subst this;subst hx;rfl
theorem mD{x:Int}(h:(op==17)=true)(hx:x=Eo .mul (pb a) (pb b)):OA op a b=(x,true):=by
 have:op=17:=by simpa using h
 subst this;subst hx;rfl
theorem l9{x:Int}(h:(op==18)=true)(hx:x=Eo .quo (pb a) (pb b)):OA op a b=(x,true):=by
 have:op=18:=by simpa using h
 subst this;subst hx;rfl
theorem mG(h:(op==19)=true):OA op a b=(tr (FloatKind.f64.format.order (pb a) (pb b)==some .eq),true):=by
 have:op=19:=by simpa using h
 subst this;rfl
theorem mE(h:(op==20)=true):OA op a b=(tr (FloatKind.f64.format.order (pb a) (pb b)==some .lt),true):=by
 have:op=20:=by simpa using h
 subst this;rfl
theorem mF(h:(op==21)=true):OA op a b=(tr (FloatKind.f64.format.order (pb a) (pb b)==some .lt||FloatKind.f64.format.order (pb a) (pb b)==some .eq),true):=by
 have:op=21:=by simpa using h
 subst this;rfl
theorem fO(h1:(op==15)=false)(h2:(op==16)=false)(h3:(op==17)=false)(h4:(op==18)=false)(h5:(op==19)=false)(h6:(op==20)=false)(h7:(op==21)=false):OA op a b=(0,false):=by
 simp only[beq_eq_false_iff_ne]at*;simp[OA, *]
end
def MR(n:Int):Int:=Ba (wrap64 (floatOfInt .f64 n))
def Tk(d:Nat):UInt8:=if d<10 then UInt8.ofNat (48+d)else UInt8.ofNat (87+d)
def oJ(u k:Nat):List UInt8:=[48,102]++(List.range k).map fun i=>Tk (u/16^ (15-i)%16)
def Hf(u:Nat):List UInt8:=oJ u 16
def Ie(u:Nat):Nat->List UInt8
 |0=> []
 |k+1=>Tk (u/16^k%16)::Ie u k
theorem Ny(u k:Nat):(Ie u k).length=k:=by
 induction k with
 |zero=>rfl
 |succ k ih=>simp[Ie,ih]
theorem Sg(u:Nat):[48,102]++Ie u 16=Hf u:=rfl
theorem lH{d:Nat}(h:d<10):((Tk d).toNat:Int)=d+48:=by
 simp only[Tk,h,if_true,UInt8.toNat_ofNat'];omega
theorem lI{d:Nat}(h:¬d<10)(h2:d<16):((Tk d).toNat:Int)=d+87:=by
 simp only[Tk,h,if_false,UInt8.toNat_ofNat'];omega
def Qm(c:Nat):Nat:=if 97<=c then(c+9)%16 else c%16
def H9(l:List UInt8):Nat->Nat
 |0=>0
 |k+1=>H9 l k*16+Qm (l.getD (2+k) 0).toNat
theorem kL(c:Nat):Qm c<16:=by unfold Qm;split<;>omega
theorem fP(l:List UInt8)(k:Nat):H9 l k<16^k:=by
 induction k with
 |zero=>simp[H9]
 |succ k ih=>have:=kL (l.getD (2+k) 0).toNat;rw[Nat.pow_succ,H9];omega
def LZ(l:List UInt8):Int×Bool:=
 if l.length=18/\Hf (pb (wrap64 (H9 l 16)))=l then(wrap64 (H9 l 16),true)else(0,false)
theorem NV(u:Nat):(Hf u).length=18:=by simp[Hf,oJ]
theorem sP{c:Nat}(hx:x<1152921504606846976)(hc:c<256)(h:97<=IntKind.u64.wrap (c:Int)):IntKind.u64.wrap (IntKind.u64.wrap ((x:Int)*16)+(IntKind.u64.wrap (IntKind.u64.wrap (c:Int)-87)).tmod 16)=((x*16+Qm c:Nat):Int):=by
 simp only[IntKind.wrap_u64,tmod_of_emod]at*;have:97<=c:=by omega
 simp only[Qm,this,if_true];omega
theorem sO{c:Nat}(hx:x<1152921504606846976)(hc:c<256)(h:IntKind.u64.wrap (c:Int)<97):IntKind.u64.wrap (IntKind.u64.wrap ((x:Int)*16)+(IntKind.u64.wrap (IntKind.u64.wrap (c:Int)-48)).tmod 16)=((x*16+Qm c:Nat):Int):=by
 simp only[IntKind.wrap_u64,tmod_of_emod]at*;have:¬97<=c:=by omega
 simp only[Qm,this,if_false];omega
theorem U9(l:List UInt8)(h:k<16):H9 l k<1152921504606846976:=by
 have h1:=fP l k;have h2:16^k<=16^15:=Nat.pow_le_pow_right (by omega) (by omega);omega
theorem getD_at(h:k<s.size):s.data.toList.getD k 0=s[k]:=by
 rw[List.getD_eq_getElem?_getD,List.getElem?_eq_getElem (by simpa using h)];rfl
theorem lN{s:ByteArray}{x:Nat}(hx:x=H9 s.data.toList 16)(h:(!Hf (pb (wrap64 x))==s.toList)=true):LZ s.data.toList=(0,false):=by
 subst hx;rw[ByteArray.toList_eq]at h;simp only[Bool.not_eq_true',beq_eq_false_iff_ne]at h;unfold LZ;rw[if_neg (fun k=>h k.2)]
theorem eu{s:ByteArray}{x:Nat}(hs:s.size=18)(hx:x=H9 s.data.toList 16)(h:(!Hf (pb (wrap64 x))==s.toList)=false):LZ s.data.toList=(wrap64 x,true):=by
 subst hx;rw[ByteArray.toList_eq]at h;simp only[Bool.not_eq_false',beq_iff_eq]at h;unfold LZ;rw[if_pos ⟨by simpa using hs,h⟩]
end Dp
end
section
namespace Dp
open Ieee
theorem cO(h:Bc x=false)(hi:x%9223372036854775808≠9218868437227405312):∃m i,double.read x=.number (x/9223372036854775808%2==1) m i/\((x%9223372036854775808<4503599627370496/\m=x%9223372036854775808/\i= -1074)\/(4503599627370496<=x%9223372036854775808/\m=4503599627370496+x%4503599627370496/\i=((x%9223372036854775808/4503599627370496:Nat):Int)-1075)):=by
 have e1:double.signWeight=9223372036854775808:=by decide
 have e2:double.binade=4503599627370496:=by decide
 have e3:double.infRung=9218868437227405312:=by decide
 have e4:double.leastPlace= -1074:=by decide
 have hn:¬9218868437227405312<x%9223372036854775808:=by simpa[Bc]using h
 unfold Format.read;simp only[e1,e2,e3,e4];by_cases h1:x%9223372036854775808<4503599627370496
 ·exact⟨_,_,by rw[if_pos h1],.inl ⟨h1,rfl,rfl⟩⟩
 ·refine⟨_,_,by rw[if_neg h1,if_pos (by omega)],.inr ⟨by omega,?_,?_⟩⟩
  ·omega
  ·omega
theorem dA(hi:x%9223372036854775808=9218868437227405312):double.read x=.infinity (x/9223372036854775808%2==1):=by
 have e1:double.signWeight=9223372036854775808:=by decide
 have e2:double.binade=4503599627370496:=by decide
 have e3:double.infRung=9218868437227405312:=by decide
 unfold Format.read;grind
theorem jl(n:Int)(h1: -9223372036854775808<=n)(h2:n<=9223372036854775807):(u64 n/9223372036854775808%2==1)=decide (n<0):=by grind [u64]
theorem fQ(s:Bool)(n drop:Nat):Toward.cut .zero s n drop=n/2^drop:=by
 unfold Toward.cut;simp only[Bool.toNat_false,Nat.add_zero];rw[Nat.shiftLeft_eq,Nat.one_mul];by_cases h:drop<=n.log2+2
 ·rw[Nat.min_eq_left h]
 ·rw[Nat.min_eq_right (by omega)];have hl:n<2^ (n.log2+1):=Nat.lt_log2_self;have h1:n<2^ (n.log2+2):=A9 hl (Nat.pow_le_pow_right (by omega) (by omega));have h2:n<2^drop:=A9 hl (Nat.pow_le_pow_right (by omega) (by omega));rw[Nat.div_eq_of_lt h1,Nat.div_eq_of_lt h2]
theorem XO(s:Bool)(m:Nat)(i:Int):(Datum.number s m i).toInt .zero=some (signed s (m*2^i.toNat/2^ (-i).toNat) 0):=by
 simp only[Datum.toInt,Datum.integral,fQ,Nat.shiftLeft_eq]
def FD(n:Int):Nat:=u64 n%9223372036854775808/4503599627370496
def Nq(n:Int):Nat:=u64 n%9223372036854775808%4503599627370496+4503599627370496
def Qn(n:Int):Nat:=Nq n*2^ (FD n-1075)/2^ (1075-FD n)
def CU(n:Int):Int:=
 if Bc (u64 n)then 0
 else if 1086<=FD n then(if n<0 then-9223372036854775808 else 9223372036854775807)
 else if FD n<1023 then 0
 else if n<0 then-(Qn n:Int)else Qn n
theorem Vw(n:Int):Nq n<9007199254740992:=by unfold Nq;omega
theorem kT(n:Int):4503599627370496<=Nq n:=by unfold Nq;omega
theorem Vx(h:FD n<1086):Qn n<9223372036854775808:=by
 unfold Qn;have h1:Nq n*2^ (FD n-1075)/2^ (1075-FD n)<=Nq n*2^ (FD n-1075):=Nat.div_le_self _ _;have h2:2^ (FD n-1075)<=2^10:=Nat.pow_le_pow_right (by omega) (by omega);have h3:=Vw n;have h4:Nq n*2^ (FD n-1075)<=9007199254740991*2^10:=Nat.mul_le_mul (by omega) h2;omega
def nW:Nat:=4890909195324358656
def xL:Nat:=14114281232179134464
theorem dD:double.read nW=.number false 4503599627370496 11:=by decide
theorem dB:double.read xL=.number true 4503599627370496 11:=by decide
theorem Gv(s:Bool)(m:Nat)(i:Int)(t:Bool)(_hm:4503599627370496<=m)(hi:11<=i):Datum.order (.number s m i) (.number t 4503599627370496 11)=some (compare (signed s (m*2^ (i-11).toNat) 0) (signed t 4503599627370496 0)):=by
 have h:min i 11=11:=by omega
 simp only[Datum.order,h,signed,Nat.shiftLeft_eq];simp
theorem GH(s:Bool)(m:Nat)(i:Int)(t:Bool)(hi:i<=11):Datum.order (.number s m i) (.number t 4503599627370496 11)=some (compare (signed s m 0) (signed t (4503599627370496*2^ (11-i).toNat) 0)):=by
 have h:min i 11=i:=by omega
 simp only[Datum.order,h,signed,Nat.shiftLeft_eq];simp
theorem DR(m:Nat):signed false m 0=m:=by simp[signed]
theorem Ci(m:Nat):signed true m 0= -(m:Int):=by simp[signed]
theorem UJ(h:a<b):compare a b=.lt:=by simp[compare,compareOfLessAndEq,h]
theorem cmp_eq(h:a=b):compare a b=.eq:=by grind
theorem aX(h:b<a):compare a b=.gt:=by
 have h1:¬a<b:=by omega
 have h2:a≠b:=by omega
 simp[compare,compareOfLessAndEq,h1,h2]
def iO(x:Nat):Bool:=FloatKind.f64.format.order x nW==some .gt||FloatKind.f64.format.order x nW==some .eq
def vg(x:Nat):Bool:=FloatKind.f64.format.order x xL==some .lt
theorem MI{o:Ordering}(h:(double.read x).order (.number false 4503599627370496 11)=some o):iO x=(o==.gt||o==.eq):=by
 unfold iO;show((double.read x).order (double.read nW)==_||(double.read x).order (double.read nW)==_)=_;rw[dD,h];cases o<;>rfl
theorem RJ{o:Ordering}(h:(double.read x).order (.number true 4503599627370496 11)=some o):vg x=(o==.lt):=by
 unfold vg;show((double.read x).order (double.read xL)==_)=_;rw[dB,h];cases o<;>rfl
theorem Tx{s:Bool}{i:Int}(h:double.read x=.number s m i)(hb:m*2^i.toNat/2^ (-i).toNat<9223372036854775808\/(s=true/\m*2^i.toNat/2^ (-i).toNat=9223372036854775808)):floatToIntVal .f64 x .i64=some (signed s (m*2^i.toNat/2^ (-i).toNat) 0):=by
 unfold floatToIntVal;have e:FloatKind.f64.decode x=.number s m i:=h;rw[e,XO];generalize m*2^i.toNat/2^ (-i).toNat=q at*;simp only;rw[if_pos];have e1:IntKind.i64.min= -9223372036854775808:=rfl;have e2:IntKind.i64.max=9223372036854775807:=rfl;rw[e1,e2];cases s
 ·rw[DR];simp at hb;omega
 ·rw[Ci];simp at hb;omega
theorem sG{a b:Nat}(hm:m<9007199254740992)(ha:a=0)(hb:53<=b):m*2^a/2^b=0:=by
 subst ha;rw[Nat.pow_zero,Nat.mul_one];apply Nat.div_eq_of_lt;have:2^53<=2^b:=Nat.pow_le_pow_right (by omega) hb;omega
theorem Rt(hm:m<9007199254740992)(hk:1<=k):m<4503599627370496*2^k:=by grind
theorem PK(s:Bool){M K:Nat}(h:M<K):compare (signed s M 0) (signed false K 0)=.lt:=by
 apply UJ;cases s
 ·rw[DR,DR];omega
 ·rw[DR,Ci];omega
theorem NR(s:Bool){M K:Nat}(h:M<K):compare (signed s M 0) (signed true K 0)=.gt:=by
 apply aX;cases s
 ·rw[DR,Ci];omega
 ·rw[Ci,Ci];omega
theorem UN(n:Int)(h1: -9223372036854775808<=n)(h2:n<=9223372036854775807)(hn:Bc (u64 n)=false):(iO (u64 n)=true/\CU n=9223372036854775807)\/(iO (u64 n)=false/\vg (u64 n)=true/\CU n= -9223372036854775808)\/(iO (u64 n)=false/\vg (u64 n)=false/\floatToIntVal .f64 (u64 n) .i64=some (CU n)):=by
 have hs:=jl n h1 h2;by_cases hi:u64 n%9223372036854775808=9218868437227405312
 ·have hr:=dA hi;rw[hs]at hr;have he:1086<=FD n:=by unfold FD;omega
  by_cases hneg:n<0
  ·right;left;rw[decide_eq_true hneg]at hr;refine⟨?_,?_,by simp[CU,hn,he,hneg]⟩
   ·rw[MI (o:=.lt) (by rw[hr];rfl)];rfl
   ·rw[RJ (o:=.lt) (by rw[hr];rfl)];rfl
  ·left;rw[decide_eq_false hneg]at hr;exact⟨by rw[MI (o:=.gt) (by rw[hr];rfl)];rfl,by simp[CU,hn,he,hneg]⟩
 ·obtain⟨m,i,hr,hmi⟩:=cO hn hi;rw[hs]at hr;rcases hmi with⟨hsub,hm,hii⟩|⟨AJS,hm,hii⟩
  ·
   have he0:FD n=0:=(by unfold FD;omega);have hv:CU n=0:=(by simp[CU,hn,he0]);subst hii;have hq:m*2^ (-1074:Int).toNat/2^ (-(-1074:Int)).toNat=0:=sG (by omega) rfl (by decide);have hlt:m<4503599627370496*2^ (11-(-1074:Int)).toNat:=Rt (by omega) (by decide);right;right;refine⟨?_,?_,?_⟩
   ·rw[MI (o:=.lt)]
    ·rfl
    ·rw[hr,GH _ _ _ _ (by omega),PK _ hlt]
   ·rw[RJ (o:=.gt)]
    ·rfl
    ·rw[hr,GH _ _ _ _ (by omega),NR _ hlt]
   ·rw[Tx hr (by rw[hq];left;omega),hq,hv];cases decide (n<0)<;>simp[signed]
  ·have hme:Nq n=m:=(by unfold Nq;omega);have hie:i=(FD n:Int)-1075:=(by unfold FD;omega);have hmg:m*2^i.toNat/2^ (-i).toNat=Qn n:=by
    unfold Qn;rw[hme];have e1:i.toNat=FD n-1075:=(by omega);have e2:(-i).toNat=1075-FD n:=(by omega);rw[e1,e2]
   have hml:=Vw n;have AJX:=kT n;by_cases hbig:1086<=FD n
   ·have ZT:11<=i:=(by omega);have hp:1<=2^ (i-11).toNat:=Nat.one_le_two_pow;have hge:4503599627370496<=m*2^ (i-11).toNat:=by
     have:=Nat.mul_le_mul (show 4503599627370496<=m by omega) hp;omega
    by_cases hneg:n<0
    ·rw[decide_eq_true hneg]at hr;have hc1:iO (u64 n)=false:=by
      rw[MI (o:=.lt)]
      ·rfl
      ·rw[hr,Gv _ _ _ _ (by omega) ZT];congr 1;apply UJ;rw[DR,Ci];omega
     have htv:CU n= -9223372036854775808:=(by simp[CU,hn,hbig,hneg]);by_cases hx:m*2^ (i-11).toNat=4503599627370496
     ·right;right;have hi':i=11:=by
       have:¬12<=i:=by
        intro h12;have hp2:2^1<=2^ (i-11).toNat:=Nat.pow_le_pow_right (by omega) (by omega);have:=Nat.mul_le_mul (show 4503599627370496<=m by omega) hp2;omega
       omega
      subst hi';have ADr:m=4503599627370496:=(by simpa using hx);refine⟨hc1,?_,?_⟩
      ·rw[RJ (o:=.eq)]
       ·rfl
       ·rw[hr,Gv _ _ _ _ (by omega) ZT,hx];rw[cmp_eq rfl]
      ·have hq:m*2^ (11:Int).toNat/2^ (-(11:Int)).toNat=9223372036854775808:=(by rw[ADr];rfl);rw[Tx hr (by rw[hq];right;exact⟨rfl,rfl⟩),hq,htv,Ci];rfl
     ·right;left;refine⟨hc1,?_,htv⟩;rw[RJ (o:=.lt)]
      ·rfl
      ·rw[hr,Gv _ _ _ _ (by omega) ZT];congr 1;apply UJ;rw[Ci,Ci];omega
    ·left;rw[decide_eq_false hneg]at hr;refine⟨?_,by simp[CU,hn,hbig,hneg]⟩;by_cases hx:m*2^ (i-11).toNat=4503599627370496
     ·rw[MI (o:=.eq)]
      ·rfl
      ·rw[hr,Gv _ _ _ _ (by omega) ZT];exact congrArg some (cmp_eq (by rw[hx]))
     ·rw[MI (o:=.gt)]
      ·rfl
      ·rw[hr,Gv _ _ _ _ (by omega) ZT];exact congrArg some (aX (by rw[DR,DR];omega))
   ·right;right;have hlt:m<4503599627370496*2^ (11-i).toNat:=Rt (by omega) (by omega);have hmv:=Vx (show FD n<1086 by omega);refine⟨?_,?_,?_⟩
    ·rw[MI (o:=.lt)]
     ·rfl
     ·rw[hr,GH _ _ _ _ (by omega),PK _ hlt]
    ·rw[RJ (o:=.gt)]
     ·rfl
     ·rw[hr,GH _ _ _ _ (by omega),NR _ hlt]
    ·rw[Tx hr (by rw[hmg];left;exact hmv),hmg];congr 1;have h0:FD n<1023->Qn n=0:=by
      intro h;unfold Qn;have e1:FD n-1075=0:=(by omega);rw[e1,Nat.pow_zero,Nat.mul_one];apply Nat.div_eq_of_lt;have:2^53<=2^ (1075-FD n):=Nat.pow_le_pow_right (by omega) (by omega);omega
     unfold CU;rw[hn,if_neg (by simp),if_neg hbig];by_cases hs:FD n<1023
     ·rw[if_pos hs,h0 hs];cases decide (n<0)<;>simp[signed]
     ·rw[if_neg hs];by_cases hneg:n<0
      ·rw[decide_eq_true hneg,if_pos hneg,Ci]
      ·rw[decide_eq_false hneg,if_neg hneg,DR]
end Dp
end
section
open Num Dp
abbrev E9:ByteArray:=⟨#[114,101,102]⟩
structure Ob where (c:ByteArray) (vs:List Vu)
structure Ev where (n:ByteArray) (ar:List Int) (r:Int) (fl:Bool)
structure Lv where (f b:ByteArray) (i:Nat) (vars:Vm)
structure St where (status:Int) (result:Vu) (code:Int) (frames:List Lv) (heap:List Ob) (globals:List Vu) (trace:List Ev) (marks:List Int) (allocs steps guards asked:Int)
def Ar(l:Vm)(a:Ag):Vu:=if a.k=1 then getM l a.s else if a.k=2 then(BA,a.n)else if a.k=3 then(Ao,a.n)else(E9,0)
def Ap(t:ByteArray):Vu:=if t=BA\/t=Ao then(t,0)else(E9,0)
def Lx(t:ByteArray)(a:Option Int):Vu:=match a with
 |none=>Ap t
 |some n=>if t=BA then(t,n)else if t=Ao then(t,Ba n)else(E9,0)
def ET:List Vr->List Int->Vm->Vm
 | [],_,m=>m
 |v::r,l,m=>ET r l.tail (Ei m v.n (Lx v.t l.head?))
def st0:St:=⟨0,(Bv,0),0,[],[],[],[],[],0,0,0,0⟩
def GK(p:Pg)(x:ByteArray)(args:List Int):Option St:=match Ai Fn.n x p.fs with
 |none=>none
 |some f=>match f.bs with
  | []=>none
  |b::_=>some {st0 with frames:=[⟨x,b.n,0,ET f.ps args []⟩],globals:=p.gs.map fun g=>Ap g.t}
def FK(x:ByteArray):List Vr->Option Nat
 | []=>none
 |v::r=>if v.n=x then some 0 else(FK x r).map (· +1)
def BP(s:St)(rest:List Lv)(x:Lv)(d:ByteArray)(v:Vu):St:={s with frames:=rest++[⟨x.f,x.b,x.i+1,if d=Bv then x.vars else Ei x.vars d v⟩]}
def TU(s:St)(rest:List Lv)(x:Lv)(d:ByteArray):Option St:=if d=Bv then some (BP s rest x d (Bv,0))else none
def Gd(s:St)(c:Int):St:={s with status:=2,code:=c}
def setAt{α:Type}(l:List α)(k:Nat)(v:α):List α:=l.set k v
def fieldAt(p:Pg)(s:St)(o:Vu)(x:ByteArray):Option (Nat×ByteArray×List Vu×Nat×Vu):=
 if o.1=E9/\1<=o.2 then match s.heap[(o.2-1).toNat]? with
  |none=>none
  |some ob=>match Ai Cl.n ob.c p.cs with
   |none=>none
   |some c=>match FK x c.fs with
    |none=>none
    |some k=>match ob.vs[k]? with
     |none=>none
     |some v=>some ((o.2-1).toNat,ob.c,ob.vs,k,v)
 else none
def bindM:List Vr->List Vu->Vm->Option Vm
 |_,[],m=>some m
 | [],_::_,_=>none
 |v::r,u::l,m=>bindM r l (Ei m v.n u)
def JN(s:St)(e:Ev):St:={s with trace:=s.trace++[e],marks:=s.marks++[s.allocs]}
def Em(p:Pg)(c:ByteArray)(l:List Vu):List Vu:=match l with
 | []=>match Ai Cl.n c p.cs with
  |none=> []
  |some k=>k.fs.map fun v=>Ap v.t
 |_=>l
def Bq(p:Pg)(ans fails:List Int)(s:St)(rest:List Lv)(x:Lv)(i:Is):Option St:=
 if i.op=25 then some (BP {s with heap:=s.heap++[⟨i.n,Em p i.n (i.as.map (Ar x.vars))⟩],allocs:=s.allocs+1} rest x i.d (E9,(s.heap.length:Int)+1))
 else if i.op=29 then match FK i.n p.gs with
  |none=>none
  |some k=>match s.globals[k]? with
   |none=>none
   |some v=>some (BP s rest x i.d v)
 else if i.op=31 then match Ai Fn.n i.n p.fs with
  |none=>none
  |some g=>match g.bs with
   | []=>none
   |b::_=>match bindM g.ps (i.as.map (Ar x.vars)) []with
    |none=>none
    |some m=>some {s with frames:=rest++[x]++[⟨i.n,b.n,0,m⟩]}
 else if i.op=32 then some (BP {JN s ⟨i.n,i.as.map (fun a=>(Ar x.vars a).2),(ans[s.asked.toNat]?).getD 0,false⟩with asked:=s.asked+1} rest x i.d (BA,(ans[s.asked.toNat]?).getD 0))
 else if i.op=34 then if s.guards∈fails then some {s with guards:=s.guards+1,status:=4}else TU {s with guards:=s.guards+1} rest x i.d
 else match i.as with
 | []=>none
 |a::r=>
  if i.op=22 then some (BP s rest x i.d (Ao,MR (Ar x.vars a).2))
  else if i.op=23 then some (BP s rest x i.d (BA,CU (Ar x.vars a).2))
  else if i.op=24 then some (BP s rest x i.d (Ar x.vars a))
  else if i.op=26 then(if(Ar x.vars a).2=0 then some (Gd s 1)else match fieldAt p s (Ar x.vars a) i.n with
   |none=>none
   |some q=>some (BP s rest x i.d q.2.2.2.2))
  else if i.op=30 then match FK i.n p.gs with
   |none=>none
   |some k=>match s.globals[k]? with
    |none=>none
    |some _=>TU {s with globals:=setAt s.globals k (Ar x.vars a)} rest x i.d
  else if i.op=33 then TU (JN s ⟨Bv,[(Ar x.vars a).2],0,decide ((Ar x.vars a).1=Ao)⟩) rest x i.d
  else match r with
  | []=>none
  |b::_=>
   if i.op=27 then(if(Ar x.vars a).2=0 then some (Gd s 1)else match fieldAt p s (Ar x.vars a) i.n with
    |none=>none
    |some q=>TU {s with heap:=setAt s.heap q.1 ⟨q.2.1,setAt q.2.2.1 q.2.2.2.1 (Ar x.vars b)⟩} rest x i.d)
   else if i.op=28 then some (BP s rest x i.d (BA,if(Ar x.vars a).2=(Ar x.vars b).2 then 1 else 0))
   else if 1<=i.op/\i.op<=14 then(if(Kv i.op (Ar x.vars a).2 (Ar x.vars b).2).2=true then some (BP s rest x i.d (BA,(Kv i.op (Ar x.vars a).2 (Ar x.vars b).2).1))else some (Gd s 2))
   else if 15<=i.op/\i.op<=21 then some (BP s rest x i.d (if i.op<=18 then Ao else BA,(OA i.op (Ar x.vars a).2 (Ar x.vars b).2).1))
   else none
def H7(f:Fn)(s:St)(rest:List Lv)(x:Lv)(y:ByteArray):Option St:=match Ai Bk.n y f.bs with
 |none=>none
 |some b=>if b.ps=[]then some {s with frames:=rest++[⟨x.f,y,0,x.vars⟩]}else none
def K4(p:Pg)(s:St)(rest:List Lv)(v:Vu):Option St:=match rest.getLast? with
 |none=>some {s with frames:=[],status:=1,result:=v}
 |some y=>match Ai Fn.n y.f p.fs with
  |none=>none
  |some g=>match Ai Bk.n y.b g.bs with
   |none=>none
   |some b=>match b.cs[y.i]? with
    |none=>none
    |some i=>if i.d=Bv then none else some (BP s rest.dropLast y i.d v)
def La(p:Pg)(f:Fn)(s:St)(rest:List Lv)(x:Lv)(t:Tm):Option St:=
 if t.k=1 then match t.to with
  | []=>none
  |y::_=>H7 f s rest x y
 else if t.k=2 then match t.to with
  |t0::t1::_=>H7 f s rest x (if(Ar x.vars t.a).2=0 then t1 else t0)
  |_=>none
 else if t.k=3 then K4 p s rest (Ar x.vars t.a)
 else if t.k=4 then some (Gd s t.n)
 else none
def xH(p:Pg)(s:St):Option (Lv×Fn×Bk):=match s.frames.getLast? with
 |none=>none
 |some x=>match Ai Fn.n x.f p.fs with
  |none=>none
  |some f=>match Ai Bk.n x.b f.bs with
   |none=>none
   |some b=>some (x,f,b)
def El(p:Pg)(ans fails:List Int)(s:St)(x:Lv)(f:Fn)(b:Bk):Option St:=
 if x.i=b.cs.length then La p f s s.frames.dropLast x b.e else match b.cs[x.i]? with
  |none=>none
  |some i=>Bq p ans fails s s.frames.dropLast x i
def H8(x:Lv)(b:Bk):Bool:=decide (x.i=b.cs.length)&&decide (b.e.k=1)
def EP(p:Pg)(ans fails:List Int)(fuel:Int)(s:St)(j:Nat):Option (St×Nat):=match xH p s with
 |none=>none
 |some (x,f,b)=>
  if H8 x b=true then(if j=256 then some ({s with status:=3},j)else(El p ans fails s x f b).map fun t=>(t,j+1))
  else if fuel<=s.steps then some ({s with status:=3},j)
  else(El p ans fails {s with steps:=s.steps+1} x f b).map fun t=>(t,0)
def Jg(s:St):St:=if s.status=3 then{s with status:=0}else s
end
def Zl(r:Option ByteArray)(k:Int)(fr:ByteArray)(n:Int):Bool:=
 if k=1 then true else if k=2 then decide (r=some BA)else if k=3 then(match r with|some t=>Du t fr|none=>false)else if k=4 then decide (10<=n)else false
def Pq(f:Fn)(k:Int)(a:Ag)(n:Int):Bool:=Zl (GJ f a) k f.r n
theorem cK{w0 w:World}(h0:AA6 w0 w){f:Fn}{v u1 u2 u3:Value}(hf:EL w0 v f u1 u2 u3)(k:Int)(a:Ag)(p4:Option Addr)(l4 k4:Nat)(n:Int):Calls prog 129 #[v,.agg #[.int .i64 k,.int .i64 a.k,.string a.s,.int .i64 a.n,.slice p4 l4 k4,.int .i64 n]] w fun e w'=>e=.returned (.bool (Pq f k a n))/\AA6 w w':=by
 have J6:=hf;obtain⟨rfl,hz,hp,hv,hbk⟩:=hf;obtain⟨p1,k1,rfl⟩:=hp.slice;obtain⟨p2,k2,rfl⟩:=hv.slice;obtain⟨p3,k3,rfl⟩:=hbk.slice;clear hbk hp hv hz;have hb1:=AJ w (.cells #[.string f.n,.string f.r,.slice p1 f.ps.length k1,.slice p2 f.vs.length k2,.slice p3 f.bs.length k3] 66);have hb2:=hb1.alloc hb1.size (.cells #[.int .i64 k,.int .i64 a.k,.string a.s,.int .i64 a.n,.slice p4 l4 k4,.int .i64 n] 80);have hF:=(Ae.alloc w [.string f.n,.string f.r,.slice p1 f.ps.length k1,.slice p2 f.vs.length k2,.slice p3 f.bs.length k3] 66).al (.cells #[.int .i64 k,.int .i64 a.k,.string a.s,.int .i64 a.n,.slice p4 l4 k4,.int .i64 n] 80);have hT:=Ae.alloc (w.alloc (.cells #[.string f.n,.string f.r,.slice p1 f.ps.length k1,.slice p2 f.vs.length k2,.slice p3 f.bs.length k3] 66)) [.int .i64 k,.int .i64 a.k,.string a.s,.int .i64 a.n,.slice p4 l4 k4,.int .i64 n] 80;have hs:(w.alloc (.cells #[.string f.n,.string f.r,.slice p1 f.ps.length k1,.slice p2 f.vs.length k2,.slice p3 f.bs.length k3] 66)).heap.size=w.heap.size+1:=by simp
 rw[hs]at hT;have hC:=Vj (AB h0 hb2) J6 a;clear hb1 hs J6;unfold Pq;generalize GJ f a=r at*;obtain⟨R,hR⟩:∃R:Bool,R=Zl r k f.r n:=⟨_,rfl⟩;rw[<-hR];unfold Zl at hR;go_enter func129,ntmps129;go_wp2_with fail;refine hC.mono ?_;rintro e w1 ⟨hb3,ho⟩;have hb:=AB hb2 hb3;have a1:=(hF.nx hb3).c 1 _ rfl;have b0:=(hT.nx hb3).c 0 _ rfl;have b5:=(hT.nx hb3).c 5 _ rfl;obtain⟨t,ok,rfl,hok⟩:∃(t:ByteArray) (ok:Bool),e=.returned (.tuple #[.string t,.bool ok])/\((ok=true/\r=some t)\/(ok=false/\r=none)):=by
  cases r with
  |none=>exact⟨_,_,ho,.inr ⟨rfl,rfl⟩⟩
  |some t=>exact⟨_,_,ho.1,.inl ⟨rfl,rfl⟩⟩
 clear ho hC hF hT hb2 hb3;by_cases e1:k=1
 ·subst e1;rw[if_pos rfl]at hR;subst hR;clear hok;go_wp2;go_ret;exact⟨rfl,hb⟩
 rw[if_neg e1]at hR;by_cases e2:k=2
 ·subst e2;rw[if_pos rfl]at hR;rcases hok with⟨rfl,rfl⟩|⟨rfl,rfl⟩
  ·by_cases ht:t=BA
   ·have g:=FE (l:=[105,110,116]) ht;obtain rfl:R=true:=(by rw[hR,ht];rfl);clear ht hR e1;go_wp2;go_ret;exact⟨rfl,hb⟩
   ·have g:=D9 (l:=[105,110,116]) ht;obtain rfl:R=false:=(by rw[hR];exact decide_eq_false (fun h=>ht (by injection h)));clear ht hR e1;go_wp2;go_ret;exact⟨rfl,hb⟩
  ·obtain rfl:R=false:=(by rw[hR];rfl);clear hR e1;go_wp2;go_ret;exact⟨rfl,hb⟩
 rw[if_neg e2]at hR;by_cases e3:k=3
 ·subst e3;rw[if_pos rfl]at hR;rcases hok with⟨rfl,rfl⟩|⟨rfl,rfl⟩
  ·have hD:=Gt t f.r w1;dsimp only at hR;rw[<-hR]at hD;clear hR e1 e2;go_wp2_with fail;refine hD.mono ?_;rintro e w2 ⟨rfl,rfl⟩;clear hD;cases R
   ·go_wp2;go_ret;exact⟨rfl,hb⟩
   ·go_wp2;go_ret;exact⟨rfl,hb⟩
  ·obtain rfl:R=false:=hR;clear e1 e2;go_wp2;go_ret;exact⟨rfl,hb⟩
 rw[if_neg e3]at hR;clear hok;by_cases e4:k=4
 ·subst e4;rw[if_pos rfl]at hR;clear e1 e2 e3;by_cases hn:10<=n
  ·obtain rfl:R=true:=(by rw[hR];exact decide_eq_true hn);clear hR;go_wp2;go_ret;exact⟨rfl,hb⟩
  ·obtain rfl:R=false:=(by rw[hR];exact decide_eq_false hn);have hn2:decide (10<=n)=false:=decide_eq_false hn;clear hR hn;go_wp2;go_ret;exact⟨rfl,hb⟩
 rw[if_neg e4]at hR;subst hR;have f1:(k==1)=false:=by simpa using e1
 have f2:(k==2)=false:=by simpa using e2
 have f3:(k==3)=false:=by simpa using e3
 have f4:(k==4)=false:=by simpa using e4
 clear e1 e2 e3 e4;go_wp2;go_ret;exact⟨rfl,hb⟩
section
open Go.MapKept Go.ChangeMaps
def isIn(T:List ByteArray)(s:ByteArray):Bool:=T.any fun y=>decide (y=s)
theorem sZ{T:List ByteArray}(h:s∈T):isIn T s=true:=by grind [isIn]
theorem su{T:List ByteArray}(h:s∉T):isIn T s=false:=by grind [isIn]
end
end Go.Proofs.YtlffomedflegdaaGreatDoor
