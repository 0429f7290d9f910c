/- Part 24 of 49 of the proof: Word, WordW, WordR, WordB, Ob, Oc. -/
import Derived.Deep.QuietTactic
import Derived.BigQuiet
import Derived.Test.YtlffomedflegdaaGreatDoorPz00
import Derived.Test.YtlffomedflegdaaGreatDoorPz04
import Derived.Test.YtlffomedflegdaaGreatDoorPz06
import Derived.Test.YtlffomedflegdaaGreatDoorPz12
import Derived.Test.YtlffomedflegdaaGreatDoorPz16
import Derived.Test.YtlffomedflegdaaGreatDoorPz23
set_option linter.all false
set_option maxHeartbeats 16000000
set_option maxRecDepth 100000
namespace Go.Proofs.YtlffomedflegdaaGreatDoor
open Go.Proofs.Tryz
open Go.RowKit
variable {l:List UInt8}{md:Region.Mode}{n:Nat}{ops:Array Oper}{v:Value}{w:World}
section
namespace Word
open Dp Num
def L9(c:Nat):Bool:=(decide (97<=c)&&decide (c<=122))||(decide (65<=c)&&decide (c<=90))||decide (c=95)
def Wv(c:Nat):Bool:=decide (48<=c)&&decide (c<=57)
def zJ:List UInt8:=[110,117,108,108]
def ADL:List UInt8:=[105,110,116]
def rY:List UInt8:=[102,108,111,97,116]
def OH(l:List UInt8):Bool:=l==zJ||l==ADL||l==rY
def Np(l:List UInt8)(i:Nat):Bool:=(Wv (l.getD i 0).toNat&&decide (0<i))||L9 (l.getD i 0).toNat
def Gf(l:List UInt8):Nat->Bool
 |0=>true
 |k+1=>Gf l k&&Np l k
def Eb(l:List UInt8):Bool:=decide (1<=l.length)&&decide (l.length<=16)&&Gf l l.length&& !OH l
theorem SQ{k:Nat}(hk:k<n)(h:Np l k=false):Gf l n=false:=by
 induction n with
 |zero=>omega
 |succ n ih=>
  rw[Gf];by_cases e:k=n
  ·subst e;simp[h]
  ·rw[ih (by omega)];rfl
theorem Kg{k:Nat}(hk:k<l.length)(h:Np l k=false):Eb l=false:=by
 unfold Eb;rw[SQ hk h];simp
theorem Oq(h:Gf l l.length=true):Eb l=(decide (1<=l.length)&&decide (l.length<=16)&& !OH l):=by
 unfold Eb;rw[h];simp
theorem Oj(l:List UInt8):Np l 0=L9 (l.getD 0 0).toNat:=by simp[Np]
theorem dQ{i:Nat}(h:0<i):Np l i=(L9 (l.getD i 0).toNat||Wv (l.getD i 0).toNat):=by simp[Np,h,Bool.or_comm]
def KI(K:Int)(l:List UInt8)(n:Int):Bool:=
 if K=1 then Eb l&&decide (n=0)
 else if K=2 then l.isEmpty
 else if K=3 then l.isEmpty&&decide (Ba n=n)
 else if K=4 then l.isEmpty&&decide (n=0)
 else if K=5 then l.isEmpty&&decide (0<=n)&&decide (n<=999)
 else false
theorem Uh{K:Int}{n:Int}(h:K<1\/5<K):KI K l n=false:=by grind [KI]
end Word
end
section
open Word Num
theorem Er(c:Nat)(b:Bool)(hb:L9 c=b)(w:World):Calls prog 208 #[.int .u8 (c:Int)] w fun e w'=>e=.returned (.bool b)/\w=w':=by
 have hl:((decide (97<=c)&&decide (c<=122))||(decide (65<=c)&&decide (c<=90))||decide (c=95))=b:=hb;have H:=hidden hl;by_cases h1:97<=c;all_goals by_cases h2:c<=122
 all_goals by_cases h3:65<=c
 all_goals by_cases h4:c<=90
 all_goals first|(exfalso;omega)|skip
 all_goals
  go_enter func208,ntmps208;go_wp2;all_goals go_ret
  all_goals refine⟨EF ?_,rfl⟩
 all_goals rw[<-H.out,Bool.eq_iff_iff]
 all_goals simp
 all_goals omega
theorem M6(c:Nat)(b:Bool)(hb:Wv c=b)(w:World):Calls prog 210 #[.int .u8 (c:Int)] w fun e w'=>e=.returned (.bool b)/\w=w':=by
 have hl:(decide (48<=c)&&decide (c<=57))=b:=hb;have H:=hidden hl;by_cases h1:48<=c;all_goals by_cases h2:c<=57
 all_goals first|(exfalso;omega)|skip
 all_goals
  go_enter func210,ntmps210;go_wp2;all_goals go_ret
  all_goals refine⟨EF ?_,rfl⟩
 all_goals rw[<-H.out,Bool.eq_iff_iff]
 all_goals simp
 all_goals omega
theorem Ry(s:ByteArray)(b:Bool)(hb:OH s.data.toList=b)(w:World):Calls prog 209 #[.string s] w fun e w'=>e=.returned (.bool b)/\w=w':=by
 have e:=ByteArray.toList_eq s;have hl:(s.toList==[110,117,108,108]||s.toList==[105,110,116]||s.toList==[102,108,111,97,116])=b:=by rw[e];exact hb
 have H:=hidden hl;clear hl hb e;cases h1:(s.toList==[110,117,108,108]);all_goals cases h2:(s.toList==[105,110,116])
 all_goals
  go_enter func209,ntmps209;go_wp2;all_goals go_ret
  all_goals refine⟨EF ?_,rfl⟩
  all_goals rw[<-H.out,h1,h2]
 all_goals rfl
theorem X9(s:ByteArray)(w:World)(h1:1<=s.size)(h2:s.size<=16)(h3:Hid (L9 s[0].toNat=true))(h4:Hid (OH s.data.toList=false))(v:Bool)(hv:Eb s.data.toList=v):Calls prog 164 #[.string s] w fun e w'=>e=.returned (.bool v)/\w=w':=by
 have hne:=Ro (s:=s) h1;have hlen:=hidden (size_data s);have HV:=hidden hv;have hg0:=hidden (Gl (s:=s) (k:=0) h1);go_enter func164,ntmps164;go_wp2_with(first|((with_reducible refine(Er _ _ h3.out _).mono ?_);rintro e w' ⟨rfl,rfl⟩)|((with_reducible refine(Ry _ _ h4.out _).mono ?_);rintro e w' ⟨rfl,rfl⟩))
 go_loop[23] (fun i=>∃k:Nat,k<=s.size/\i=.int .i64 (k:Int)/\Hid (Gf s.data.toList k=true)) (fun i=>s.size-(intOf i).toNat);exact⟨0,by omega,rfl,rfl⟩;obtain⟨k,hk,rfl,hok⟩:=hrel;by_cases hlt:k<s.size
 ·have hg:=hidden (Gl hlt);have hat:Hid (Np s.data.toList k=(L9 s[k].toNat||Wv s[k].toNat)):=by
   show _=_;by_cases h0:k=0
   ·subst h0;rw[Oj,hg.out,h3.out];rfl
   ·rw[dQ (by omega),hg.out]
  cases hl:L9 s[k].toNat
  ·cases hd:Wv s[k].toNat
   ·have HF:Hid (v=false):=by
     show _=_;rw[<-HV.out];exact Kg (by rw[hlen.out];exact hlt) (by rw[hat.out,hl,hd];rfl)
    have Hl:=hidden hl;have Hd:=hidden hd;(go_wp2_with(first|((with_reducible refine(Er _ _ Hl.out _).mono ?_);rintro e w' ⟨rfl,rfl⟩)|((with_reducible refine(M6 _ _ Hd.out _).mono ?_);rintro e w' ⟨rfl,rfl⟩)));go_ret;exact⟨EF HF.out.symm,rfl⟩
   ·have hok':Hid (Gf s.data.toList (k+1)=true):=(by show _=_;rw[Gf,hok.out,hat.out,hl,hd];rfl);have Hl:=hidden hl;have Hd:=hidden hd;(go_wp2_with(first|((with_reducible refine(Er _ _ Hl.out _).mono ?_);rintro e w' ⟨rfl,rfl⟩)|((with_reducible refine(M6 _ _ Hd.out _).mono ?_);rintro e w' ⟨rfl,rfl⟩)));go_round;exact⟨k+1,by omega,by go_num,hok'⟩;simp[intOf];omega
  ·have hok':Hid (Gf s.data.toList (k+1)=true):=(by show _=_;rw[Gf,hok.out,hat.out,hl];rfl);have Hl:=hidden hl;(go_wp2_with(first|((with_reducible refine(Er _ _ Hl.out _).mono ?_);rintro e w' ⟨rfl,rfl⟩)));go_round;exact⟨k+1,by omega,by go_num,hok'⟩;simp[intOf];omega
 ·obtain rfl:k=s.size:=by omega
  have HT:Hid (v=true):=by
   show _=_;rw[<-HV.out,Oq (by rw[hlen.out];exact hok.out),hlen.out,h4.out];simp[h1,h2]
  go_wp2;go_ret;exact⟨EF HT.out.symm,rfl⟩
theorem I8(s:ByteArray)(w:World)(h:s.toList.isEmpty=true\/s.toList.isEmpty=false/\(16<s.size\/¬16<s.size/\∃hp:0<s.size,(L9 s[0].toNat=false\/L9 s[0].toNat=true/\OH s.data.toList=true))):Calls prog 164 #[.string s] w fun e w'=>e=.returned (.bool false)/\w=w':=by
 rcases h with h|⟨he,h|⟨h,hp,hl|⟨hl,hk⟩⟩⟩
 ·go_enter func164,ntmps164;go_wp2;go_ret;exact⟨rfl,rfl⟩
 ·go_enter func164,ntmps164;go_wp2;go_ret;exact⟨rfl,rfl⟩
 ·have Hl:=hidden hl;go_enter func164,ntmps164;go_wp2_with(first|((with_reducible refine(Er _ _ Hl.out _).mono ?_);rintro e w' ⟨rfl,rfl⟩))
  go_ret;exact⟨rfl,rfl⟩
 ·have Hl:=hidden hl;have Hk:=hidden hk;go_enter func164,ntmps164;go_wp2_with(first|((with_reducible refine(Er _ _ Hl.out _).mono ?_);rintro e w' ⟨rfl,rfl⟩)|((with_reducible refine(Ry _ _ Hk.out _).mono ?_);rintro e w' ⟨rfl,rfl⟩))
  go_ret;exact⟨rfl,rfl⟩
theorem Rp(s:ByteArray)(v:Bool)(hv:Eb s.data.toList=v)(w:World):Calls prog 164 #[.string s] w fun e w'=>e=.returned (.bool v)/\w=w':=by
 have hsz:=size_data s;by_cases h1:1<=s.size
 ·have hne:=Ro (s:=s) h1;have hg0:=Gl (s:=s) (k:=0) h1;by_cases h2:s.size<=16
  ·cases h3:L9 s[0].toNat
   ·have:v=false:=(by rw[<-hv];exact Kg (k:=0) (by omega) (by rw[Oj,hg0];exact h3));subst this;exact I8 s w (.inr ⟨hne,.inr ⟨by omega,h1,.inl h3⟩⟩)
   ·cases h4:OH s.data.toList
    ·exact X9 s w h1 h2 h3 h4 v hv
    ·have:v=false:=(by rw[<-hv];simp[Eb,h4]);subst this;exact I8 s w (.inr ⟨hne,.inr ⟨by omega,h1,.inr ⟨h3,h4⟩⟩⟩)
  ·have:v=false:=by
    rw[<-hv];unfold Eb;rw[hsz];simp[h2]
   subst this;exact I8 s w (.inr ⟨hne,.inl (by omega)⟩)
 ·have h0:s.size=0:=by omega
  have:v=false:=by
   rw[<-hv];unfold Eb;rw[hsz];simp[h0]
  subst this;refine I8 s w (.inl ?_);have:s=ByteArray.empty:=by simpa using h0
  rw[this,ByteArray.toList_eq];rfl
end
section
open Word Num
theorem kK{s:ByteArray}{k:Nat}(h:k<s.size){c:Nat}(hc:s[k].toNat=c):Np s.data.toList k=((decide (48<=c)&&decide (c<=57)&&decide (0<k))||((decide (97<=c)&&decide (c<=122))||(decide (65<=c)&&decide (c<=90))||decide (c=95))):=by
 unfold Np Wv L9;rw[Gl h,hc]
theorem KZ(s:ByteArray)(v:Bool)(hv:Eb s.data.toList=v)(hsz:s.size<=9223372036854775807)(w:World):Calls prog 239 #[.string s] w fun e w'=>e=.returned (.bool v)/\w=w':=by
 have hlen:=hidden (size_data s);have HV:=hidden hv;go_enter func239,ntmps239;go_wp2;go_loop[3] (fun i=>∃k:Nat,k<=s.size/\i=.int .i64 (k:Int)/\Hid (Gf s.data.toList k=true)) (fun i=>s.size-(intOf i).toNat);exact⟨0,by omega,rfl,rfl⟩;obtain⟨k,hk,rfl,hok⟩:=hrel;by_cases hlt:k<s.size
 ·have hcase:(s[k].toNat<48\/(48<=s[k].toNat/\s[k].toNat<=57/\k=0)\/(57<s[k].toNat/\s[k].toNat<65)\/(90<s[k].toNat/\s[k].toNat<95)\/(95<s[k].toNat/\s[k].toNat<97)\/122<s[k].toNat)\/
   ((48<=s[k].toNat/\s[k].toNat<=57/\0<k)\/(65<=s[k].toNat/\s[k].toNat<=90)\/s[k].toNat=95\/(97<=s[k].toNat/\s[k].toNat<=122)):=by omega
  have hat:=kK hlt rfl;rcases hcase with hc|hc
  ·have HF:Hid (v=false):=by
    show _=_;rw[<-HV.out];refine Kg (by rw[hlen.out];exact hlt) ?_;rw[hat];simp;omega
   clear hat;have Wn:((s[k].toNat:Int) !=95)=true:=(by rw[bne_iff_ne];omega);rcases hc with hc|⟨h1,h2,rfl⟩|⟨h1,h2⟩|⟨h1,h2⟩|⟨h1,h2⟩|hc;all_goals
    go_wp2;go_ret;exact⟨EF HF.out.symm,rfl⟩
  ·have hok':Hid (Gf s.data.toList (k+1)=true):=by
    show _=_;rw[Gf,hok.out,hat];simp;omega
   have Wn:((s[k].toNat:Int) !=95)=true\/((s[k].toNat:Int) !=95)=false:=(by cases((s[k].toNat:Int) !=95)<;>simp);rcases Wn with Wn|Wn
   ·rcases hc with⟨h1,h2,h3⟩|⟨h1,h2⟩|h1|⟨h1,h2⟩;(all_goals first|(exfalso;rw[bne_iff_ne]at Wn;omega)|skip);all_goals
     go_wp2;go_round;exact⟨k+1,by omega,by go_num,hok'⟩;simp[intOf];omega
   ·have h1:s[k].toNat=95:=(by rw[bne_eq_false_iff_eq]at Wn;omega);have h2:57<s[k].toNat:=(by omega);clear hc h1;go_wp2;go_round;exact⟨k+1,by omega,by go_num,hok'⟩;simp[intOf];omega
 ·obtain rfl:k=s.size:=by omega
  have hk:=ByteArray.toList_eq s;have HT:Hid (v=(decide (1<=s.size)&&decide (s.size<=16)&& !(s.toList==[110,117,108,108]||s.toList==[105,110,116]||s.toList==[102,108,111,97,116]))):=by
   show _=_;rw[<-HV.out,Oq (by rw[hlen.out];exact hok.out),hlen.out,hk];rfl
  clear hk;by_cases h1:1<=s.size;all_goals by_cases h2:s.size<=16
  all_goals first|(exfalso;omega)|skip
  all_goals cases h3:(s.toList==[110,117,108,108])
  all_goals cases h4:(s.toList==[105,110,116])
  all_goals
   go_wp2;(all_goals go_ret);(all_goals refine⟨EF ?_,rfl⟩);all_goals rw[HT.out,h3,h4]
  all_goals by_cases q1:1<=s.size<;>by_cases q2:s.size<=16<;>first|(exfalso;omega)|(simp[q1,q2];done)
end
section
open Word Num Dp
theorem QM(n m:Int)(h:Ba n=m)(w:World):Calls prog 34 #[.int .i64 n] w fun e w'=>e=.returned (.int .i64 m)/\w'=w:=by grind [NG]
theorem jr(s:ByteArray)(n:Int){v:Bool}(hb2:(!s.toList.isEmpty)=false)(hv:Hid ((decide (0<=n)&&decide (n<=999))=v))(w:World):Calls prog 216 #[.agg #[.int .i64 5,.string s,.int .i64 n]] w fun e w'=>e=.returned (.bool v)/\AA6 w w':=by
 by_cases h7:0<=n
 ·by_cases h8:n<=999
  ·have:v=true:=(by rw[<-hv.out];simp[h7,h8]);subst this;go_enter func216,ntmps216;go_wp2;go_quiet (fail);go_wp2;go_ret;exact⟨rfl,by first|exact AJ _ _|exact below_drewN (AJ _ _) _⟩
  ·have:v=false:=(by rw[<-hv.out];simp[h7,h8]);subst this;go_enter func216,ntmps216;go_wp2;have hd:decide (n<=(999:Int))=false:=decide_eq_false (by omega);go_quiet (fail);go_wp2;go_ret;exact⟨rfl,by first|exact AJ _ _|exact below_drewN (AJ _ _) _⟩
 ·have:v=false:=by rw[<-hv.out];simp[h7]
  subst this;go_enter func216,ntmps216;go_wp2;have hd:decide ((0:Int)<=n)=false:=decide_eq_false (by omega);go_quiet (fail);go_wp2;go_ret;exact⟨rfl,by first|exact AJ _ _|exact below_drewN (AJ _ _) _⟩
theorem ND(K:Int)(s:ByteArray)(hs:Hid (s.size<=9223372036854775807))(n:Int)(v:Bool)(hv:KI K s.data.toList n=v)(w:World):Calls prog 216 #[.agg #[.int .i64 K,.string s,.int .i64 n]] w fun e w'=>e=.returned (.bool v)/\AA6 w w':=by
 have hem:s.data.toList.isEmpty=s.toList.isEmpty:=by rw[ByteArray.toList_eq]
 by_cases h1:K=1
 ·subst h1;have hv':Hid ((Eb s.data.toList&&decide (n=0))=v):=hv;cases hb:Eb s.data.toList;all_goals
   have Hb:=hidden hb;go_enter func216,ntmps216;(go_wp2_with((with_reducible refine(KZ _ _ Hb.out hs.out _).mono ?_);rintro e w' ⟨rfl,rfl⟩));go_ret;refine⟨EF ?_,AJ _ _⟩;rw[<-hv'.out,Hb.out,Bool.eq_iff_iff];simp
 ·have e1:(K==1)=false:=by simpa using h1
  by_cases hout:K<1\/5<K
  ·have:v=false:=(by rw[<-hv,Uh hout]);subst this;rcases hout with hout|hout
   ·go_enter func216,ntmps216;go_wp2;(try(go_quiet (fail);go_wp2));go_ret;exact⟨rfl,by first|exact AJ _ _|exact below_drewN (AJ _ _) _⟩
   ·have h2:¬K<1:=(by omega);go_enter func216,ntmps216;go_wp2;(try(go_quiet (fail);go_wp2));go_ret;exact⟨rfl,by first|exact AJ _ _|exact below_drewN (AJ _ _) _⟩
  ·have hK:K=2\/K=3\/K=4\/K=5:=(by omega);have hv':Hid ((s.toList.isEmpty&& (if K=2 then true else if K=3 then decide (Ba n=n)else if K=4 then decide (n=0)else(decide (0<=n)&&decide (n<=999))))=v):=by
    show _=_;rw[<-hv,<-hem];rcases hK with rfl|rfl|rfl|rfl<;>simp[KI,Bool.and_assoc]
   cases hb:s.toList.isEmpty
   ·have:v=false:=(by rw[<-hv'.out,hb];rfl);subst this;rcases hK with rfl|rfl|rfl|rfl;all_goals
     go_enter func216,ntmps216;go_wp2;(try(go_quiet (fail);go_wp2));go_ret;exact⟨rfl,by first|exact AJ _ _|exact below_drewN (AJ _ _) _⟩
   ·have ZK:Hid ((if K=2 then true else if K=3 then decide (Ba n=n)else if K=4 then decide (n=0)else(decide (0<=n)&&decide (n<=999)))=v):=by
     show _=_;rw[<-hv'.out,hb];simp
    have hb2:(!s.toList.isEmpty)=false:=(by rw[hb];rfl);rcases hK with rfl|rfl|rfl|rfl
    ·have:v=true:=(by rw[<-ZK.out];rfl);subst this;go_enter func216,ntmps216;go_wp2;go_quiet (fail);go_wp2;go_ret;exact⟨rfl,by first|exact AJ _ _|exact below_drewN (AJ _ _) _⟩
    ·have hp:Ba n=Ba n:=rfl;revert hp;generalize hm:Ba n=m at ZK;intro _;have Hm:=hidden hm;have h7:(m==n)=v:=(by rw[<-ZK.out];simp[Bool.beq_eq_decide_eq]);cases v;all_goals
      go_enter func216,ntmps216;go_wp2;go_quiet ((go_at_call 34;exact Calls.quiet_of_same (QM _ _ Hm.out _)));go_wp2;go_ret;exact⟨rfl,by first|exact AJ _ _|exact below_drewN (AJ _ _) _⟩
    ·have h7:(n==0)=v:=(by rw[<-ZK.out];simp[Bool.beq_eq_decide_eq]);cases v;all_goals
      go_enter func216,ntmps216;go_wp2;go_quiet (fail);go_wp2;go_ret;exact⟨rfl,by first|exact AJ _ _|exact below_drewN (AJ _ _) _⟩
    ·exact jr s n hb2 ZK w
end
section
open Word Num Dp
def jT(n:Nat)(e:Ending):Prop:=∃t:ByteArray,e=.returned (.string t)/\t.size<=n
theorem Vq(h:l.length<=n):jT n (.returned (.string ⟨l.toArray⟩)):=⟨_,rfl,by show l.toArray.size<=n;simpa using h⟩
theorem KL{n:Int}(hn:Bo n)(w:World):Calls prog 172 #[.int .i64 n] w fun e w'=>jT 20 e/\AA6 w w':=by
 refine(Kc n hn w).mono ?_;grind [Kc,Vq,NU]
theorem MZ{x:Ag}(hs:Sz x.s)(hn:Bo x.n)(w:World):Calls prog 173 #[.agg #[.int .i64 x.k,.string x.s,.int .i64 x.n]] w fun e w'=>jT (x.s.size+32) e/\AA6 w w':=by
 obtain⟨K,s,n⟩:=x;replace hs:Sz s:=hs;replace hn:Bo n:=hn;have hB:=Ae.alloc w [.int .i64 K,.string s,.int .i64 n] 77;have hb:=AJ w (.cells #[.int .i64 K,.string s,.int .i64 n] 77);have hr:=fun w=>ND K s (hidden (by unfold Sz at hs;omega)) n _ rfl w;generalize KI K s.data.toList n=v at hr;have hn:=hidden hn;go_enter func173,ntmps173;go_wp2_with fail;refine(hr _).mono ?_;rintro e w1 ⟨rfl,h0⟩;have hB1:=hB.nx h0;obtain⟨c0,c1,c2⟩:=hB1.c3;replace hb:=AB hb h0;cases v
 ·go_wp2;go_ret;exact⟨⟨_,rfl,AY⟩,hb⟩
 by_cases e1:K=1
 ·subst e1;go_wp2;go_ret;exact⟨⟨_,rfl,Nat.le_add_right _ _⟩,hb⟩
 have e1:(K==1)=false:=by simp[e1]
 by_cases e2:K=2
 ·subst e2;go_wp2_with fail;refine(KL hn.out _).mono ?_;rintro e w2 ⟨⟨t,rfl,ht⟩,h2⟩;go_wp2;go_ret;exact⟨⟨_,rfl,by show t.size<=s.size+32;omega⟩,AB hb h2⟩
 have e2:(K==2)=false:=by simp[e2]
 by_cases e3:K=3
 ·subst e3;go_wp2_with fail;refine(Rf _ _).mono ?_;rintro e w2 ⟨rfl,h2⟩;go_wp2;go_ret;exact⟨Vq (by rw[NV];omega),AB hb h2⟩
 have e3:(K==3)=false:=by simp[e3]
 by_cases e4:K=4
 ·subst e4;go_wp2;go_ret;exact⟨⟨_,rfl,by show 4<=s.size+32;omega⟩,hb⟩
 have e4:(K==4)=false:=by simp[e4]
 go_wp2_with fail;refine(KL hn.out _).mono ?_;rintro e w2 ⟨⟨t,rfl,ht⟩,h2⟩;have htI:(t.size:Int)<=20:=by omega
 go_wp2;go_ret;have h35:(⟨#[35]⟩:ByteArray).size=1:=rfl;exact⟨⟨_,rfl,by rw[ByteArray.size_append,h35];show 1+t.size<=s.size+32;omega⟩,AB hb h2⟩
def Ce(w:World)(B:Nat)(v:Value)(n:Nat):Prop:=∃l:List ByteArray,w.ownsRow B 9 1 v l.length (l.map .string)/\lens l<=n
theorem Ru(a b:List ByteArray):lens (a++b)=lens a+lens b:=D5 _ a b
section
variable {w w1 : World} {B n : Nat} {v : Value}
theorem Ce.sl(h:Ce w B v n):∃p m c,v=.slice p m c:=by grind [Ce,Bf]
theorem Ce.up{k:Nat}(h:Ce w B v n)(hk:n<=k):Ce w B v k:=by grind [Ce]
theorem Ce.nx(h:Ce w B v n)(hb:AA6 w w1):Ce w1 B v n:=by grind [Ce,Dh]
theorem Ce.ws(h:Ce w B v n):∃l,Ws w v l/\lens l<=n:=by grind [Ce,Ws,lens]
theorem Ce.nil:Ce w B (.slice none 0 0) 0:=⟨[],World.ownsRow_nil _ _ _ _,AQ⟩
theorem Ce.new(w:World)(hB:B<=w.heap.size)(l:List ByteArray)(hl:l.length<=maxLen):Ce (w.alloc (Obj.cells (l.map Value.string).toArray 9)) B (.slice (some ⟨w.heap.size,0,none⟩) l.length l.length) (lens l):=by
 refine⟨l,?_,AQ⟩;have:=World.ownsRow_lit (base:=B) (e:=9) (size:=1) w (l.map Value.string).toArray l.length hB hl (by simp);simpa using this
theorem Mc{o:Oper}{a:Act}{K:Act->World->Prop}{Q:Exit->Act->World->Prop}(s x:Operand)(ho:o.op=.call {callee:=.builtin .append,args:=#[s,x],argTypes:=#[78,78]}) (hs:a.eval s=v) (hv:Ce w B v n) (new:List ByteArray) (pb:Nat)(hx:a.eval x=.slice (some ⟨pb,0,none⟩) new.length new.length) (hb:Ae w pb (new.map Value.string)) (hn:n+lens new<=100000000) (hB:B<=w.heap.size)(h:∀v' w',Ce w' B v' (n+lens new)->Kp 9 B w w'->K (a.put o.dst v') w'):o.wp prog a w K Q:=by
 obtain⟨i0,hi,hz0,hz1,hz2⟩:=Cq (P:=prog) (t:=9) (z:=.string .empty) (s:=1) (b:=16) (by kernel_rfl);obtain⟨l,h1,h2⟩:=hv;have l1:=Iu l;have l2:=Iu new;refine wp_append_own' s x 78 ho B 9 i0 _ 1 16 underlying78 hi hz0 hz1 hz2 rfl (by decide) v _ _ hs h1 ⟨pb,0,none⟩ _ _ (new.map Value.string) hx (by simp) (fun j u hu=>by rw[Dk,Nat.zero_add];exact hb.c j u hu) (fun u hu=>by obtain⟨s,_,rfl⟩:=List.mem_map.1 hu;rfl) (by unfold maxLen;omega) (by omega) hB fun v' w' k1 k2 _=>h v' w' ⟨l++new,by rw[List.length_append,List.map_append];exact k1,by rw[Ru];omega⟩ (.grown h1 k2 hB)
theorem Fh{rest:List Oper}{o:Oper}{a:Act}{Q:Exit->Act->World->Prop}(hgd:o.guard=none)(s x:Operand)(ho:o.op=.call {callee:=.builtin .append,args:=#[s,x],argTypes:=#[78,78]}) (hs:a.eval s=v) (hv:Ce w B v n) (new:List ByteArray) (pb:Nat)(hx:a.eval x=.slice (some ⟨pb,0,none⟩) new.length new.length) (hb:Ae w pb (new.map Value.string)) (hn:n+lens new<=100000000) (hB:B<=w.heap.size)(h:∀v' w',Ce w' B v' (n+lens new)->Kp 9 B w w'->wpList prog ops Q rest (a.put o.dst v') w'):wpList prog ops Q (o::rest) a w:=
 wpList_plain hgd fun _ hK=>Mc s x ho hs hv new pb hx hb hn hB fun v' w' h2 h3=>hK _ _ (h v' w' h2 h3)
end
def En(l:List Ag):Nat:=Aj (fun a=>a.s.size+33) l
theorem Ow{w0:World}(h0:AA6 w0 w){B:Nat}{u:Value}{l:List Ag}(hv:Ce w B v n)(hl:Row Lg 3 w0 u l)(hr:∀a∈l,Bo a.n)(hB:B<=w.heap.size)(hB0:w0.heap.size<=B)(hn:n+En l<=100000000):Calls prog 218 #[v,u] w fun e w'=>∃v',e=.returned v'/\Ce w' B v' (n+En l)/\Kp 9 B w w':=by
 obtain⟨p,c,rfl,-,hl2,hl⟩:=hl;obtain⟨p0,m0,c0,rfl⟩:=hv.sl;go_enter func218,ntmps218;go_wp2;go_loopw[0,5] (fun v i wr=>∃(q:Nat),q<=l.length/\i=.int .i64 (q:Int)/\Ce wr B v (n+En (l.take q))/\Kp 9 B w wr) (fun _ i _=>l.length-(intOf i).toNat);exact⟨0,AY,rfl,hv,.refl⟩;obtain⟨q,hq,rfl,hv,hk⟩:=hrel;obtain⟨p0,m0,c0,rfl⟩:=hv.sl;have hBr:B<=wr.heap.size:=AX hB hk.b.size;by_cases hend:q=l.length
 ·subst hend;rw[List.take_length]at hv;go_wp2;go_ret;exact⟨_,rfl,hv,hk⟩
 ·have hlt:q<l.length:=by omega
  have A8:(q:Int)<l.length:=by omega
  obtain⟨a,rfl,g0,⟨g1,hz⟩,g2⟩:=hl q l[q] (by simp[hlt]);have hw:=h0.trans (hk.b.mono hB0);have g0:=AA hw g0;have g1:=AA hw g1;have g2:=AA hw g2;have hs:=BD (fun a:Ag=>a.s.size+33) hlt;change En (l.take (q+1))=En (l.take q)+(l[q].s.size+33)at hs;have hall:En (l.take (q+1))<=En l:=by
   have:=D5 (fun a:Ag=>a.s.size+33) (l.take (q+1)) (l.drop (q+1));rw[List.take_append_drop]at this;unfold En;omega
  have hA:=fun w=>MZ hz (hr l[q] (List.getElem_mem hlt)) w;generalize l[q]=x at*;go_wp2_with fail;refine(hA _).mono ?_;rintro e w1 ⟨⟨t,rfl,ht⟩,hb1⟩;have hv1:=(hv.nx hb1).nx (AJ w1 (.cells #[.string t] 9));go_wp2_with(at_builtin;refine Fh rfl _ _ rfl rfl hv1 [t] _ rfl (Ae.alloc _ _ _) (by simp[lens,Aj];omega) (by simp;have:=hb1.size;omega) ?_;intro v' w3 hv3 hk3;obtain⟨p3,m3,c3,rfl⟩:=hv3.sl)
  go_roundw;exact⟨q+1,by omega,by go_num,hv3.up (by simp[lens,Aj];omega),((hk.nx hB hb1).nx hB (AJ _ _)).trans hk3⟩;simp[intOf];omega
end
section
def marks(md:Region.Mode)(ops:Array Oper)(i:Nat)(l:List Nat):List Nat:=l.foldl (fun acc m=>if acc.any (fun x=>waits md ops m x)then m::acc else acc) [i]
theorem Rq{L:Nat->Bool}(h:Right md ops L):∀(l acc:List Nat),(∀x∈acc,L x=false)->∀x∈l.foldl (fun acc m=>if acc.any (fun x=>waits md ops m x)then m::acc else acc) acc,L x=false
 | [],_,ha=>ha
 |m::r,acc,ha=>by
  rw[List.foldl_cons];refine Rq h r _ fun x hx=>?_;split at hx
  ·rename_i hm
   rcases List.mem_cons.1 hx with rfl|hx
   ·obtain⟨y,hy,hw⟩:=List.any_eq_true.1 hm;exact h _ _ hw (ha y hy)
   ·exact ha x hx
  ·exact ha x hx
theorem Right.far{L:Nat->Bool}(h:Right md ops L){i j:Nat}(hm:(marks md ops i (List.range (j+1))).contains j=true)(hi:L i=false):L j=false:=by grind [Right,marks,Rq]
theorem Zf.f{S:(Nat->Value)->(Nat->Bool)->World->Prop}{j:Nat}{V:Nat->Value}{L:Nat->Bool}(z:Zf md ops S j V L w)(k:Nat)(h:(marks md ops j (List.range (k+1))).contains k=true):L k=false:=Right.far z.r h z.i
abbrev Rs:=Nat->Option (Nat×(Value->World->Prop))
def GC(K:World->Prop)(R:Rs)(cl:Nat)(Y:Value->World->Prop)(V:Nat->Value)(L:Nat->Bool)(w:World):Prop:=
 (L cl=false->K w/\∀i c X,R i=some (c,X)->L i=true->L c=false->X (V i) w)/\(L cl=true->Y (V cl) w)
def xK(R:Rs)(i:Nat)(V:Nat->Value)(L:Nat->Bool)(w w2:World):Prop:=∀j c X,R j=some (c,X)->j≠i->c≠i->L j=true->L c=false->X (V j) w->X (V j) w2
def R1(i c:Nat)(X:Value->World->Prop):Rs:=fun k=>if k=i then some (c,X)else none
def R2(i c:Nat)(X:Value->World->Prop)(R:Rs):Rs:=fun k=>if k=i then some (c,X)else R k
section
variable {K : World -> Prop} {w w2 : World} {R : Rs} {cl i c : Nat} {X Y : Value -> World -> Prop} {V : Nat -> Value} {L : Nat -> Bool}
theorem Cv{k:Nat}(h:i≠k->c≠k->L i=true->L c=false->X (V i) w->X (V i) w2):xK (R1 i c X) k V L w w2:=by grind [xK,R1]
theorem CO{k:Nat}(h:i≠k->c≠k->L i=true->L c=false->X (V i) w->X (V i) w2)(hr:xK R k V L w w2):xK (R2 i c X R) k V L w w2:=by grind [xK,R2]
theorem GC.start(h:K w):GC K R cl Y V (fun _=>false) w:=by grind [GC]
theorem GC.keep(h:GC K R cl Y V L w)(hR:R i=none)(h1:(cl==i)=false):GC K R cl Y V (upd L i) w:=by
 unfold GC;rw[Dm h1];refine⟨fun hc=>⟨(h.1 hc).1,fun j d X hj hl hd=>(h.1 hc).2 j d X hj ?_ ?_⟩,h.2⟩
 ·rw[Dm (by rw[beq_eq_false_iff_ne];intro e;subst e;rw[hj]at hR;cases hR)]at hl;exact hl
 ·unfold upd at hd;rw[Bool.or_eq_false_iff]at hd;exact hd.2
theorem GC.k(h:GC K R cl Y V L w)(hc:L cl=false):K w:=(h.1 hc).1
theorem GC.val(h:GC K R cl Y V L w)(hc:L cl=false)(hR:R i=some (c,X))(hi:L i=true)(hd:L c=false):X (V i) w:=(h.1 hc).2 i c X hR hi hd
theorem GC.made(h:GC K R cl Y V L w)(hs:xK R i V L w w2)(hk:K w2)(hc:L cl=false)(hR:R i=some (c,X))(hx:X v w2)(h1:(cl==i)=false):GC K R cl Y (EB V i v) (upd L i) w2:=by grind [GC,xK,EB,upd,Dm,BL,Gq,Br]
theorem GC.call(hy:Y v w2):GC K R cl Y (EB V cl v) (upd L cl) w2:=by simp_all[GC,EB,upd]
theorem GC.done(h:GC K R cl Y V L w)(hc:L cl=true):Y (V cl) w:=h.2 hc
end
def XW(l:List ByteArray)(v:Value)(w:World):Prop:=∃pb,v=.slice (some ⟨pb,0,none⟩) l.length l.length/\Ws w v l
theorem XW.new(w:World)(l:List ByteArray)(hl:l.length<=maxLen):XW l (.slice (some ⟨w.heap.size,0,none⟩) l.length l.length) (w.alloc (Obj.cells (l.map Value.string).toArray 9)):=⟨_,rfl,Ws.new w l hl⟩
theorem Yk{l:List Vr}{q:Nat}(h:q<l.length):CY (l.take (q+1))=CY (l.take q)+(1+l[q].n.size+l[q].t.size):=by grind [CY,BD,cases Vr]
theorem mM(l:List Vr)(q:Nat):CY (l.take q)<=CY l:=by
 have:=D5 (fun v:Vr=>v.n.size+v.t.size) (l.take q) (l.drop q);rw[List.take_append_drop]at this;unfold CY;grind
theorem I9{w0:World}(h0:AA6 w0 w){B:Nat}{u:Value}{l:List Vr}{s:ByteArray}(hs:s.size<=10)(hv:BU w B v n)(hl:Row IU 2 w0 u l)(hB:B<=w.heap.size)(hB0:w0.heap.size<=B)(hn:n+100*CY l<=100000000):Calls prog 171 #[v,.string s,u] w fun e w'=>∃v',e=.returned v'/\BU w' B v' (n+100*CY l)/\Kp 5 B w w':=by
 obtain⟨p,c,rfl,-,hl2,hl⟩:=hl;obtain⟨p0,m0,c0,rfl⟩:=hv.sl;go_enter func171,ntmps171;go_wp2;go_loopw[0,7] (fun v i wr=>∃(q:Nat),q<=l.length/\i=.int .i64 (q:Int)/\BU wr B v (n+100*CY (l.take q))/\Kp 5 B w wr) (fun _ i _=>l.length-(intOf i).toNat);exact⟨0,AY,rfl,hv,.refl⟩;obtain⟨q,hq,rfl,hv,hk⟩:=hrel;obtain⟨p0,m0,c0,rfl⟩:=hv.sl;have hBr:B<=wr.heap.size:=AX hB hk.b.size;by_cases hend:q=l.length
 ·subst hend;rw[List.take_length]at hv;go_wp2;go_ret;exact⟨_,rfl,hv,hk⟩
 ·have hlt:q<l.length:=by omega
  have A8:(q:Int)<l.length:=by omega
  obtain⟨a,rfl,⟨g0,z0⟩,g1,z1⟩:=hl q l[q] (by simp[hlt]);have hw:=h0.trans (hk.b.mono hB0);replace g0:=AA hw g0;replace g1:=AA hw g1;have hs1:=Yk hlt;have hs2:=mM l (q+1);generalize l[q]=x at*;have hbd:=(Below.refl wr.heap.size wr).drew;go_wp2_with fail;refine AV (S:=GC (fun v=>AA6 wr v) (R1 12 13 (XW [s,x.n,x.t])) 13 (fun v' w'=>∃p m c,v'=.slice p m c/\BU w' B v' (n+100*CY (l.take (q+1)))/\Kp 5 B wr w')) rfl (by kernel_rfl) (GC.start hbd) ?_;iterate 12((apply AU.z rfl;intro V L w1 _ _ _ z hK;(try(have hc:=z.f 13 (by kernel_rfl);have hI:=z.s.k hc;(have d0:=AA hI g0;have d1:=AA hI g1)));go_simp;exact hK (z.s.keep rfl rfl);intros;rfl))
  refine AU.free (fun _=>rfl) (fun V L w1 K' Q' hS hi hR hd hK=>?_) ?_
  ·have hc:=hR.out.far (j:=13) (by kernel_rfl) hi;go_simp;(try simp only[pE]);exact hK.out _ _ rfl (hS.made (Cv fun h=>absurd rfl h) ((hS.k hc).alloc (hS.k hc).size _) hc rfl (XW.new w1 [s,x.n,x.t] (show 3<=maxLen by decide)) rfl)
  (try simp only[pE]);refine AU.free (fun _=>rfl) (fun V L w1 K' Q' hS hi hR hd hK=>?_) ?_
  ·obtain⟨pb,hp,hx⟩:=hS.val hi rfl (hd.out 12 (by kernel_rfl)) hi;have hI:=hS.k hi;rw[hp]at hx;simp only[hp];go_simp;(go_wp2_with(refine(Cx (hv.nx hI) hx (AX hBr hI.size) (by simp[lens,Aj];omega)).mono ?_;rintro e w2 ⟨v',rfl,hv',hk'⟩));obtain⟨p3,m3,c3,rfl⟩:=hv'.sl;exact hK.out _ _ (by simp only[hp];rfl) (GC.call ⟨_,_,_,rfl,hv'.up (by simp[lens,Aj];omega),(Kp.of hI hBr).trans hk'⟩)
  (try simp only[pE]);((refine AU.step (a1:=?_) (fun _=>rfl) (fun V L w1 K' Q' hS hi hR hd hK=>?_) ?_ ?_ ?_;rotate_left);(· (go_simp;(try simp only[pE]);exact hK.out _ (hS.keep rfl rfl)));(· (intro V;rfl));(· (exact fun L V V' Kt hl hv=>hv (13) (Classical.byContradiction fun h=>by have:=Kt (14) (13) (by kernel_rfl) (by simpa using h);rw[hl]at this;cases this))));refine AU.nil fun V w3 hS=>?_;obtain⟨p3,m3,c3,GX,hv3,hk3⟩:=hS.done rfl;rw[GX]at hv3;simp only[GX];go_wp2;go_roundw;exact⟨q+1,by omega,by go_num,hv3,hk.trans hk3⟩;simp[intOf];omega
end
end Go.Proofs.YtlffomedflegdaaGreatDoor
