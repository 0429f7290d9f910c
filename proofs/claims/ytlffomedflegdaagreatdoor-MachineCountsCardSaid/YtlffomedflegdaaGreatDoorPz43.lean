/- Part 43 of 49 of the proof: Tb, Tc, Td, Te, Tf. -/
import Derived.Test.YtlffomedflegdaaGreatDoorPz00
import Derived.Test.YtlffomedflegdaaGreatDoorPz04
import Derived.Test.YtlffomedflegdaaGreatDoorPz24
import Derived.Test.YtlffomedflegdaaGreatDoorPz28
import Derived.Test.YtlffomedflegdaaGreatDoorPz32
import Derived.Test.YtlffomedflegdaaGreatDoorPz42
set_option linter.all false
set_option maxHeartbeats 16000000
set_option maxRecDepth 100000
namespace Go.Proofs.YtlffomedflegdaaGreatDoor
open Go.Proofs.Tryz
open Go.RowKit
variable {B N R:Nat}{fi:Bool}{ln:Int}{u:Value}{w w0:World}
abbrev L6:ByteArray:=⟨#[111,117,116]⟩
def oD(s:ByteArray):Bool:=(List.range 201).all fun a=> !(decide ((s.extract (a+1) (a+4)).data.toList=[111,117,116]))
theorem Rn{s:ByteArray}(h:oD s=true){a q:Nat}(ha:a<=200):((s.extract (a+1) q).toList==L6.toList)=false:=by
 rw[beq_eq_false_iff_ne];intro e;rw[ByteArray.toList_eq,ByteArray.toList_eq]at e;have e3:(s.extract (a+1) q).data.toList=[111,117,116]:=e;have h1:(!(decide ((s.extract (a+1) (a+4)).data.toList=[111,117,116])))=true:=List.all_eq_true.1 h a (by simp;omega);have hl:min (q-(a+1)) (s.size-(a+1))=3:=by
  have:=congrArg List.length e3;simpa using this
 have h2:s.extract (a+1) q=s.extract (a+1) (a+4):=by
  apply ByteArray.ext;rw[ByteArray.data_extract,ByteArray.data_extract];apply Array.ext
  ·simp;have:s.data.size=s.size:=rfl;omega
  ·intro i h3 h4;simp
 rw[h2]at e3;rw[e3]at h1;exact absurd h1 (by decide)
def uU(e:Ending):Prop:=∃t:ByteArray,e=.returned (.string t)/\(t.toList==L6.toList)=false
def AAz(op:Int)(e:Ending):Prop:=∃(t:ByteArray) (d n:Bool) (l m:Int),e=.returned (.tuple #[.agg #[.string t,.bool d,.bool n,.int .i64 l,.int .i64 m],.bool true])/\(t.toList==L6.toList)=decide (op=33)/\(op=33->d=false/\n=false/\l=1/\m=1)
theorem Rm(s:ByteArray)(hs:1<=s.size/\s.size<=200)(hx:Hid (oD s=true))(n:Int)(hn:1<=n/\n<=30)(w:World):Calls prog 165 #[.string s,.int .i64 n] w fun e w'=>w=w'/\uU e:=by
 go_enter func165,ntmps165;go_wp2;go_loopw[1,5,6] (fun m f i wr=>∃q a:Nat,∃k:Int,q<=s.size/\a<q/\i=.int .i64 (q:Int)/\f=.int .i64 (a:Int)/\m=.int .i64 k/\1<=k/\k<=30/\wr=w) (fun _ _ i _=>s.size-(intOf i).toNat);exact⟨1,0,n,hs.1,by omega,rfl,rfl,rfl,hn.1,hn.2,rfl⟩;obtain⟨q,a,k,hq,ha,rfl,rfl,rfl,hk1,hk2,rfl⟩:=hrel;by_cases hend:q=s.size
 ·subst hend;go_wp2;go_ret;exact⟨rfl,_,rfl,by first|(exact Rn (a:=a) hx.out (by omega))|(rw[ByteArray.toList_eq,ByteArray.toList_eq];decide)⟩
 ·have hlt:q<s.size:=by omega
  have nA:(q:Int)<s.size:=by omega
  generalize hcc:s[q]=c;have hcell:s[q]=c:=hcc;by_cases h32:c=32
  ·subst h32;have hc:(((32:UInt8).toNat:Nat):Int)=32:=rfl;by_cases hk:k=1
   ·subst hk;go_wp2;go_ret;exact⟨rfl,_,rfl,by first|(exact Rn (a:=a) hx.out (by omega))|(rw[ByteArray.toList_eq,ByteArray.toList_eq];decide)⟩
   ·have hk0:(k-1==0)=false:=(by simp;omega);go_wp2;go_roundw;exact⟨q+1,q,k-1,by omega,by omega,by go_num,rfl,by go_num,by omega,by omega,trivial⟩;simp[intOf];omega
  ·have hc:((c.toNat:Int) !=32)=true:=by simp only[bne_iff_ne];exact fun h=>h32 (UInt8.toNat_inj.1 (by show c.toNat=32;omega))
   go_wp2;go_roundw;exact⟨q+1,a,k,by omega,by omega,by go_num,rfl,rfl,hk1,hk2,trivial⟩;simp[intOf];omega
theorem Vs(op:Int)(hop:1<=op/\op<=33)(w:World):Calls prog 116 #[.int .i64 op] w fun e w'=>AA6 w w'/\AAz op e:=by
 have hb:=AJ w (.cells #[.string ⟨#[]⟩,.bool false,.bool false,.int .i64 0,.int .i64 0] 182);have hB:=Ae.alloc w [.string ⟨#[]⟩,.bool false,.bool false,.int .i64 0,.int .i64 0] 182;obtain⟨g0,g1,g2,g3,g4⟩:=hB.f5;obtain⟨b0,b1,b2,b3,b4⟩:=hB.c5;by_cases h1:1<=op/\op<=21
 ·skip
  obtain⟨l1,l2⟩:=h1;go_enter func116,ntmps116;go_wp2_with fail;refine(Rm _ (by decide) (hidden (by decide)) op ⟨l1,by omega⟩ _).mono ?_;rintro e w1 ⟨rfl,t,rfl,ht⟩;replace ht:=hidden ht;go_wp2;(refine rB rfl (by go_simp;try rfl) rfl ?_);exact⟨by(repeat(first|with_reducible assumption|exact AJ _ _|exact AL|refine Below.drew ?_|refine Below.setCell ?_ (by first|exact AQ|(dsimp only;omega)) _|refine Below.alloc ?_ (by first|exact AQ|(simp;omega)|simp) _)),_,_,_,_,_,rfl,by rw[ht.out];exact(decide_eq_false (by omega)).symm,fun e=>by omega⟩
 by_cases h2:22<=op/\op<=24
 ·skip
  obtain⟨l1,l2⟩:=h2;have l3:¬op<=21:=by omega
  have l4:1<=op:=by omega
  have hr:IntKind.i64.wrap (op-21)=op-21:=by rw[IntKind.wrap_i64];omega
  go_enter func116,ntmps116;go_wp2_with fail;refine(Rm _ (by decide) (hidden (by decide)) (op-21) ⟨by omega,by omega⟩ _).mono ?_;rintro e w1 ⟨rfl,t,rfl,ht⟩;replace ht:=hidden ht;go_wp2;(refine rB rfl (by go_simp;try rfl) rfl ?_);exact⟨by(repeat(first|with_reducible assumption|exact AJ _ _|exact AL|refine Below.drew ?_|refine Below.setCell ?_ (by first|exact AQ|(dsimp only;omega)) _|refine Below.alloc ?_ (by first|exact AQ|(simp;omega)|simp) _)),_,_,_,_,_,rfl,by rw[ht.out];exact(decide_eq_false (by omega)).symm,fun e=>by omega⟩
 by_cases e25:op=25
 ·subst e25;go_enter func116,ntmps116;go_wp2;(refine rB rfl (by go_simp;try rfl) rfl ?_);exact⟨by(repeat(first|with_reducible assumption|exact AJ _ _|exact AL|refine Below.drew ?_|refine Below.setCell ?_ (by first|exact AQ|(dsimp only;omega)) _|refine Below.alloc ?_ (by first|exact AQ|(simp;omega)|simp) _)),_,_,_,_,_,rfl,by rw[ByteArray.toList_eq,ByteArray.toList_eq];decide,fun e=>absurd e (by decide)⟩
 by_cases e26:op=26
 ·subst e26;go_enter func116,ntmps116;go_wp2;(refine rB rfl (by go_simp;try rfl) rfl ?_);exact⟨by(repeat(first|with_reducible assumption|exact AJ _ _|exact AL|refine Below.drew ?_|refine Below.setCell ?_ (by first|exact AQ|(dsimp only;omega)) _|refine Below.alloc ?_ (by first|exact AQ|(simp;omega)|simp) _)),_,_,_,_,_,rfl,by rw[ByteArray.toList_eq,ByteArray.toList_eq];decide,fun e=>absurd e (by decide)⟩
 by_cases e27:op=27
 ·subst e27;go_enter func116,ntmps116;go_wp2;(refine rB rfl (by go_simp;try rfl) rfl ?_);exact⟨by(repeat(first|with_reducible assumption|exact AJ _ _|exact AL|refine Below.drew ?_|refine Below.setCell ?_ (by first|exact AQ|(dsimp only;omega)) _|refine Below.alloc ?_ (by first|exact AQ|(simp;omega)|simp) _)),_,_,_,_,_,rfl,by rw[ByteArray.toList_eq,ByteArray.toList_eq];decide,fun e=>absurd e (by decide)⟩
 by_cases e28:op=28
 ·subst e28;go_enter func116,ntmps116;go_wp2;(refine rB rfl (by go_simp;try rfl) rfl ?_);exact⟨by(repeat(first|with_reducible assumption|exact AJ _ _|exact AL|refine Below.drew ?_|refine Below.setCell ?_ (by first|exact AQ|(dsimp only;omega)) _|refine Below.alloc ?_ (by first|exact AQ|(simp;omega)|simp) _)),_,_,_,_,_,rfl,by rw[ByteArray.toList_eq,ByteArray.toList_eq];decide,fun e=>absurd e (by decide)⟩
 by_cases e29:op=29
 ·subst e29;go_enter func116,ntmps116;go_wp2;(refine rB rfl (by go_simp;try rfl) rfl ?_);exact⟨by(repeat(first|with_reducible assumption|exact AJ _ _|exact AL|refine Below.drew ?_|refine Below.setCell ?_ (by first|exact AQ|(dsimp only;omega)) _|refine Below.alloc ?_ (by first|exact AQ|(simp;omega)|simp) _)),_,_,_,_,_,rfl,by rw[ByteArray.toList_eq,ByteArray.toList_eq];decide,fun e=>absurd e (by decide)⟩
 by_cases e30:op=30
 ·subst e30;go_enter func116,ntmps116;go_wp2;(refine rB rfl (by go_simp;try rfl) rfl ?_);exact⟨by(repeat(first|with_reducible assumption|exact AJ _ _|exact AL|refine Below.drew ?_|refine Below.setCell ?_ (by first|exact AQ|(dsimp only;omega)) _|refine Below.alloc ?_ (by first|exact AQ|(simp;omega)|simp) _)),_,_,_,_,_,rfl,by rw[ByteArray.toList_eq,ByteArray.toList_eq];decide,fun e=>absurd e (by decide)⟩
 by_cases e31:op=31
 ·subst e31;go_enter func116,ntmps116;go_wp2;(refine rB rfl (by go_simp;try rfl) rfl ?_);exact⟨by(repeat(first|with_reducible assumption|exact AJ _ _|exact AL|refine Below.drew ?_|refine Below.setCell ?_ (by first|exact AQ|(dsimp only;omega)) _|refine Below.alloc ?_ (by first|exact AQ|(simp;omega)|simp) _)),_,_,_,_,_,rfl,by rw[ByteArray.toList_eq,ByteArray.toList_eq];decide,fun e=>absurd e (by decide)⟩
 by_cases e32:op=32
 ·subst e32;go_enter func116,ntmps116;go_wp2;(refine rB rfl (by go_simp;try rfl) rfl ?_);exact⟨by(repeat(first|with_reducible assumption|exact AJ _ _|exact AL|refine Below.drew ?_|refine Below.setCell ?_ (by first|exact AQ|(dsimp only;omega)) _|refine Below.alloc ?_ (by first|exact AQ|(simp;omega)|simp) _)),_,_,_,_,_,rfl,by rw[ByteArray.toList_eq,ByteArray.toList_eq];decide,fun e=>absurd e (by decide)⟩
 by_cases e33:op=33
 ·subst e33;go_enter func116,ntmps116;go_wp2;(refine rB rfl (by go_simp;try rfl) rfl ?_);exact⟨by(repeat(first|with_reducible assumption|exact AJ _ _|exact AL|refine Below.drew ?_|refine Below.setCell ?_ (by first|exact AQ|(dsimp only;omega)) _|refine Below.alloc ?_ (by first|exact AQ|(simp;omega)|simp) _)),_,_,_,_,_,rfl,by rw[ByteArray.toList_eq];decide,fun _=>⟨rfl,rfl,rfl,rfl⟩⟩
 omega
section
open Word Num Dp
theorem Ef(w:World):Calls prog 63 #[.bool true] w fun e w'=>e=.returned (.tuple #[])/\w=w':=by
 go_enter func63,ntmps63;go_wp2;go_end0;exact⟨rfl,rfl⟩
theorem Hg(n m:Int)(h:n<m)(w:World):Calls prog 156 #[.int .i64 n,.int .i64 m] w fun e w'=>e=.returned (.tuple #[])/\w=w':=by
 have h2:¬m<=n:=by omega
 go_enter func156,ntmps156;go_wp2;go_end0;exact⟨rfl,rfl⟩
theorem lK{p:Nat}{l:List Int}(hb:Ae w p (l.map (Value.int .i64)))(n:Int)(hn:n∈l)(hl:l.length<=100):Calls prog 64 #[.slice (some ⟨p,0,none⟩) l.length l.length,.int .i64 n] w fun e w'=>e=.returned (.bool true)/\w=w':=by
 have hc:∀(i:Nat) (h:i<l.length),w.cell? ⟨p,i,none⟩=some (.int .i64 l[i]):=fun i h=>hb.c i _ (by simp[h]);replace hc:=hidden hc;go_enter func64,ntmps64;go_wp2;go_loopw[9] (fun i wr=>∃q:Nat,q<=l.length/\i=.int .i64 (q:Int)/\Hid (n∈l.drop q)/\wr=w) (fun i _=>l.length-(intOf i).toNat);exact⟨0,AY,rfl,hidden (by simpa using hn),rfl⟩;obtain⟨q,hq,rfl,hD,rfl⟩:=hrel;by_cases hend:q=l.length
 ·subst hend;have:=hD.out;simp at this
 ·have hlt:q<l.length:=by omega
  have A8:(q:Int)<l.length:=by omega
  have c0:=hc.out q hlt;have hD:=hD.out;rw[List.drop_eq_getElem_cons hlt,List.mem_cons]at hD;generalize l[q]=m at*
  cases e1:((m:Int)==n)with
  |true=>
   go_wp2;go_ret
   exact⟨rfl,rfl⟩
  |false=>
   have hD2:n∈l.drop (q+1):=by
    rcases hD with h|h
    ·subst h;simp at e1
    ·exact h
   replace hD2:=hidden hD2;go_wp2;go_roundw;exact⟨q+1,hlt,by go_num,hD2,trivial⟩;simp[intOf];omega
theorem E5{p:Nat}{l:List Int}(hb:Ae w p (l.map (Value.int .i64)))(n:Int)(hn:n∈l)(hl:l.length<=100)(hc:w.cell? ⟨R,6,none⟩=some (.int .i64 n)):Calls prog 39 #[.pointer (some ⟨R,0,none⟩),.slice (some ⟨p,0,none⟩) l.length l.length] w fun e w'=>e=.returned (.tuple #[])/\w=w':=by
 have hH:=lK hb n hn hl;have hM:=fun w=>Ef w;go_enter func39,ntmps39;go_wp2_with(first|(refine hH.mono ?_;rintro e w2 ⟨rfl,rfl⟩)|(refine(hM _).mono ?_;rintro e w2 ⟨rfl,rfl⟩))
 go_end0;exact⟨rfl,rfl⟩
theorem KU(s:ByteArray)(h:Eb s.data.toList=true)(w:World):Calls prog 114 #[.string s] w fun e w'=>e=.returned (.string s)/\w=w':=by
 have hN:=fun w=>Rp s _ h w;have hM:=fun w=>Ef w;go_enter func114,ntmps114;go_wp2_with(first|(refine(hN _).mono ?_;rintro e w2 ⟨rfl,rfl⟩)|(refine(hM _).mono ?_;rintro e w2 ⟨rfl,rfl⟩))
 go_ret;exact⟨rfl,rfl⟩
theorem OY(w:World):Calls prog 157 #[.string ⟨#[105,110,116]⟩] w fun e w'=>e=.returned (.string ⟨#[105,110,116]⟩)/\w=w':=by
 have hM:=fun w=>Ef w;go_enter func157,ntmps157;go_wp2_with(refine(hM _).mono ?_;rintro e w2 ⟨rfl,rfl⟩)
 go_ret;exact⟨rfl,rfl⟩
end
section
open Word Num Dp
abbrev wK:ByteArray:=⟨#[107]⟩
theorem ABH:Eb wK.data.toList=true:=by decide
theorem rV(w:World):Calls prog 206 #[.string wK] w fun e w'=>e=.returned (.tuple #[.agg #[.int .i64 1,.string wK,.int .i64 0],.bool true])/\AA6 w w':=by
 have hN:=fun w=>Rp wK _ ABH w;have hX:=Ae.alloc w [.int .i64 0,.string ⟨#[]⟩,.int .i64 0] 77;have hb:=AJ w (Obj.cells #[.int .i64 0,.string ⟨#[]⟩,.int .i64 0] 77);obtain⟨x0,x1,x2⟩:=hX.c3;obtain⟨f0,f1,f2⟩:=hX.f3;go_enter func206,ntmps206;go_wp2_with(refine(hN _).mono ?_;rintro e w2 ⟨rfl,rfl⟩)
 (refine rB rfl (by go_simp;try rfl) rfl ⟨rfl,?_⟩);exact AJ _ _
theorem aC(w:World):Calls prog 161 #[.string wK,.bool false] w fun e w'=>e=.returned (.agg #[.int .i64 1,.string wK,.int .i64 0])/\AA6 w w':=by
 have hG:=fun w=>rV w;have hM:=fun w=>Ef w;have hX:=Ae.alloc w [.int .i64 0,.string ⟨#[]⟩,.int .i64 0] 77;have hb:=AJ w (Obj.cells #[.int .i64 0,.string ⟨#[]⟩,.int .i64 0] 77);have hlt:=hX.lt;go_enter func161,ntmps161;go_upto_region 1 with fail;generalize Cr:w.alloc _=W at*;go_wp2_with fail;refine(hG _).mono ?_;rintro e w1 ⟨rfl,hb1⟩;have hX1:=hX.nx hb1;have hY:=Ae.alloc w1 [.int .i64 1,.string wK,.int .i64 0] 77;have hb2:=AJ w1 (Obj.cells #[.int .i64 1,.string wK,.int .i64 0] 77);have hX2:=hX1.nx hb2;have hb3:=AB (AB hb hb1) hb2;go_upto_region 2 with fail;have hzz:w1.heap.size<(w1.alloc (Obj.cells #[.int .i64 1,.string wK,.int .i64 0] 77)).heap.size:=by simp
 generalize Cr:w1.alloc _=W1 at*;have hbe:=hb3.trans (Ay (Nat.le_refl w.heap.size) [.int .i64 1,.string wK,.int .i64 0] 0 W1);obtain⟨x0,x1,x2⟩:=hX2.c3;obtain⟨f0,f1,f2⟩:=hX2.f3;obtain⟨y0,y1,y2⟩:=hY.c3;go_wp2_with(refine(hM _).mono ?_;rintro e w2 ⟨rfl,rfl⟩)
 (refine rO rfl (by go_simp;try rfl) rfl ⟨rfl,?_⟩);exact hbe
theorem sK(w:World):Calls prog 115 #[.string L6] w fun e w'=>e=.returned (.tuple #[.int .i64 33,.bool true])/\AA6 w w':=by
 have hO:=fun q (h1:1<=q/\q<=33) w=>Vs q h1 w;go_enter func115,ntmps115;go_wp2;go_loopw[4] (fun i wr=>∃q:Nat,1<=q/\q<=33/\i=.int .i64 (q:Int)/\AA6 w wr) (fun i _=>34-(intOf i).toNat);exact⟨1,by omega,by omega,rfl,AL⟩;obtain⟨q,hq1,hq,rfl,hb⟩:=hrel;have hlt:(q:Int)<=34:=by omega
 have hlt2:q<=34:=by omega
 have nI:=hO (q:Int) (by omega) wr;go_wp2_with fail;refine nI.mono ?_;rintro e w1 ⟨hb1,t,d,n,l,m,rfl,ht,-⟩;have hY:=Ae.alloc w1 [.string t,.bool d,.bool n,.int .i64 l,.int .i64 m] 182;have hb2:=AJ w1 (Obj.cells #[.string t,.bool d,.bool n,.int .i64 l,.int .i64 m] 182);have hb3:=AB (AB hb hb1) hb2;have y0:=hY.c 0 _ rfl;have ht2:(t.toList==[111,117,116])=decide ((q:Int)=33):=by
  rw[<-ht];congr 1;rw[ByteArray.toList_eq L6]
 by_cases h33:q=33
 ·subst h33;have e1:(t.toList==[111,117,116])=true:=ht2;go_wp2;go_ret2;exact⟨rfl,hb3⟩
 ·have e1:(t.toList==[111,117,116])=false:=by rw[ht2];exact decide_eq_false (by omega)
  go_wp2;go_roundw;exact⟨q+1,by omega,by omega,by go_num,hb3⟩;simp[intOf];omega
theorem jo(h0:AA6 w0 w)(hl:Row DL 1 w0 u [wK]):Calls prog 117 #[u,.bool false] w fun e w'=>(∃(v:Value) (F:List Nat),e=.returned v/\AZ w' w.heap.size 77 3 ([(⟨1,wK,0⟩:Ag)].map Ls) v F/\F.Nodup)/\AA6 w w':=by
 obtain⟨p,c,rfl,-,-,hl⟩:=hl;have hA:=fun w=>aC w;obtain⟨a,rfl,d0,-⟩:=hl 0 wK rfl;have d0:w0.cell? a=some (.string wK):=by simpa[Addr.add]using d0
 have d1:=AA h0 d0;have Fw:(([wK]:List ByteArray).length:Int)=1:=rfl;have C8:([wK]:List ByteArray).length=1:=rfl;rw[C8];go_enter func117,ntmps117;go_wp2;go_loopw[5,10] (fun v i wr=>∃(q:Nat) (F:List Nat),q<=1/\i=.int .i64 (q:Int)/\AZ wr w.heap.size 77 3 ((List.replicate q (⟨1,wK,0⟩:Ag)).map Ls) v F/\F.Nodup/\AA6 w wr) (fun _ i _=>1-(intOf i).toNat);exact⟨0,[],by omega,rfl,.nil,by simp,AL⟩;obtain⟨q,F,hq,rfl,hv,hF,hb⟩:=hrel;have hq2:q=0\/q=1:=by omega
 rcases hq2 with rfl|rfl
 ·obtain⟨pv,cv,rfl⟩:=hv.slice;have d2:=AA (AB h0 hb) d0;obtain⟨wo,rfl⟩:∃wo:World,wo=wr:=⟨_,rfl⟩;go_wp2_with fail;refine(hA _).mono ?_;rintro e w2 ⟨rfl,hb2⟩;have hB2:=Ae.alloc w2 [.int .i64 1,.string wK,.int .i64 0] 77;have hb3:=AB hb hb2;have hb4:=hb3.alloc hb3.size (.cells #[.int .i64 1,.string wK,.int .i64 0] 77);have hv2:=(hv.same (w':=w2) fun b hb'=>hb2.block b (hv.fp b hb').2).same (w':=w2.alloc (.cells #[.int .i64 1,.string wK,.int .i64 0] 77)) fun b hb'=>Below.heap_alloc _ _ _ (A9 (hv.fp b hb').2 hb2.size);go_wp2_with(at_builtin;refine HY rfl aF _ _ rfl rfl hv2 hF rfl hB2 (by simp[Value.oneCell']) (aZ (x:=⟨1,wK,0⟩) hB2) (by simp) (by simp) rfl rfl (by simp) (by decide) hb4.size ?_;rintro v' w3 F' ⟨N7,Nh,rfl⟩ h1 h2 h3 h4 h5)
  have hb5:=hb4.trans h5;go_roundw;exact⟨1,F',by omega,by go_num,h1,h2,hb5⟩;simp[intOf]
 ·go_wp2;go_ret;exact⟨⟨_,F,rfl,hv,hF⟩,hb⟩
end
section
open Word Num Dp
def PY(q:Pg)(ln wh:Int)(fi:Bool)(lg:Int):Dt:=.agg [Qk q,dN ln,dN wh,.cell (.bool fi),dN lg]
structure Sr(w:World)(B N R:Nat)(q:Pg)(ln wh:Int)(fi:Bool)(lg:Int):Prop where
 own:Own w B N (PY q ln wh fi lg) R 0
 typ:DC w R 104
section
variable {w w1 : World} {B N R : Nat} {q q' : Pg} {ln wh lg : Int} {fi : Bool}
theorem Sr.kp(h:Sr w B N R q ln wh fi lg)(hb:AA6 w w1):Sr w1 B N R q ln wh fi lg:=⟨h.own.kp (hb.mono h.own.sz),DC.nx h.typ hb⟩
theorem Sr.Bw(h:Sr w B N R q ln wh fi lg)(i:Nat):w.frozen? ⟨R,i,none⟩=false:=DC.Bw h.typ i
theorem Sr.lt(h:Sr w B N R q ln wh fi lg):R<w.heap.size:=A9 h.own.lt h.own.sz
theorem Sr.bw(h:Sr w B N R q ln wh fi lg):B<=w.heap.size:=by have:=h.own.ge;have:=h.lt;omega
theorem Sr.sp(h:Sr w B N R q ln wh fi lg):Aq w B N (PY q ln wh fi lg) R 0 (Qk q) R 0 (fun y=> .agg [y,dN ln,dN wh,.cell (.bool fi),dN lg]):=by
 have s0:=h.own.spot;unfold PY at s0;exact s0.nth 0 rfl rfl
theorem Sr.s5(h:Sr w B N R q ln wh fi lg):Aq w B N (PY q ln wh fi lg) R 0 (dN ln) R 5 (fun y=> .agg [Qk q,y,dN wh,.cell (.bool fi),dN lg]):=by
 have s0:=h.own.spot;unfold PY at s0;have s1:=s0.nth 1 rfl (n:=5) (by simp[Dt.DF,Ig]);rw[Nat.zero_add]at s1;exact s1
theorem Sr.s6(h:Sr w B N R q ln wh fi lg):Aq w B N (PY q ln wh fi lg) R 0 (dN wh) R 6 (fun y=> .agg [Qk q,dN ln,y,.cell (.bool fi),dN lg]):=by
 have s0:=h.own.spot;unfold PY at s0;have s1:=s0.nth 2 rfl (n:=6) (by simp[Dt.DF,Dt.wd,Ig,dN]);rw[Nat.zero_add]at s1;exact s1
theorem Sr.s7(h:Sr w B N R q ln wh fi lg):Aq w B N (PY q ln wh fi lg) R 0 (.cell (.bool fi)) R 7 (fun y=> .agg [Qk q,dN ln,dN wh,y,dN lg]):=by
 have s0:=h.own.spot;unfold PY at s0;have s1:=s0.nth 3 rfl (n:=7) (by simp[Dt.DF,Dt.wd,Ig,dN]);rw[Nat.zero_add]at s1;exact s1
theorem Sr.s8(h:Sr w B N R q ln wh fi lg):Aq w B N (PY q ln wh fi lg) R 0 (dN lg) R 8 (fun y=> .agg [Qk q,dN ln,dN wh,.cell (.bool fi),y]):=by
 have s0:=h.own.spot;unfold PY at s0;have s1:=s0.nth 4 rfl (n:=8) (by simp[Dt.DF,Dt.wd,Ig,dN]);rw[Nat.zero_add]at s1;exact s1
theorem Sr.c6(h:Sr w B N R q ln wh fi lg):w.cell? ⟨R,6,none⟩=some (.int .i64 wh):=Aq.cell h.s6
theorem Sr.c5(h:Sr w B N R q ln wh fi lg):w.cell? ⟨R,5,none⟩=some (.int .i64 ln):=Aq.cell h.s5
theorem Sr.c7(h:Sr w B N R q ln wh fi lg):w.cell? ⟨R,7,none⟩=some (.bool fi):=Aq.cell h.s7
theorem Sr.c8(h:Sr w B N R q ln wh fi lg):w.cell? ⟨R,8,none⟩=some (.int .i64 lg):=Aq.cell h.s8
theorem Sr.low(h:Sr w B N R q ln wh fi lg)(v:Value)(i:Nat):Below B w (w.setCell ⟨R,i,none⟩ v):=(AL).setCell h.own.ge v
def KpR(w w':World):Prop:=∀r,DC w r 102->w'.heap[r]? =w.heap[r]?
structure Dr(B:Nat)(w w':World):Prop where
 b:Below B w w'
 k:KpR w w'
theorem Dr.trans{w2:World}(h:Dr B w w1)(h2:Dr B w1 w2):Dr B w w2:=⟨h.b.trans h2.b,fun r hr=>by
 obtain⟨cur,e⟩:=hr
 exact(h2.k r ⟨cur,(h.k r ⟨cur,e⟩).trans e⟩).trans (h.k r ⟨cur,e⟩)⟩
theorem Dr.of(hb:AA6 w w1)(hB:B<=w.heap.size):Dr B w w1:=⟨hb.mono hB,fun r hr=>by
 obtain⟨cur,e⟩:=hr
 exact hb.block r (Array.getElem?_eq_some_iff.1 e).1⟩
theorem T9{T1 T2:TypeId}{r g:Nat}(h1:DC w r T1)(h2:DC w g T2)(hne:T1≠T2):r≠g:=fun e=>by
 obtain⟨c1,h1⟩:=h1;obtain⟨c2,h2⟩:=h2;rw[e,h2]at h1;injection h1 with h1;injection h1 with _ h1 _;exact hne h1.symm
theorem Sr.Te(h:Sr w B N R q ln wh fi lg)(v:Value)(i:Nat):Dr B w (w.setCell ⟨R,i,none⟩ v):=⟨h.low v i,fun r hr=>Below.heap_setCell _ _ _ _ (T9 hr h.typ (by decide))⟩
theorem Sr.iR(h:Sr w B N R q ln wh fi lg)(i:Nat)(v:Value):DC (w.setCell ⟨R,i,none⟩ v) R 104:=by
 obtain⟨cur,ht⟩:=h.typ;exact Ew ht _ _
theorem Sr.iW(h:Sr w B N R q ln wh fi lg)(n:Int):Sr (w.setCell ⟨R,5,none⟩ (.int .i64 n)) B N R q n wh fi lg:=⟨h.s5.set1 (v1:=.int .i64 n) rfl,h.iR _ _⟩
theorem Sr.Wj(h:Sr w B N R q ln wh fi lg)(n:Int):Sr (w.setCell ⟨R,6,none⟩ (.int .i64 n)) B N R q ln n fi lg:=⟨h.s6.set1 (v1:=.int .i64 n) rfl,h.iR _ _⟩
theorem Sr.qI(h:Sr w B N R q ln wh fi lg)(b:Bool):Sr (w.setCell ⟨R,7,none⟩ (.bool b)) B N R q ln wh b lg:=⟨h.s7.set1 (v1:=.bool b) rfl,h.iR _ _⟩
theorem Sr.iV(h:Sr w B N R q ln wh fi lg)(n:Int):Sr (w.setCell ⟨R,8,none⟩ (.int .i64 n)) B N R q ln wh fi n:=⟨h.s8.set1 (v1:=.int .i64 n) rfl,h.iR _ _⟩
theorem Sr.row{α:Type}{enc:α->Dt}{e:TypeId}{s i:Nat}{l:List α}(h:Sr w B N R q ln wh fi lg)(l0:List Dt)(hl0:Qk q=.agg l0)(hi:l0[i]? =some (.row e s (l.map enc)))(hw:Dt.DF (l0.take i)=i):∃v xs,w.cell? ⟨R,i,none⟩=some v/\w.ownsRow B e s v l.length xs/\(∃p c,v=.slice p l.length c)/\Aq w B N (PY q ln wh fi lg) R 0 (.row e s (l.map enc)) R i (fun y=> .agg [.agg (l0.set i y),dN ln,dN wh,.cell (.bool fi),dN lg]):=by
 have s0:=h.sp;rw[hl0]at s0;have s1:=s0.nth i hi hw;rw[Nat.zero_add]at s1;obtain⟨v,xs,h1,h2,h3⟩:=s1.owns;rw[List.length_map]at h2 h3;exact⟨v,xs,h1,h2,h3,s1⟩
end
theorem Ad.sr{W:World}{bs ap st s n g0 o0:Nat}{e:TypeId}{one xs:List Value}{v:Value}{V:Nat->Value}{L:Nat->Bool}{q q':Pg}{wh lg:Int}{l:List Dt}{d:Dt}{F:Dt->Dt}(h:Ad W B e s bs ap st one n xs v ⟨g0,o0,none⟩ V L w) (ha:L ap=true) (hst:L st=true) (hR:Sr W B N R q ln wh fi lg) (h0:Aq W B N (PY q ln wh fi lg) R 0 (.row e s l) g0 o0 F) (hc:W.cell? ⟨g0,o0,none⟩=some v) (hx:W.ownsRow B e s v n xs) (hn:n=l.length) (he:104≠e)(hd:∀w1 pb,AA6 W w1->Ae w1 pb one->∃fd,Af w1 N d pb 0 fd/\fd.Nodup) (hdw:d.wd=s) (h1:one.length=s) {T:TypeId} (hG:DC W g0 T) (hT:102≠T) (he2:102≠e) (hF:F (.row e s (l++[d]))=PY q' ln wh fi lg):Sr w B w.heap.size R q' ln wh fi lg/\Dr B W w:=by
 obtain⟨⟨N',ho⟩,hb,-,w2,u,hw,hg2⟩:=h.done ha hst h0 (AL) hc hx hn (fun w1 pb a1 a2 a3 a4=>hd w1 pb a1 a4) hdw h1;have hown:v.ownBlock≠some R:=own_ne hx hR.typ he;have hKK:KpR W w:=fun r hr=>h.far ha hst (T9 hr hG hT) (own_ne hx hr he2) (by obtain⟨cur,e⟩:=hr;exact(Array.getElem?_eq_some_iff.1 e).1);refine⟨⟨(hF▸ho).up ho.sz (AQ),?_⟩,⟨hb,hKK⟩⟩;obtain⟨cur,ht⟩:=hR.typ;by_cases hg:g0=R
 ·subst hg hw;exact Ew (hg2.trans ht) _ _
 ·exact⟨cur,(h.far ha hst (fun e=>hg e.symm) hown hR.lt).trans ht⟩
abbrev q0P:Pg:=⟨false,[],[],[],[]⟩
abbrev wF:ByteArray:=⟨#[102]⟩
abbrev CG:ByteArray:=⟨#[105,110,116]⟩
abbrev Q7:ByteArray:=⟨#[102,117,110,99]⟩
abbrev q1P:Pg:=⟨false,[],[],[],[⟨wF,CG,[],[],[]⟩]⟩
def K6(B R:Nat)(q:Pg)(ln wh:Int)(fi:Bool)(lg:Int)(e:Ending)(w':World):Prop:=e=.returned (.tuple #[])/\∃N',Sr w' B N' R q ln wh fi lg
theorem Xa(h0:AA6 w0 w)(hR:Sr w B N R q0P ln 0 fi (-1))(hB:w0.heap.size<=B)(hl:Row DL 1 w0 u [Q7,wF,CG]):Calls prog 106 #[.pointer (some ⟨R,0,none⟩),u] w fun e w'=>K6 B R q1P ln 2 fi 0 e w'/\Dr B w w':=by
 obtain⟨a,d1,d2,c,rfl⟩:∃a,w0.cell? ⟨a.block,a.off+1,none⟩=some (.string wF)/\w0.cell? ⟨a.block,a.off+2,none⟩=some (.string CG)/\∃c,u=.slice (some a) 3 c:=by
  obtain⟨p,c,rfl⟩:=hl.slice;obtain⟨a,rfl,e1⟩:=BQ hl (q:=0) (by decide);obtain⟨a',ea,e2⟩:=BQ hl (q:=1) (by decide);obtain rfl:a=a':=by simpa using ea
  exact⟨a,e1,e2,c,rfl⟩
 have hag:a.block<B:=A9 (World.block_lt_of_cell? _ ⟨a.block,a.off+1,none⟩ d1) hB;have hBw:=hR.bw;have hb1:=AJ w (.cells #[.int .i64 0,.int .i64 1] 3);have hX:=Ae.alloc w [.int .i64 0,.int .i64 1] 3;have Jc:=hR.kp hb1;have h1:=AB h0 hb1;have qC:=E5 (R:=R) (l:=[0,1]) hX 0 (by decide) (by decide) Jc.c6;have hM:=fun w=>Ef w;go_enter func106,ntmps106;go_upto_region 2 with(first|(refine qC.mono ?_;rintro e w2 ⟨rfl,rfl⟩)|(refine(hM _).mono ?_;rintro e w2 ⟨rfl,rfl⟩))
 generalize Cr:w.alloc _=W at*;have hN:=fun w=>KU wF (by decide) w;have hKd:=fun w=>OY w;have e1:=AA h1 d1;have e2:=AA h1 d2;go_wp2_with fail;refine AV (S:=Ck W 9 10 [.string ⟨#[]⟩,.string ⟨#[]⟩,.slice none 0 0,.slice none 0 0,.slice none 0 0] [.string wF,.string CG,.slice none 0 0,.slice none 0 0,.slice none 0 0]) rfl (by kernel_rfl) (Ck.start Ac) ?_;iterate 9(first|(apply AU.z rfl;intro V L w1 _ _ _ z hK;(have e1:=AA z.s.1 e1;have e2:=AA z.s.1 e2);go_simp;exact hK (z.s.keep rfl rfl);intros;rfl)|(apply AU.y rfl;intro V L w1 _ _ z hK;go_simp;go_wp2_with((first|(refine(hN _).mono ?_;rintro e w2 ⟨rfl,rfl⟩)|(refine(hKd _).mono ?_;rintro e w2 ⟨rfl,rfl⟩)));(try simp only[pE]);exact hK.out _ (z.s.keep rfl rfl);intros;rfl))
 (apply AU.w rfl;intro V L w1 _ _ _ z hK;go_simp;exact hK rfl (z.s.made rfl z.i _);(try simp only[pE]));refine AU.val undef (fun _=>rfl) (fun V L w1 K' Q' hS hi hR' hd hK=>?_) ?_
 ·have hl:=hd.out 9 (by kernel_rfl);obtain⟨pb,hp,hp0,hp1,hx⟩:=hS.at hl hi;obtain⟨k0,k1,k2,k3,k4⟩:=hx.c5;obtain⟨f0,f1,f2,f3,f4⟩:=hx.f5;go_simp;exact hK.out _ _ (by simp only[hp];rfl) (hS.fill hl hp hp0 (by first|(rw[DK];exact hp1)|simpa using hp1) (hS.1.trans (Ay hp0 [.string wF,.string CG,.slice none 0 0,.slice none 0 0,.slice none 0 0] 0 w1)) (CK [.string wF,.string CG,.slice none 0 0,.slice none 0 0,.slice none 0 0] _ 0 w1 hx rfl) rfl)
 simp only[Act.put];refine AU.nil fun V w2 hS=>?_;obtain⟨pb,hpb,hp0,hp1,hxb⟩:=hS.done rfl rfl;have hb2:=hS.1;simp only[hpb];have hR2:=Jc.kp hb2;have ADl:w0.heap.size<=pb/\N<=pb:=⟨by have:=h1.size;have:=hb2.size;omega,by have:=Jc.own.sz;omega⟩;have BO:=hR2.kp (Below.refl w2.heap.size w2).drew;have hsr:=BO.row (α:=Fn) (enc:=dFn) (e:=66) (s:=5) (i:=4) (l:=[]) _ rfl rfl (by decide);have Db:Dr B w w2:=Dr.of (AB hb1 hb2) hBw;have Nr:B<=w2.heap.size:=hR2.bw;obtain⟨vc,xs,hc,hox,⟨pc,cc,rfl⟩,hsp⟩:=hsr;rw[show([]:List Fn).length=0 from rfl]at hc hox;have EY:(Value.slice pc 0 cc).ownBlock≠some R:=own_ne hox BO.typ (by decide);have IG:(Value.slice pc 0 cc).ownBlock≠some pb:=fun h=>by have:=hsp.JI hc h;omega
 have hc':w2.cell? ⟨R,4,none⟩=some (.slice pc 0 cc):=hc;have pQ:=fun w=>Hg 0 8 (by decide) w;go_upto_region 4 with((refine(pQ _).mono ?_;rintro e w2 ⟨rfl,rfl⟩))
 have hsz2:w2.drew.heap.size=w2.heap.size:=rfl;obtain⟨xC,xB,h2p,h3p,h4p⟩:=hxb.c5;refine AV (S:=Ad w2.drew B 66 5 7 8 12 [.string wF,.string CG,.slice none 0 0,.slice none 0 0,.slice none 0 0] 0 xs (.slice pc 0 cc) ⟨R,4,none⟩) rfl (by kernel_rfl) (Ad.start (AL)) ?_;iterate 7((apply AU.z rfl;intro V L w1 _ _ _ z hK;(try(have hs:=z.f 12 (by kernel_rfl);(have c1:=z.s.cellOf hs hc EY;have m0:=z.s.cellOf hs xC IG;have m1:=z.s.cellOf hs xB IG;have m2:=z.s.cellOf hs h2p IG;have m3:=z.s.cellOf hs h3p IG;have m4:=z.s.cellOf hs h4p IG)));go_simp;exact hK (z.s.keep rfl rfl rfl);intros;rfl))
 (apply AU.w rfl;intro V L w1 _ _ _ z hK;go_simp;exact hK rfl (z.s.made (z.o 8 (by kernel_rfl)) rfl _);(try simp only[pE]));(refine AU.free (fun _=>rfl) (fun V L w1 _ _ hS hi hR hd hK=>hS.go hi (hR.out (12) _ (by kernel_rfl) hi) (hd.out (7) (by kernel_rfl)) (nu) (underlying25) (hox) rfl rfl rfl rfl rfl rfl (by decide) (by simp[Value.oneCell']) (by unfold maxLen;omega) fun v' w' h=>hK.out _ _ rfl h) ?_;(try simp only[pE]));iterate 3((apply AU.z rfl;intro V L w1 _ _ _ z hK;(try(have hs:=z.f 12 (by kernel_rfl);(have c1:=z.s.cellOf hs hc EY)));go_simp;exact hK (z.s.keep rfl rfl rfl);intros;rfl))
 (apply AU.val undef (fun _=>rfl);intro V L w1 _ _ hS hi hR hd hK;have ha:=hd.out (8) (by kernel_rfl);(have cs:=hS.cellOf hi hc EY;have fs:=hS.EA hi (o:=4) BO.lt (BO.Bw 4) EY);have hS2:=hS.stored ha hi rfl;obtain⟨pu,ku,CX⟩:=hS.val ha;rw[CX]at hS2;simp only[CX];go_simp;exact hK.out _ _ (by simp only[CX];rfl) hS2;simp only[Act.put]);refine AU.nil fun V w1 hS=>?_;obtain⟨Dc,hb4⟩:=hS.sr (d:=dFn ⟨wF,CG,[],[],[]⟩) (q':=q1P) rfl rfl BO hsp hc hox rfl (by decide) (fun w1 pb hlow hx=>⟨[]++([]++([]++[])),Af.of (AP.cc (hx.c 0 _ rfl) rfl (AP.cc (hx.c 1 _ rfl) rfl (AP.cr (l:=[]) (hx.c 2 _ rfl) AZ.nil (AP.cr (l:=[]) (hx.c 3 _ rfl) AZ.nil (AP.cr (l:=[]) (hx.c 4 _ rfl) AZ.nil AP.cn))))),by simp⟩) rfl rfl BO.typ (by decide) (by decide) rfl;have hb5:=(Db.trans (Dr.of (Below.refl w2.heap.size w2).drew Nr)).trans hb4;have c6:=Dc.c6;have f6:=Dc.Bw 6;have CS:=Dc.Wj 2;have hb6:=hb5.trans (Dc.Te (.int .i64 2) 6);have c8:=CS.c8;have f8:=CS.Bw 8;have ES:=CS.iV 0;have BJ:=hb6.trans (CS.Te (.int .i64 0) 8);go_wp2;go_end0;exact⟨⟨rfl,_,ES⟩,BJ⟩
end
section
open Word Num Dp
abbrev q2P:Pg:=⟨false,[],[],[],[⟨wF,CG,[⟨wK,CG⟩],[],[]⟩]⟩
abbrev ML:ByteArray:=⟨#[112,97,114,97,109]⟩
section
variable {w w1 : World} {B N R : Nat} {q q' : Pg} {ln wh lg : Int} {fi : Bool}
structure SrF(w:World)(B N R:Nat)(q:Pg)(ln wh:Int)(fi:Bool)(lg:Int)(f:Fn)(FB cap:Nat):Prop where
 lc:w.cell? ⟨R,4,none⟩=some (.slice (some ⟨FB,0,none⟩) 1 cap)
 lt:DC w FB 66
 sp:∃F,Aq w B N (PY q ln wh fi lg) R 0 (dFn f) FB 0 F/\∀f',F (dFn f')=PY {q with fs:=[f']} ln wh fi lg
theorem Sr.f(h:Sr w B N R q ln wh fi lg){f:Fn}(hq:q.fs=[f]):∃FB cap,SrF w B N R q ln wh fi lg f FB cap:=by
 obtain⟨v,xs,h1,h2,-,s1⟩:=h.row (α:=Fn) (enc:=dFn) (e:=66) (s:=5) (i:=4) (l:=q.fs) [.cell (.bool q.ssa),.row 153 2 (q.cs.map gP),.row 71 2 (q.gs.map IQ),.row 155 2 (q.xs.map nS),.row 66 5 (q.fs.map dFn)] rfl rfl rfl;rw[hq]at s1;obtain⟨FB,cap,a1,a2,-,a3⟩:=Gi (l1:=[]) (l2:=[]) s1;exact⟨FB,cap,a1,a2,_,a3,fun f'=>rfl⟩
structure nV(w:World)(B N R:Nat)(q:Pg)(ln wh:Int)(fi:Bool)(lg:Int)(f:Fn)(FB:Nat)(b:Bk)(BB cap:Nat):Prop where
 lc:w.cell? ⟨FB,4,none⟩=some (.slice (some ⟨BB,0,none⟩) 1 cap)
 lt:DC w BB 82
 sp:∃F,Aq w B N (PY q ln wh fi lg) R 0 (Pb b) BB 0 F/\∀b',F (Pb b')=PY {q with fs:=[{f with bs:=[b']}]} ln wh fi lg
theorem SrF.b{f:Fn}{FB cap:Nat}(h:SrF w B N R q ln wh fi lg f FB cap){b:Bk}(hb:f.bs=[b]):∃BB cap2,nV w B N R q ln wh fi lg f FB b BB cap2:=by
 obtain⟨F,s0,hF⟩:=h.sp;have s1:=Aq.nth (l:=[dS f.n,dS f.r,.row 71 2 (f.ps.map IQ),.row 71 2 (f.vs.map IQ),.row 82 9 (f.bs.map Pb)]) s0 4 rfl (n:=4) (by simp[Dt.DF,Dt.wd,dS]);rw[hb,Nat.zero_add]at s1;obtain⟨BB,cap2,a1,a2,-,a3⟩:=Gi (l1:=[]) (l2:=[]) s1;exact⟨BB,cap2,a1,a2,_,a3,fun b'=>hF {f with bs:=[b']}⟩
end
def AA0(FB:Nat)(e:Ending):Prop:=e=.returned (.pointer (some ⟨FB,0,none⟩))
theorem Mh{FB cap:Nat}(hc:w.cell? ⟨R,4,none⟩=some (.slice (some ⟨FB,0,none⟩) 1 cap)):Calls prog 159 #[.pointer (some ⟨R,0,none⟩)] w fun e w'=>AA0 FB e/\AA6 w w':=by
 go_enter func159,ntmps159;go_wp2_with fail;refine AO (S:=fun _ v=>AA6 w v) rfl (by kernel_rfl) Ac ?_;iterate 14((apply Ab.z rfl;intro L w1 _ _ _ z hK;(have c1:=AA z.s hc);go_simp;exact hK (z.s);rfl))
 refine Ab.nil fun w4 Bb=>?_;go_wp2;go_ret;exact⟨rfl,Bb⟩
theorem UR(h0:AA6 w0 w)(hR:Sr w B N R q1P ln 2 fi 0)(hB:w0.heap.size<=B)(hl:Row DL 1 w0 u [ML,wK,CG]):Calls prog 107 #[.pointer (some ⟨R,0,none⟩),u] w fun e w'=>K6 B R q2P ln 2 fi 0 e w'/\Dr B w w':=by
 obtain⟨a,d1,d2,c,rfl⟩:∃a,w0.cell? ⟨a.block,a.off+1,none⟩=some (.string wK)/\w0.cell? ⟨a.block,a.off+2,none⟩=some (.string CG)/\∃c,u=.slice (some a) 3 c:=by
  obtain⟨p,c,rfl⟩:=hl.slice;obtain⟨a,rfl,e1⟩:=BQ hl (q:=0) (by decide);obtain⟨a',ea,e2⟩:=BQ hl (q:=1) (by decide);obtain rfl:a=a':=by simpa using ea
  exact⟨a,e1,e2,c,rfl⟩
 have hag:a.block<B:=A9 (World.block_lt_of_cell? _ ⟨a.block,a.off+1,none⟩ d1) hB;have hBw:=hR.bw;have hb1:=AJ w (.cells #[.int .i64 2] 3);have hX:=Ae.alloc w [.int .i64 2] 3;have Jc:=hR.kp hb1;have h1:=AB h0 hb1;have qC:=E5 (R:=R) (l:=[2]) hX 2 (by decide) (by decide) Jc.c6;have hM:=fun w=>Ef w;go_enter func107,ntmps107;go_upto_region 2 with(first|(refine qC.mono ?_;rintro e w2 ⟨rfl,rfl⟩)|(refine(hM _).mono ?_;rintro e w2 ⟨rfl,rfl⟩))
 generalize Cr:w.alloc _=W at*;have hN:=fun w=>KU wK (by decide) w;have hKd:=fun w=>OY w;have e1:=AA h1 d1;have e2:=AA h1 d2;go_wp2_with fail;refine AV (S:=Ck W 9 10 [.string ⟨#[]⟩,.string ⟨#[]⟩] [.string wK,.string CG]) rfl (by kernel_rfl) (Ck.start Ac) ?_;iterate 9(first|(apply AU.z rfl;intro V L w1 _ _ _ z hK;(have e1:=AA z.s.1 e1;have e2:=AA z.s.1 e2);go_simp;exact hK (z.s.keep rfl rfl);intros;rfl)|(apply AU.y rfl;intro V L w1 _ _ z hK;go_simp;go_wp2_with((first|(refine(hN _).mono ?_;rintro e w2 ⟨rfl,rfl⟩)|(refine(hKd _).mono ?_;rintro e w2 ⟨rfl,rfl⟩)));(try simp only[pE]);exact hK.out _ (z.s.keep rfl rfl);intros;rfl))
 (apply AU.w rfl;intro V L w1 _ _ _ z hK;go_simp;exact hK rfl (z.s.made rfl z.i _);(try simp only[pE]));refine AU.val undef (fun _=>rfl) (fun V L w1 K' Q' hS hi hR' hd hK=>?_) ?_
 ·have hl:=hd.out 9 (by kernel_rfl);obtain⟨pb,hp,hp0,hp1,hx⟩:=hS.at hl hi;obtain⟨k0,k1⟩:=hx.c2;obtain⟨f0,f1⟩:=hx.f2;go_simp;exact hK.out _ _ (by simp only[hp];rfl) (hS.fill hl hp hp0 (by first|(rw[DK];exact hp1)|simpa using hp1) (hS.1.trans (Ay hp0 [.string wK,.string CG] 0 w1)) (CK [.string wK,.string CG] _ 0 w1 hx rfl) rfl)
 simp only[Act.put];refine AU.nil fun V w2 hS=>?_;obtain⟨pb,hpb,hp0,hp1,hxb⟩:=hS.done rfl rfl;have hb2:=hS.1;simp only[hpb];have ADl:N<=pb:=by have:=Jc.own.sz;omega
 have hR2:=Jc.kp hb2;obtain⟨FB,cap,Lr⟩:=hR2.f (f:=⟨wF,CG,[],[],[]⟩) rfl;have hFu:=Mh Lr.lc;have WR:=Lr.lc;have Db:Dr B w w2:=Dr.of (AB hb1 hb2) hBw;have Nr:B<=w2.heap.size:=hR2.bw;go_wp2_with fail;refine hFu.mono ?_;rintro e w3 ⟨rfl,hb3⟩;obtain⟨wz,rfl⟩:∃wz:World,wz=w3:=⟨_,rfl⟩;replace hR2:=hR2.kp hb3;replace hxb:=hxb.nx hb3;replace Db:=Db.trans (Dr.of hb3 Nr);replace WR:=AA hb3 WR;replace Nr:=hR2.bw;have BO:=hR2.kp (Below.refl wz.heap.size wz).drew;obtain⟨vo,cap2,Lr⟩:=BO.f (f:=⟨wF,CG,[],[],[]⟩) rfl;obtain rfl:FB=vo:=by
  have e1:=Lr.lc;have e0:wz.cell? ⟨R,4,none⟩=some (.slice (some ⟨FB,0,none⟩) 1 cap):=WR;rw[show wz.drew.cell? ⟨R,4,none⟩=wz.cell? ⟨R,4,none⟩from rfl,e0]at e1;injection e1 with e1;injection e1 with e1;injection e1 with e1;injection e1
 have LP:=Lr.lt;obtain⟨F,hs0,hF⟩:=Lr.sp;have hsp:=Aq.nth (l:=[dS wF,dS CG,.row 71 2 ([].map IQ),.row 71 2 ([].map IQ),.row 82 9 ([].map Pb)]) hs0 2 rfl (n:=2) (by simp[Dt.DF,Dt.wd,dS]);rw[Nat.zero_add]at hsp;obtain⟨vc,xs,hc,hox,pc,cc,rfl⟩:=hsp.owns;rw[show(([]:List Vr).map IQ).length=0 from rfl]at hc hox;have hc0:wz.cell? ⟨FB,2,none⟩=some (.slice pc 0 cc):=hc;have EK:(Value.slice pc 0 cc).ownBlock≠some FB:=own_ne hox LP (by decide);have IG:(Value.slice pc 0 cc).ownBlock≠some pb:=fun h=>by have:=hsp.JI hc h;omega
 have pQ:=fun w=>Hg 0 6 (by decide) w;obtain⟨xC,xB⟩:=hxb.c2;have hsz2:wz.drew.heap.size=wz.heap.size:=rfl;go_upto_region 5 with((refine(pQ _).mono ?_;rintro e w2 ⟨rfl,rfl⟩))
 refine AV (S:=Ad wz.drew B 71 2 6 7 10 [.string wK,.string CG] 0 xs (.slice pc 0 cc) ⟨FB,2,none⟩) rfl (by kernel_rfl) (Ad.start (AL)) ?_;iterate 6((apply AU.z rfl;intro V L w1 _ _ _ z hK;(try(have hs:=z.f 10 (by kernel_rfl);(have c1:=z.s.cellOf hs hc EK;have m0:=z.s.cellOf hs xC IG;have m1:=z.s.cellOf hs xB IG)));go_simp;exact hK (z.s.keep rfl rfl rfl);intros;rfl))
 (apply AU.w rfl;intro V L w1 _ _ _ z hK;go_simp;exact hK rfl (z.s.made (z.o 7 (by kernel_rfl)) rfl _);(try simp only[pE]));(refine AU.free (fun _=>rfl) (fun V L w1 _ _ hS hi hR hd hK=>hS.go hi (hR.out (10) _ (by kernel_rfl) hi) (hd.out (6) (by kernel_rfl)) (Q9) (underlying23) (hox) rfl rfl rfl rfl rfl rfl (by decide) (by simp[Value.oneCell']) (by unfold maxLen;omega) fun v' w' h=>hK.out _ _ rfl h) ?_;(try simp only[pE]));iterate 2((apply AU.z rfl;intro V L w1 _ _ _ z hK;(try(have hs:=z.f 10 (by kernel_rfl);(have c1:=z.s.cellOf hs hc EK)));go_simp;exact hK (z.s.keep rfl rfl rfl);intros;rfl))
 (apply AU.val undef (fun _=>rfl);intro V L w1 _ _ hS hi hR hd hK;have ha:=hd.out (7) (by kernel_rfl);(have cs:=hS.cellOf hi hc EK;have fs:=hS.EA hi (o:=2) LP.lt (LP.Bw _) EK);have hS2:=hS.stored ha hi rfl;obtain⟨pu,ku,CX⟩:=hS.val ha;rw[CX]at hS2;simp only[CX];go_simp;exact hK.out _ _ (by simp only[CX];rfl) hS2;simp only[Act.put]);refine AU.nil fun V w1 hS=>?_;obtain⟨Dc,hb4⟩:=hS.sr (d:=IQ ⟨wK,CG⟩) (q':=q2P) rfl rfl BO hsp hc hox rfl (by decide) (fun w1 pb hlow hx=>⟨[],Af.of (AP.cc (hx.c 0 _ rfl) rfl (AP.cc (hx.c 1 _ rfl) rfl AP.cn)),by simp⟩) rfl rfl LP (by decide) (by decide) (hF ⟨wF,CG,[⟨wK,CG⟩],[],[]⟩);have hb5:=(Db.trans (Dr.of (Below.refl wz.heap.size wz).drew Nr)).trans hb4;go_wp2;go_end0;exact⟨⟨rfl,_,Dc⟩,hb5⟩
end
end Go.Proofs.YtlffomedflegdaaGreatDoor
