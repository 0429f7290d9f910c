/- Part 5 of 49 of the proof: Knt, Knu, RowC, App, Ask, Rta, Rtb, Rtc, Rte, Rth, MapS. -/
import Derived.Deep.CutBlock
import Derived.Laws.OwnMore
import Derived.Laws.AppendOwn
import Derived.MapKept
import Derived.WideKeyEntry
import Derived.ChangeMaps4
import Derived.Below
import Derived.WalkKit
import Derived.Test.YtlffomedflegdaaGreatDoorPz00
import Derived.Test.YtlffomedflegdaaGreatDoorPz02
import Derived.Test.YtlffomedflegdaaGreatDoorPz03
import Derived.Test.YtlffomedflegdaaGreatDoorPz04
set_option linter.all false
set_option maxHeartbeats 16000000
set_option maxRecDepth 100000
namespace Go.Proofs.YtlffomedflegdaaGreatDoor
open Go.Proofs.Tryz
open Go.RowKit
variable {b clock g i j n s:Nat}{es:Array MapEntry}{k:Int}{l:List Vr}{v:Value}{w w0:World}{α:Type}
abbrev Cn(n:Int)(k:Int):Prop:=0<=n/\n<=k
def GV(k:Int)(n:Nat):Prop:=k<=4000->k=(n:Int)
theorem GV.big(h:4000<k):GV k n:=fun h2=>by omega
theorem GV.of:GV (n:Int) n:=fun _=>rfl
theorem GV.is(h:k=(n:Int)):GV k n:=fun _=>h
theorem GV.add{a:Int}{m:Nat}(h:GV k n)(h2:GV a m)(h0:0<=k)(h1:0<=a):GV (k+a) (n+m):=by grind [GV]
theorem GV.cast{m:Nat}(h:GV k n)(e:n=m):GV k m:=e▸h
def Aj{α:Type}(f:α->Nat):List α->Nat
 | []=>0
 |x::r=>f x+Aj f r
theorem D5(f:α->Nat):∀l r:List α,Aj f (l++r)=Aj f l+Aj f r
 | [],r=>by simp[Aj]
 |x::l,r=>by simp only[List.cons_append,Aj,D5 f l r];omega
theorem BD(f:α->Nat){l:List α}{q:Nat}(h:q<l.length):Aj f (l.take (q+1))=Aj f (l.take q)+f l[q]:=by
 rw[List.take_succ_eq_append_getElem h,D5];simp[Aj]
theorem DY(f:α->Nat)(l:List α):Aj f (l.take l.length)=Aj f l:=by rw[List.take_length]
def JF(l:List Ag):Nat:=l.length+Aj (fun a=>a.s.size) l
def CY(l:List Vr):Nat:=l.length+Aj (fun v=>v.n.size+v.t.size) l
theorem PL(h0:AA6 w0 w){l:List Ag}(hl:Row Lg 3 w0 v l):Calls prog 211 #[v,.int .i64 4000] w fun e w'=>w=w'/\∃n:Int,e=.returned (.int .i64 n)/\Cn n 281474976710656/\GV n (JF l):=by
 obtain⟨p,cu,rfl,-,hn,hl⟩:=hl;by_cases hbig:4000<l.length
 ·have wO:(4000:Int)<l.length:=by omega
  go_enter func211,ntmps211;go_wp2;go_ret;exact⟨rfl,_,rfl,⟨by omega,by omega⟩,.big (by omega)⟩
 have wO:¬(4000:Int)<l.length:=by omega
 go_enter func211,ntmps211;go_wp2;go_loopw[5,6] (fun n i wr=>∃q:Nat,∃k:Int,q<=l.length/\i=.int .i64 (q:Int)/\n=.int .i64 k/\Cn k 281474976710656/\GV k (l.length+Aj (fun a=>a.s.size) (l.take q))/\wr=w) (fun _ i _=>l.length-(intOf i).toNat);exact⟨0,_,AY,rfl,rfl,⟨by omega,by omega⟩,.of,rfl⟩;obtain⟨q,k,hq,rfl,rfl,hk,he,rfl⟩:=hrel;by_cases hend:q=l.length
 ·subst hend;rw[DY]at he;go_wp2;go_ret;exact⟨rfl,_,rfl,hk,he⟩
 ·have hlt:q<l.length:=by omega
  have A8:(q:Int)<l.length:=by omega
  by_cases hk2:k<=4000
  ·obtain⟨a,rfl,-,⟨c1,z1⟩,-⟩:=hl q l[q] (by simp[hlt]);have c1:=AA h0 c1;have hs:=BD (fun a:Ag=>a.s.size) hlt;generalize l[q].s=s at*;have z2:(s.size:Int)<=140737488351232:=(by unfold Sz at z1;omega);obtain⟨hk0,hk1⟩:=hk;go_wp2;go_roundw;exact⟨q+1,k+s.size,by omega,by go_num,by go_num,⟨by omega,by omega⟩,(he.add (.of (n:=s.size)) hk0 (by omega)).cast (by omega),trivial⟩;simp[intOf];omega
  ·go_wp2;go_ret;exact⟨rfl,_,rfl,hk,.big (by omega)⟩
theorem JC(h0:AA6 w0 w)(hl:Row IU 2 w0 v l):Calls prog 65 #[v,.int .i64 4000] w fun e w'=>w=w'/\∃n:Int,e=.returned (.int .i64 n)/\Cn n 281474976710656/\GV n (CY l):=by
 obtain⟨p,cu,rfl,-,hn,hl⟩:=hl;by_cases hbig:4000<l.length
 ·have wO:(4000:Int)<l.length:=by omega
  go_enter func65,ntmps65;go_wp2;go_ret;exact⟨rfl,_,rfl,⟨by omega,by omega⟩,.big (by omega)⟩
 have wO:¬(4000:Int)<l.length:=by omega
 go_enter func65,ntmps65;go_wp2;go_loopw[5,6] (fun n i wr=>∃q:Nat,∃k:Int,q<=l.length/\i=.int .i64 (q:Int)/\n=.int .i64 k/\Cn k 281474976710656/\GV k (l.length+Aj (fun v=>v.n.size+v.t.size) (l.take q))/\wr=w) (fun _ i _=>l.length-(intOf i).toNat);exact⟨0,_,AY,rfl,rfl,⟨by omega,by omega⟩,.of,rfl⟩;obtain⟨q,k,hq,rfl,rfl,hk,he,rfl⟩:=hrel;by_cases hend:q=l.length
 ·subst hend;rw[DY]at he;go_wp2;go_ret;exact⟨rfl,_,rfl,hk,he⟩
 ·have hlt:q<l.length:=by omega
  have A8:(q:Int)<l.length:=by omega
  by_cases hk2:k<=4000
  ·obtain⟨a,rfl,⟨c0,z0⟩,c1,z1⟩:=hl q l[q] (by simp[hlt]);have c0:=AA h0 c0;have c1:=AA h0 c1;have hs:=BD (fun v:Vr=>v.n.size+v.t.size) hlt;generalize l[q].n=s at*;generalize l[q].t=t at*;have z2:(s.size:Int)<=140737488351232:=(by unfold Sz at z0;omega);have z3:(t.size:Int)<=140737488351232:=(by unfold Sz at z1;omega);obtain⟨hk0,hk1⟩:=hk;by_cases hk3:k+s.size<=4000
   ·go_wp2;go_roundw;exact⟨q+1,k+s.size+t.size,by omega,by go_num,by go_num,⟨by omega,by omega⟩,((he.add (.of (n:=s.size)) hk0 (by omega)).add (.of (n:=t.size)) (by omega) (by omega)).cast (by omega),trivial⟩;simp[intOf];omega
   ·go_wp2;go_roundw;exact⟨q+1,k+s.size,by omega,by go_num,by go_num,⟨by omega,by omega⟩,.big (by omega),trivial⟩;simp[intOf];omega
  ·go_wp2;go_ret;exact⟨rfl,_,rfl,hk,.big (by omega)⟩
structure Pv(w:World)(v:Value)(x:Is)(u1 u2 u3:Value):Prop where
 e:v=.agg #[.int .i64 x.op,.string x.d,.string x.n,u1,u2,u3]
 z:Sz x.d/\Sz x.n
 a:Row Lg 3 w u1 x.as
 f:Row Py 4 w u2 x.fr
 o:Row Pw 2 w u3 x.ob
theorem Qe{s:ByteArray}(h:Sz s):(s.size:Int)<=140737488351232:=by unfold Sz at h;omega
def WX(n:Value)(b:Int)(c:Nat):Prop:=∃k:Int,n=.int .i64 k/\Cn k b/\GV k c
def JL(y:Bd):Nat:=1+y.n.size+y.a.s.size
def EW(y:Fr):Nat:=y.f.size+y.b.size+Aj JL y.vs
def Fz(y:Vt):Nat:=y.c.size+JF y.vs
def IJ(x:Is):Nat:=1+x.d.size+x.fr.length+x.ob.length+x.n.size+JF x.as+Aj EW x.fr+Aj Fz x.ob
def KE(z:Nat->Nat):Nat->Nat
 |0=>0
 |n+1=>KE z n+z n
theorem Mr{f:α->Nat}{l:List α}(h:j<l.length):Aj f ((l.drop j).take 1)=f l[j]:=by
 have:(l.drop j).take 1=[l[j]]:=by rw[List.drop_eq_getElem_cons h];rfl
 rw[this];simp[Aj]
theorem OV(f:α->Nat)(l:List α):∀n,n<=l.length->KE (fun j=>Aj f ((l.drop j).take 1)) n=Aj f (l.take n)
 |0,_=>by simp[KE,Aj]
 |n+1,h=>by
  rw[BD f (show n<l.length by omega),KE,OV f l n (by omega),Mr (by omega)]
theorem RV(f:α->Nat)(l:List α):KE (fun j=>Aj f ((l.drop j).take 1)) l.length=Aj f l:=by
 rw[OV f l _ (AQ),DY]
theorem jf{A q:Nat}{l:List Vt}(h:q<l.length)(he:GV k (A+Aj Fz (l.take q)+l[q].c.size+JF l[q].vs)):GV k (A+Aj Fz (l.take (q+1))):=
 he.cast (by rw[BD Fz h];unfold Fz;omega)
theorem VH(h0:AA6 w0 w){x:Is}{u1 u2 u3:Value}(hv:Pv w0 v x u1 u2 u3):Calls prog 166 #[v,.int .i64 4000] w fun e w'=>AA6 w w'/\∃n:Int,e=.returned (.int .i64 n)/\Cn n 562949953421312/\GV n (IJ x):=by
 obtain⟨rfl,⟨z1,z2⟩,ha,hf,ho⟩:=hv;have z1:=Qe z1;have z2:=Qe z2;obtain⟨p1,k1,rfl⟩:=ha.slice;obtain⟨p2,k2,rfl,-,hn2,hf⟩:=hf;obtain⟨p3,k3,rfl,-,QY,ho⟩:=ho;have hb1:=AJ w (.cells #[.int .i64 x.op,.string x.d,.string x.n,.slice p1 x.as.length k1,.slice p2 x.fr.length k2,.slice p3 x.ob.length k3] 133);have hB:=Ae.alloc w [.int .i64 x.op,.string x.d,.string x.n,.slice p1 x.as.length k1,.slice p2 x.fr.length k2,.slice p3 x.ob.length k3] 133;have hA:=PL (AB h0 hb1) ha;have h1:=AB h0 hb1;go_enter func166,ntmps166;by_cases c1:4000<x.fr.length
 ·have c1:(4000:Int)<x.fr.length:=by omega
  clear hA h1 hf ho ha;go_wp2;go_ret;exact⟨hb1,_,rfl,⟨by omega,by omega⟩,.big (by omega)⟩
 have c1I:¬(4000:Int)<x.fr.length:=by omega
 by_cases c2:4000<x.ob.length
 ·have c2:(4000:Int)<x.ob.length:=by omega
  clear hA h1 hf ho ha;go_wp2;go_ret;exact⟨hb1,_,rfl,⟨by omega,by omega⟩,.big (by omega)⟩
 have c2I:¬(4000:Int)<x.ob.length:=by omega
 go_upto_if 37 with fail;refine(?_:∀W,W=w.alloc (.cells #[.int .i64 x.op,.string x.d,.string x.n,.slice p1 x.as.length k1,.slice p2 x.fr.length k2,.slice p3 x.ob.length k3] 133)->Code.wp _ _ _ _ W) _ rfl;intro W hW;rw[<-hW]at hb1 hB hA h1;clear hW;go_cut[5]from 37 to 42 (fun n wx=>WX n 281474976710656 (1+x.d.size+x.fr.length+x.ob.length+x.n.size)/\wx=W)
 ·have b2:=hB.c 2 _ rfl;by_cases hk:1+(x.d.size:Int)+x.fr.length+x.ob.length<=4000
  ·go_wp2;go_meet;exact⟨⟨_,rfl,⟨by omega,by omega⟩,.is (by omega)⟩,rfl⟩
  ·go_wp2;go_meet;exact⟨⟨_,rfl,⟨by omega,by omega⟩,.big (by omega)⟩,rfl⟩
 obtain⟨⟨k,rfl,⟨hk0,hk1⟩,he⟩,rfl⟩:=hcut;go_upto_if 45 with fail;go_cut[5]from 45 to 51 (fun n wx=>WX n 562949953421312 (1+x.d.size+x.fr.length+x.ob.length+x.n.size+JF x.as)/\wx=wc)
 ·have b3:=hB.c 3 _ rfl;by_cases hk:k<=4000
  ·go_wp2_with fail;refine hA.mono ?_;rintro e w2 ⟨rfl,n,rfl,⟨hn0,hn1⟩,he2⟩;clear hA ha hf ho;go_wp2;go_meet;exact⟨⟨_,rfl,⟨by omega,by omega⟩,he.add he2 hk0 hn0⟩,rfl⟩
  ·go_wp2;go_meet;exact⟨⟨_,rfl,⟨by omega,by omega⟩,.big (by omega)⟩,rfl⟩
 clear he hk0 hk1;obtain⟨⟨k,rfl,⟨hk0,hk1⟩,he⟩,rfl⟩:=hcut;have hf2:∀(q:Nat) (hq:q<x.fr.length),∃a,p2=some a/\∃(s t:ByteArray) (pb:Option Addr) (nb kb:Nat) (z:Nat->Nat),(s.size+t.size+KE z nb=EW (x.fr[q]'hq))/\wc.cell? (a.add (q*4))=some (.string s)/\At wc (a.add (q*4)) 1 (.string t)/\At wc (a.add (q*4)) 3 (.slice pb nb kb)/\(s.size:Int)<=140737488351232/\(t.size:Int)<=140737488351232/\nb<=140737488351232/\
   ∀j,j<nb->∃b,pb=some b/\∃s t:ByteArray,z j=1+s.size+t.size/\wc.cell? (b.add (j*4))=some (.string s)/\At wc (b.add (j*4)) (1+1) (.string t)/\(s.size:Int)<=140737488351232/\(t.size:Int)<=140737488351232:=fun q hq=>by
  obtain⟨a,e,h⟩:=hf q x.fr[q] (by simp[hq]);obtain⟨⟨g1,g2⟩,⟨g3,g4⟩,-,u,g5,pb,kb,rfl,-,g6,g7⟩:=h;refine⟨a,e,_,_,pb,_,kb,fun j=>Aj JL ((x.fr[q].vs.drop j).take 1),(by rw[RV];rfl),AA h1 g1,AA h1 g3,AA h1 g5,Qe g2,Qe g4,g6.1,fun j hj=>?_⟩;obtain⟨b,e2,⟨i1,i2⟩,-,⟨i3,i4⟩,-⟩:=g7 j x.fr[q].vs[j] (by simp[hj]);exact⟨b,e2,_,_,by show Aj JL _=_;rw[Mr hj];rfl,AA h1 i1,AA h1 i3,Qe i2,Qe i4⟩
 clear hf;go_upto_block 0 with fail;go_cut[5,6,7]from 52 to 131 (fun n _ _ wx=>WX n 562949953421312 (1+x.d.size+x.fr.length+x.ob.length+x.n.size+JF x.as+Aj EW x.fr)/\wx=wc)
 ·have b4:=hB.c 4 _ rfl;clear hA ha ho;go_wp2;go_loopw[5,6,7] (fun n i _ wr=>∃q:Nat,∃k:Int,q<=x.fr.length/\i=.int .i64 (q:Int)/\n=.int .i64 k/\Cn k 562949953421312/\GV k (1+x.d.size+x.fr.length+x.ob.length+x.n.size+JF x.as+Aj EW (x.fr.take q))/\wr=wc) (fun _ i _ _=>x.fr.length-(intOf i).toNat);exact⟨0,_,AY,rfl,rfl,⟨hk0,hk1⟩,he,rfl⟩;obtain⟨q,k,hq,rfl,rfl,⟨hk0,hk1⟩,he,rfl⟩:=hrel;by_cases hend:q=x.fr.length
  ·subst hend;rw[DY]at he;go_wp2;go_meet;exact⟨⟨_,rfl,⟨hk0,hk1⟩,he⟩,rfl⟩
  ·have hlt:q<x.fr.length:=(by omega);have A8:(q:Int)<x.fr.length:=(by omega);by_cases hk2:k<=4000
   ·obtain⟨a,rfl,s,t,pb,nb,kb,z,hz,d0,d1,d3,hs,ht,hnb,hj⟩:=hf2 q hlt;have hnx:=BD EW hlt;rw[<-hz]at hnx;generalize hT:Aj EW (x.fr.take q)=T0 at*;replace hnx:=hidden hnx;go_upto_if 75 with fail;go_cut[5]from 64 to 84 (fun n wx=>WX n 562949953421312 (1+x.d.size+x.fr.length+x.ob.length+x.n.size+JF x.as+T0+s.size+t.size)/\wx=wr)
    ·by_cases hk3:k+s.size<=4000
     ·go_wp2;go_meet;exact⟨⟨_,rfl,⟨by omega,by omega⟩,(he.add (.of (n:=s.size)) hk0 (by omega)).add (.of (n:=t.size)) (by omega) (by omega)⟩,rfl⟩
     ·go_wp2;go_meet;exact⟨⟨_,rfl,⟨by omega,by omega⟩,.big (by omega)⟩,rfl⟩
    obtain⟨⟨k,rfl,⟨hk0,hk1⟩,he⟩,rfl⟩:=hcut;go_wp2;obtain⟨w7,rfl⟩:∃w7:World,w7=wc:=⟨_,rfl⟩;go_loopw[5,7] (fun n i wr=>∃j:Nat,∃k:Int,j<=nb/\i=.int .i64 (j:Int)/\n=.int .i64 k/\Cn k 562949953421312/\GV k (1+x.d.size+x.fr.length+x.ob.length+x.n.size+JF x.as+T0+s.size+t.size+KE z j)/\wr=w7) (fun _ i _=>nb-(intOf i).toNat);exact⟨0,_,AY,rfl,rfl,⟨hk0,hk1⟩,he,rfl⟩;obtain⟨j,k,hjl,rfl,rfl,⟨hk0,hk1⟩,he,rfl⟩:=hrel;by_cases hje:j=nb
    ·subst hje;go_wp2;go_roundw;exact⟨q+1,k,by omega,by go_num,rfl,⟨hk0,hk1⟩,he.cast (by have:=hnx.out;omega),trivial⟩;simp[intOf];omega
    ·have hjlt:j<nb:=(by omega);have hjI:(j:Int)<nb:=(by omega);by_cases hk2:k<=4000
     ·obtain⟨b,rfl,s2,t2,hzj,e0,e2,hs2,ht2⟩:=hj j hjlt;clear hj;have hnn:KE z (j+1)=KE z j+(1+s2.size+t2.size):=(by rw[<-hzj];rfl);by_cases hk3:k+1+s2.size<=4000
      ·go_wp2;go_roundw;exact⟨j+1,k+1+s2.size+t2.size,by omega,by go_num,by go_num,⟨by omega,by omega⟩,(((he.add (.of (n:=1)) hk0 (by omega)).add (.of (n:=s2.size)) (by omega) (by omega)).add (.of (n:=t2.size)) (by omega) (by omega)).cast (by omega),trivial⟩;simp[intOf];omega
      ·go_wp2;go_roundw;exact⟨j+1,k+1+s2.size,by omega,by go_num,by go_num,⟨by omega,by omega⟩,.big (by omega),trivial⟩;simp[intOf];omega
     ·clear hj;go_wp2;go_roundw;exact⟨q+1,k,by omega,by go_num,rfl,⟨hk0,hk1⟩,.big (by omega),trivial⟩;simp[intOf];omega
   ·clear hf2;go_wp2;go_meet;exact⟨⟨_,rfl,⟨hk0,hk1⟩,.big (by omega)⟩,rfl⟩
 clear hk0 hk1 hf2 he;obtain⟨⟨k,rfl,⟨hk0,hk1⟩,he⟩,rfl⟩:=hcut;have b5:=hB.c 5 _ rfl;go_wp2;obtain⟨w7,rfl⟩:∃w7:World,w7=wc:=⟨_,rfl⟩;go_loopw[5,8] (fun n i wr=>∃q:Nat,∃k:Int,q<=x.ob.length/\i=.int .i64 (q:Int)/\n=.int .i64 k/\Cn k 562949953421312/\GV k (1+x.d.size+x.fr.length+x.ob.length+x.n.size+JF x.as+Aj EW x.fr+Aj Fz (x.ob.take q))/\wr=w7) (fun _ i _=>x.ob.length-(intOf i).toNat);exact⟨0,_,AY,rfl,rfl,⟨hk0,hk1⟩,he,rfl⟩;obtain⟨q,k,hq,rfl,rfl,⟨hk0,hk1⟩,he,rfl⟩:=hrel;by_cases hend:q=x.ob.length
 ·subst hend;rw[DY]at he;go_wp2;go_ret;exact⟨hb1,_,rfl,⟨hk0,hk1⟩,he⟩
 ·have hlt:q<x.ob.length:=by omega
  have A8:(q:Int)<x.ob.length:=by omega
  by_cases hk2:k<=4000
  ·obtain⟨a,rfl,⟨g1,g2⟩,u,g5,hr⟩:=ho q x.ob[q] (by simp[hlt]);have g1:=AA h1 g1;have g5:=AA h1 g5;have g2:=Qe g2;have hA:=PL h1 hr;obtain⟨pa,ka,rfl⟩:=hr.slice;have hS:=fun k:Int=>jf (k:=k) (A:=1+x.d.size+x.fr.length+x.ob.length+x.n.size+JF x.as+Aj EW x.fr) hlt;generalize x.ob[q]=y at*;by_cases hk3:k+y.c.size<=4000
   ·go_wp2_with fail;refine hA.mono ?_;rintro e w2 ⟨rfl,n,rfl,⟨hn0,hn1⟩,he2⟩;go_wp2;go_roundw;exact⟨q+1,k+y.c.size+n,by omega,by go_num,by go_num,⟨by omega,by omega⟩,hS _ ((he.add (.of (n:=y.c.size)) hk0 (by omega)).add he2 (by omega) hn0),trivial⟩;simp[intOf];omega
   ·clear hA;go_wp2;go_roundw;exact⟨q+1,k+y.c.size,by omega,by go_num,by go_num,⟨by omega,by omega⟩,.big (by omega),trivial⟩;simp[intOf];omega
  ·clear ho;go_wp2;go_ret;exact⟨hb1,_,rfl,⟨hk0,hk1⟩,.big (by omega)⟩
section
def IV(s n:Nat)(f:Nat->Nat->Value):List Value:=(List.range (n*s)).map fun j=>f (j/s) (j%s)
theorem Jq(s n:Nat)(f:Nat->Nat->Value):(IV s n f).length=n*s:=by simp[IV]
theorem Jj{f:Nat->Nat->Value}(h:j<n*s):(IV s n f)[j]? =some (f (j/s) (j%s)):=by simp[IV,h]
theorem tq{k:Nat}(hk:k<s):(i*s+k)/s=i:=by
 rw[Nat.mul_comm,Nat.mul_add_div (by omega),Nat.div_eq_of_lt hk,Nat.add_zero]
theorem sU{k:Nat}(hk:k<s):(i*s+k)%s=k:=by
 rw[Nat.mul_comm,Nat.mul_add_mod,Nat.mod_eq_of_lt hk]
theorem OG{k:Nat}(hi:i<n)(hk:k<s):i*s+k<n*s:=by
 have:(i+1)*s<=n*s:=Nat.mul_le_mul_right s hi;grind
theorem Rh{f:Nat->Nat->Value}{k:Nat}(hi:i<n)(hk:k<s):(IV s n f)[i*s+k]? =some (f i k):=by grind [Jj,OG,tq,sU]
theorem KY{f:Nat->Nat->Value}(h:n*s<=j):(IV s n f)[j]? =none:=by grind [Jq]
theorem Ud{f g:Nat->Nat->Value}(h:∀i k,i<n->k<s->f i k=g i k):IV s n f=IV s n g:=by
 apply List.ext_getElem?;intro j;by_cases hj:j<n*s
 ·have hs:0<s:=by
   rcases Nat.eq_zero_or_pos s with e|e
   ·subst e;omega
   ·exact e
  rw[Jj hj,Jj hj,h _ _ ((Nat.div_lt_iff_lt_mul hs).2 hj) (Nat.mod_lt _ hs)]
 grind [Jj,KY]
theorem Xh(s:Nat)(f:Nat->Nat->Value):IV s 0 f=[]:=by simp[IV]
theorem Xi(s n:Nat)(f:Nat->Nat->Value):IV s (n+1) f=IV s n f++(List.range s).map (f n):=by
 apply List.ext_getElem?;intro j;have e:(n+1)*s=n*s+s:=by rw[Nat.add_mul,Nat.one_mul]
 by_cases hj:j<n*s
 ·rw[List.getElem?_append_left (by rw[Jq];exact hj),Jj hj,Jj (by omega)]
 ·rw[List.getElem?_append_right (by rw[Jq];omega),Jq];by_cases hj2:j<n*s+s
  ·obtain⟨k,rfl⟩:∃k,j=n*s+k:=⟨j-n*s,by omega⟩;have hk:k<s:=(by omega);rw[Rh (by omega) hk];have:n*s+k-n*s=k:=(by omega);rw[this];simp[hk]
  ·rw[KY (by omega),List.getElem?_eq_none (by simp;omega)]
theorem Dk{o:Nat}:(⟨g,o,none⟩:Addr).add j=⟨g,o+j,none⟩:=by
 unfold Addr.add;split<;>simp_all
def EM(w:World)(B:Nat)(e:TypeId)(s:Nat)(v:Value)(n:Nat)(f:Nat->Nat->Value):Prop:=w.ownsRow B e s v n (IV s n f)
section
variable {w w' : World} {B : Nat} {e : TypeId} {s : Nat} {v : Value} {n : Nat} {f : Nat -> Nat -> Value}
theorem EM.nil:EM w B e s (.slice none 0 0) 0 f:=by
 unfold EM;rw[Xh];exact World.ownsRow_nil _ _ _ _
theorem EM.slice(h:EM w B e s v n f):∃pu cu,v=.slice pu n cu:=by
 rcases h.2 with⟨rfl,rfl⟩|⟨g,cap,cur,rfl,_⟩<;>exact⟨_,_,rfl⟩
theorem Bf{xs:List Value}(h:w.ownsRow B e s v n xs):∃pu cu,v=.slice pu n cu:=by
 rcases h.2 with⟨rfl,rfl⟩|⟨g,cap,cur,rfl,_⟩<;>exact⟨_,_,rfl⟩
theorem EM.at(h:EM w B e s v n f)(h0:0<n):∃g cu,v=.slice (some ⟨g,0,none⟩) n cu/\B<=g/\g<w.heap.size/\n<=cu/\(∀i k,i<n->k<s->w.cell? ⟨g,i*s+k,none⟩=some (f i k))/\∀j,w.frozen? ⟨g,j,none⟩=false:=by
 rcases h.2 with⟨_,h1⟩|⟨g,cap,cur,rfl,hb,hg,hn,_⟩
 ·omega
 ·exact⟨g,cap,rfl,hb,(h.lt g rfl).2,hn,fun i k hi hk=>by rw[h.cellAt _ (OG hi hk),Rh hi hk],fun j=>h.frozenAt j⟩
theorem EM.kept{row:Option Nat}(h:EM w B e s v n f)(hg:w.grownBy w' row)(hne:v.ownBlock=none\/v.ownBlock≠row):EM w' B e s v n f:=World.ownsRow.kept h hg hne
theorem Ez{w':World}{C:Nat}(hb:Below C w w')(hC:w.heap.size<=C):w.grownBy w' none:=⟨hb.os,hb.tape,hb.output,hb.size,fun k hk _=>hb.block k (by omega)⟩
theorem EM.next{C:Nat}(h:EM w B e s v n f)(hb:Below C w w')(hC:w.heap.size<=C):EM w' B e s v n f:=h.kept (Ez hb hC) (by cases v.ownBlock<;>simp)
theorem EM.alloc(h:EM w B e s v n f)(o:Obj):EM (w.alloc o) B e s v n f:=World.ownsRow.alloc h o
theorem EM.push{v':Value}{xs:List Value}{f':Nat->Nat->Value}(h:w.ownsRow B e s v' (n+1) (IV s n f++xs))(hf:∀i k,i<n->k<s->f' i k=f i k)(hx:xs=(List.range s).map (f' n)):EM w B e s v' (n+1) f':=by grind [IV,EM,Xi,Ud]
theorem EM.typ(h:EM w B e s v n f)(hg:v.ownBlock=some g):∃cur m,w.heap[g]? =some (.cells cur e m):=by
 rcases h.2 with⟨rfl,rfl⟩|⟨g',cap,cur,rfl,hb,hheap,hn,hm,hs,hx⟩
 ·cases hg
 ·obtain rfl:g'=g:=by simpa[Value.ownBlock]using hg
  exact⟨cur,(0,0),hheap⟩
theorem EM.unlike{B':Nat}{e':TypeId}{s':Nat}{v':Value}{n':Nat}{f':Nat->Nat->Value}(h:EM w B e s v n f)(h':EM w B' e' s' v' n' f')(hne:e≠e')(hg:v.ownBlock=some g):v'.ownBlock≠some g:=fun e1=>by
 obtain⟨cur,m,a⟩:=h.typ hg;obtain⟨cur',m',b⟩:=h'.typ e1;rw[a]at b;injection b with b;injection b with _ b;exact hne b
end
end
def Dz(l:List Vr):List Value:=l.flatMap fun v=> [.string v.n,.string v.t]
theorem Jb(l:List Vr):(Dz l).length=l.length*2:=by
 induction l with
 |nil=>rfl
 |cons x r ih=>simp[Dz]at ih⊢;omega
theorem VG(a b:List Vr):Dz (a++b)=Dz a++Dz b:=by simp[Dz]
theorem Kk:∀{l:List Vr} {i:Nat} {x:Vr},l[i]? =some x->(Dz l)[i*2]? =some (.string x.n)/\(Dz l)[i*2+1]? =some (.string x.t)
 | [],i,x,h=>by simp at h
 |y::r,0,x,h=>by
  obtain rfl:y=x:=by simpa using h
  simp[Dz]
 |y::r,i+1,x,h=>by
  have ih:=Kk (l:=r) (i:=i) (by simpa using h);have e:Dz (y::r)=.string y.n::.string y.t::Dz r:=by simp[Dz]
  rw[e,show(i+1)*2=i*2+1+1 by omega];simpa using ih
theorem NS(l:List Vr):∀u∈Dz l,u.oneCell'=true:=by
 intro u hu;obtain⟨v,_,hv⟩:=List.mem_flatMap.1 hu;simp only[List.mem_cons,List.not_mem_nil,or_false]at hv;rcases hv with rfl|rfl<;>rfl
theorem uT(a:Addr)(i j:Nat):(a.add i).add j=a.add (i+j):=by
 unfold Addr.add;grind
theorem LJ{p:Option Addr}(h:∀(i:Nat) x,l[i]? =some x->∃a,p=some a/\IU w (a.add (i*2)) x):∀ad,p=some ad->∀j u,(Dz l)[j]? =some u->w.cell? (ad.add j)=some u:=by
 intro ad hp j u hu;have hj:j<l.length*2:=by
  rcases Nat.lt_or_ge j (l.length*2)with h1|h1
  ·exact h1
  ·rw[List.getElem?_eq_none (by rw[Jb];exact h1)]at hu;cases hu
 have hi:j/2<l.length:=by omega
 obtain⟨h1,h2⟩:=Kk (l:=l) (i:=j/2) (x:=l[j/2]) (by simp[hi]);obtain⟨a,e,hA⟩:=h (j/2) l[j/2] (by simp[hi]);rw[hp]at e;obtain rfl:ad=a:=by simpa using e
 obtain⟨⟨g0,-⟩,g1,-⟩:=hA;rcases Nat.mod_two_eq_zero_or_one j with e|e
 ·have e2:j/2*2=j:=by omega
  rw[e2]at h1 g0;rw[h1]at hu;rw[g0];exact hu
 ·have e2:j/2*2+1=j:=by omega
  rw[e2]at h2;rw[h2]at hu;have g2:w.cell? ((ad.add (j/2*2)).add 1)=some (.string l[j/2].t):=g1;rw[uT,e2]at g2;rw[g2];exact hu
theorem dK{B:Nat}{T:TypeId}(h:w.ownsRow B T 2 v l.length (Dz l))(hz:∀x∈l,Sz x.n/\Sz x.t)(hn:l.length<=140737488351232):Row IU 2 w v l:=by
 rcases h.2 with⟨rfl,h0⟩|⟨g,cap,cur,rfl,-,-,hcap,_⟩
 ·refine⟨none,0,by rw[h0],fun _=>⟨h0,rfl⟩,⟨hn,by rw[h0];exact AQ⟩,fun i x hx=>?_⟩;have:l=[]:=List.length_eq_zero_iff.1 h0;subst this;cases hx
 ·refine⟨some ⟨g,0,none⟩,cap,rfl,(fun e=>by cases e),⟨hn,hcap⟩,fun i x hx=>⟨_,rfl,?_⟩⟩;obtain⟨h1,h2⟩:=Kk hx;have z:=hz x (List.mem_of_getElem? hx);refine⟨⟨h.cells rfl _ _ h1,z.1⟩,?_,z.2⟩;have:=h.cells rfl _ _ h2;rw[Dk]at this;show w.cell? ⟨_,_,none⟩=_;rw[Dk];simpa[Nat.add_assoc]using this
theorem Row.sz(h:Row IU 2 w v l):∀x∈l,Sz x.n/\Sz x.t:=by
 intro x hx;obtain⟨p,cu,-,-,-,h⟩:=h;obtain⟨i,hi,rfl⟩:=List.getElem_of_mem hx;obtain⟨a,-,⟨-,z1⟩,-,z2⟩:=h i l[i] (by simp[hi]);exact⟨z1,z2⟩
def DU(f:Fn):List Ag->Option (List ByteArray)
 | []=>some []
 |a::r=>match GJ f a with
  |none=>none
  |some t=>match DU f r with
   |none=>none
   |some l=>some (t::l)
def Ib(f:Fn)(x:Is)(fm:Fm):Option ByteArray:=if fm.d then(varOf f x.d).map Vr.t else some ⟨#[]⟩
def RL(f:Fn)(x:Is):Option (ByteArray×List ByteArray):=match BH x.op with
 |none=>none
 |some fm=>if(x.as.length:Int)<fm.l\/fm.m<x.as.length then none else match Ib f x fm with
  |none=>none
  |some d=>match DU f x.as with
   |none=>none
   |some l=>some (d,l)
theorem kr:(prog.info? 9).map (fun i=>(i.zero,i.size,i.bytes))=some (some (.string .empty),1,16):=by kernel_rfl
theorem bL(w:World)(s:ByteArray):∀j u,([Value.string s])[j]? =some u->(w.alloc (Obj.cells #[.string s] 9)).cell? ((⟨w.heap.size,0,none⟩:Addr).add j)=some u:=by
 intro j u hu;rw[Dk,Nat.zero_add,World.cell?_alloc_mark];simpa using hu
theorem dL{B:Nat}{T:TypeId}{l:List ByteArray}(h:w.ownsRow B T 1 v l.length (l.map .string))(hz:∀s∈l,Sz s)(hn:l.length<=140737488351232):Row DL 1 w v l:=by
 rcases h.2 with⟨rfl,h0⟩|⟨g,cap,cur,rfl,-,-,hcap,_⟩
 ·refine⟨none,0,by rw[h0],fun _=>⟨h0,rfl⟩,⟨hn,by rw[h0];exact AQ⟩,fun i x hx=>?_⟩;have:l=[]:=List.length_eq_zero_iff.1 h0;subst this;cases hx
 ·refine⟨some ⟨g,0,none⟩,cap,rfl,(fun e=>by cases e),⟨hn,hcap⟩,fun i x hx=>⟨_,rfl,?_,hz x (List.mem_of_getElem? hx)⟩⟩;rw[Nat.mul_one];exact h.cells rfl i _ (by simp[hx])
def FZ:List ByteArray->List Vr->Bool
 | [],[]=>true
 |a::r,v::s=>Du a v.t&&FZ r s
 |_,_=>false
theorem J3:∀(l:List ByteArray) (vs:List Vr),l.length≠vs.length->FZ l vs=false
 | [],[],h=>absurd rfl h
 | [],_::_,_=>rfl
 |_::_,[],_=>rfl
 |a::r,v::s,h=>by
  unfold FZ;rw[J3 r s (fun e=>h (by simp[e])),Bool.and_false]
def FP(l:List ByteArray)(a d e:ByteArray):Bool:=l.all (fun t=>decide (t=a))&&decide (d=e)
def nk(a b:ByteArray):Bool:=Dq a&& (Dq b&& (decide (a=b)||(decide (a=Fx)||decide (b=Fx))))
def Kz(p:Pg)(x:Is)(d:ByteArray)(l:List ByteArray):Bool:=match Ai Cl.n x.n p.cs with
 |none=>false
 |some c=>decide (d=c.n)&& (decide (l.length=0)||FZ l c.fs)
def GN(p:Pg)(x:Is)(a:Ag)(s:ByteArray):Option Vr:=if a.k=1 then EH p s x.n else none
def Ia(p:Pg)(x:Is)(d s:ByteArray):Bool:=match Ai Vr.n x.n p.gs with
 |none=>false
 |some g=>if x.op=29 then decide (g.t=d)else Du s g.t
def vN:Option Vr->ByteArray
 |some c=>c.n
 |none=>⟨#[]⟩
def vT:Option Vr->ByteArray
 |some c=>c.t
 |none=>⟨#[]⟩
theorem XA.eq{r:Option Vr}{e:Ending}(h:XA w r e):e=.returned (.tuple #[.agg #[.string (vN r),.string (vT r)],.bool r.isSome]):=by
 cases r with
 |none=>exact h
 |some c=>exact h.1
def Ql(d:ByteArray)(r:Option Vr):Bool:=match r with
 |none=>false
 |some v=>decide (v.t=d)
def Td(s:ByteArray)(r:Option Vr):Bool:=match r with
 |none=>false
 |some v=>Du s v.t
def K5(p:Pg)(x:Is)(d:ByteArray)(l:List ByteArray):Bool:=match Ai Fn.n x.n p.fs with
 |none=>false
 |some g=>FZ l g.ps&&decide (d=g.r)
def Qr(p:Pg)(x:Is)(d:ByteArray)(l:List ByteArray):Bool:=match Ai Ex.n x.n p.xs with
 |none=>false
 |some g=>decide ((l.length:Int)=g.k)&&FP l BA d BA
def BX(p:Pg)(x:Is)(d:ByteArray)(l:List ByteArray)(a:Ag)(s s2:ByteArray):Bool:=
 if x.op<=14 then FP l BA d BA else if x.op<=18 then FP l Ao d Ao else if x.op<=21 then FP l Ao d BA
 else if x.op=22 then FP l BA d Ao else if x.op=23 then FP l Ao d BA else if x.op=24 then Du s d
 else if x.op=25 then Kz p x d l else if x.op=26 then Ql d (GN p x a s)else if x.op=27 then Td s2 (GN p x a s)
 else if x.op=28 then decide (d=BA)&&nk s s2 else if x.op=29\/x.op=30 then Ia p x d s
 else if x.op=31 then K5 p x d l else if x.op=32 then Qr p x d l else if x.op=33 then !Dq s else true
def xI:Ag:=⟨0,⟨#[]⟩,0⟩
def Av(p:Pg)(x:Is)(d:ByteArray)(l:List ByteArray):Bool:=BX p x d l (x.as[0]?.getD xI) (l[0]?.getD ⟨#[]⟩) (l[1]?.getD ⟨#[]⟩)
def Di(p:Pg)(f:Fn)(x:Is):Bool:=match RL f x with
 |none=>false
 |some (d,l)=>Av p x d l
theorem KR(f:Fn):∀(ar:List Ag) (l:List ByteArray),DU f ar=some l->l.length=ar.length
 | [],l,h=>by
  injection h with h;subst h
  rfl
 |a::r,l,h=>by
  simp only[DU]at h
  cases h1:GJ f a with
  |none=>rw[h1]at h;cases h
  |some t=>
   rw[h1]at h;dsimp only at h
   cases h2:DU f r with
   |none=>rw[h2]at h;cases h
   |some l2=>
    rw[h2]at h;injection h with h;subst h;simp only[List.length_cons,KR f r l2 h2]
section
open Go.MapKept Go.ChangeMaps
abbrev Vu:=ByteArray×Int
abbrev Vm:=List (ByteArray×Vu)
abbrev Bv:ByteArray:=⟨#[]⟩
def getM(l:Vm)(x:ByteArray):Vu:=match l.find? (fun y=>decide (y.1=x))with
 |some y=>y.2
 |none=>(Bv,0)
def Wu(l:Vm)(x:ByteArray):Bool:=(l.find? (fun y=>decide (y.1=x))).isSome
def Ei:Vm->ByteArray->Vu->Vm
 | [],x,v=> [(x,v)]
 |y::r,x,v=>if y.1=x then(x,v)::r else y::Ei r x v
abbrev Kn(v:Vu):Value:=.agg #[.string v.1,.int .i64 v.2]
def Eu(x:ByteArray×Vu):Value×Value:=(.string x.1,Kn x.2)
def CQ(w:World)(b:Nat)(m:Vm):Prop:=
 ∃es clock,w.heap[b]? =some (.map es clock)/\Stamped es clock/\es.toList.map (fun e=>(e.key,e.val))=m.map Eu
theorem LV(x:ByteArray):IsKey .string (.string x):=trivial
theorem V6:∀{m:Vm} {x:ByteArray} {j:Nat} {v:Vu},(m.map (·.1)).Nodup->m[j]? =some (x,v)->getM m x=v/\Wu m x=true
 | [],_,_,_,_,h=>by simp at h
 |y::r,x,0,v,_,h=>by
  obtain rfl:y=(x,v):=by simpa using h
  simp[getM,Wu]
 |y::r,x,j+1,v,hn,h=>by
  simp only[List.map_cons,List.nodup_cons]at hn;have h':r[j]? =some (x,v):=by simpa using h
  have hne:y.1≠x:=fun e=>hn.1 (e▸List.mem_map.2 ⟨(x,v),List.mem_of_getElem? h',rfl⟩);have ih:=V6 hn.2 h';unfold getM Wu at ih⊢;rw[List.find?_cons_of_neg (by simpa using hne)];exact ih
theorem lS{m:Vm}{x:ByteArray}(h:∀y∈m,y.1≠x):getM m x=(Bv,0)/\Wu m x=false:=by grind [getM,Wu]
theorem Vn:∀{m:Vm} {x:ByteArray} {v:Vu},(∀y∈m,y.1≠x)->Ei m x v=m++[(x,v)]
 | [],_,_,_=>rfl
 |y::r,x,v,h=>by
  unfold Ei;rw[if_neg (h y (by simp)),Vn (fun z hz=>h z (by simp[hz]))];rfl
theorem Vo:∀{m:Vm} {x:ByteArray} {v u:Vu} {j:Nat},(m.map (·.1)).Nodup->m[j]? =some (x,u)->Ei m x v=m.set j (x,v)
 | [],_,_,_,_,_,h=>by simp at h
 |y::r,x,v,u,0,_,h=>by
  obtain rfl:y=(x,u):=by simpa using h
  unfold Ei;rw[if_pos rfl]
  rfl
 |y::r,x,v,u,j+1,hn,h=>by
  simp only[List.map_cons,List.nodup_cons]at hn;have h':r[j]? =some (x,u):=by simpa using h
  have hne:y.1≠x:=fun e=>hn.1 (e▸List.mem_map.2 ⟨(x,u),List.mem_of_getElem? h',rfl⟩);unfold Ei;rw[if_neg hne,Vo hn.2 h'];rfl
section
variable {P : Program} {w : World} {t kt et : TypeId} {b : Nat} {m : Vm}
theorem CQ.keys(h:es.toList.map (fun e=>(e.key,e.val))=m.map Eu):∀x∈es.toList,∃y∈m,x.key=.string y.1/\x.val=Kn y.2:=by
 intro x hx;have:(x.key,x.val)∈m.map Eu:=h▸List.mem_map.2 ⟨x,hx,rfl⟩;grind [Eu]
theorem CQ.MS(h:es.toList.map (fun e=>(e.key,e.val))=m.map Eu):∀x∈es.toList,IsKey .string x.key:=fun x hx=>by
 obtain⟨y,_,e,_⟩:=CQ.keys h x hx;rw[e];trivial
theorem CQ.aH(hs:Stamped es clock)(h:es.toList.map (fun e=>(e.key,e.val))=m.map Eu):(m.map (·.1)).Nodup:=by
 have h1:es.toList.map (·.key)=m.map (fun x=>Value.string x.1):=by
  have:=congrArg (List.map Prod.fst) h;simpa[List.map_map,Function.comp_def,Eu]using this
 have h2:=hs.2.2;grind
theorem CQ.lt(h:CQ w b m):b<w.heap.size:=by grind [CQ]
theorem CQ.find(hs:Stamped es clock)(he:es.toList.map (fun e=>(e.key,e.val))=m.map Eu)(x:ByteArray):(Instr.findNow .string (.string x) es.toList 0=some none/\(∀y∈m,y.1≠x)/\∀y∈es.toList,y.key≠ .string x)\/∃j e,Instr.findNow .string (.string x) es.toList 0=some (some (j,Kn (getM m x)))/\es.toList[j]? =some e/\e.key=.string x/\e.val=Kn (getM m x)/\m[j]? =some (x,getM m x)/\Wu m x=true:=by
 rcases findNow_spec (LV x) es.toList 0 (CQ.MS he)with⟨h1,h2⟩|⟨j,e,h1,h2,h3⟩
 ·refine .inl ⟨h1,fun y hy e=>?_,h2⟩;have:Eu y∈es.toList.map (fun e=>(e.key,e.val)):=he▸List.mem_map.2 ⟨y,hy,rfl⟩;obtain⟨z,hz,ez⟩:=List.mem_map.1 this;simp only[Eu,Prod.mk.injEq]at ez;exact h2 z hz (by rw[ez.1,e])
 ·have:(es.toList.map (fun e=>(e.key,e.val)))[j]? =some (e.key,e.val):=by simp[h2]
  rw[he,List.getElem?_map]at this
  cases hm:m[j]? with
  |none=>rw[hm]at this;cases this
  |some y=>
   rw[hm]at this;have ey:Eu y=(e.key,e.val):=(by simpa using this);simp only[Eu,Prod.mk.injEq]at ey;rw[h3]at ey;have hx:y.1=x:=(by simpa using ey.1);subst hx;have hg:=V6 (CQ.aH hs he) (show m[j]? =some (y.1,y.2)from hm);rw[hg.1];rw[<-ey.2]at h1;exact .inr ⟨j,e,by simpa using h1,h2,h3,ey.2.symm,hm,hg.2⟩
theorem bY(hm:P.underlying t=some (.map kt et))(hk:P.underlying kt=some .string)(hz:∀u:World,(zeroValue et).run P u=.ok (Kn (Bv,0)) u)(h:CQ w b m)(x:ByteArray):(Instr.lookup t (.map (some b)) (.string x) false).run P w=.ok (Kn (getM m x)) w:=by
 obtain⟨es,clock,hb,hs,he⟩:=h;rcases CQ.find hs he x with⟨h1,h2,_⟩|⟨j,e,h1,h2,h3,h4,h5,h6⟩
 ·rw[(lS h2).1];simp[Instr.lookup,run_underlying hm,MapKept.run_getObj_map hb,MapKept.run_checkKey hk (LV x),MapKept.run_findKey hk h1,hz,Result.andThen]
 ·simp[Instr.lookup,run_underlying hm,MapKept.run_getObj_map hb,MapKept.run_checkKey hk (LV x),MapKept.run_findKey hk h1,Result.andThen]
def Dx(w:World)(b:Nat)(o:Obj):World:={w with heap:=w.heap.setIfInBounds b o}
theorem Hz(w:World)(b:Nat)(o:Obj):w.grownBy (Dx w b o) (some b):=
 ⟨rfl,rfl,rfl,by simp[Dx],fun k _ hne=>by
  have:b≠k:=fun e=>hne (by rw[e])
  simp[Dx,this]⟩
theorem KW{o o':Obj}(h:w.heap[b]? =some o):(Dx w b o').heap[b]? =some o':=(MapKept.heap_set h).1
theorem I4{k:Nat}(o:Obj)(h:k≠b):(Dx w b o).heap[k]? =w.heap[k]? :=by grind [Dx]
theorem CQ.other{w':World}{m:Vm}(h:CQ w b m)(he:w'.heap[b]? =w.heap[b]?):CQ w' b m:=by grind [CQ]
theorem Ua{m:Vm}{e:MapEntry}{x:ByteArray}{v:Vu}(he:es.toList.map (fun e=>(e.key,e.val))=m.map Eu)(hj:es.toList[j]? =some e)(hk:e.key=.string x)(f:MapEntry->MapEntry)(hf:∀e,e.key=.string x->((f e).key,(f e).val)=(Value.string x,Kn v)):(es.modify j f).toList.map (fun e=>(e.key,e.val))=(m.set j (x,v)).map Eu:=by
 rw[Array.toList_modify];apply List.ext_getElem?;intro i;rw[List.getElem?_map,List.getElem?_map,List.getElem?_modify,List.getElem?_set];have hi:(es.toList.map (fun e=>(e.key,e.val)))[i]? =(m.map Eu)[i]? :=by rw[he]
 rw[List.getElem?_map,List.getElem?_map]at hi;by_cases hji:j=i
 ·subst hji;rw[hj]at hi;have:j<m.length:=by
   cases hm:m[j]? with
   |none=>rw[hm]at hi;cases hi
   |some y=>exact(List.getElem?_eq_some_iff.1 hm).1
  have e1:=hf e hk;simp only[hj,this,if_true,Option.map_eq_map,Option.map_some,Eu];exact congrArg some e1
 grind
theorem Mi(hm:P.underlying t=some (.map kt et))(hk:P.underlying kt=some .string)(h:CQ w b m)(x:ByteArray)(v:Vu):∃o2,(Instr.mapUpdate t (.map (some b)) (.string x) (Kn v)).run P w=.ok () (Dx w b o2)/\CQ (Dx w b o2) b (Ei m x v):=by
 obtain⟨es,clock,hb,hs,he⟩:=h;rcases CQ.find hs he x with⟨h1,h2,h2'⟩|⟨j,e,h1,h2,h3,h4,h5,h6⟩
 ·refine⟨.map (es.push ⟨.string x,Kn v,clock⟩) (clock+1),?_,_,_,KW hb,stamped_push hs h2',?_⟩
  ·simp[Instr.mapUpdate,run_underlying hm,MapKept.run_getObj_map hb,MapKept.run_checkKey hk (LV x),MapKept.run_findKey hk h1,MapKept.run_setObj_map _ hb,Result.andThen,Dx]
  ·rw[Vn h2];simp[he,Eu]
 ·have hj:es[j]? =some e:=by simpa using h2
  refine⟨.map (es.modify j (fun e=>{e with key:=.string x,val:=Kn v})) clock,?_,_,_,KW hb,?_,?_⟩
  ·simp[Instr.mapUpdate,run_underlying hm,MapKept.run_getObj_map hb,MapKept.run_checkKey hk (LV x),MapKept.run_findKey hk h1,hj,h3,MapKept.run_keyThatStays (LV x),MapKept.run_setObj_map _ hb,Result.andThen,Dx]
  ·refine stamped_modify hs j (fun e=>{e with key:=.string x,val:=Kn v}) (fun _ _=>rfl) (fun e' _ he'=>?_);rw[hj]at he';injection he' with he';subst he';exact h3.symm
  ·rw[Vo (CQ.aH hs he) h5];exact Ua he h2 h3 _ (fun _ _=>rfl)
theorem CQ.made:CQ (w.alloc (.map #[] clock)) w.heap.size []:=⟨#[],clock,(MapKept.heap_alloc w _).1,stamped_empty clock,rfl⟩
theorem CQ.copy(hb:w.heap[b]? =some (.map es clock))(h:CQ w b m):CQ (w.alloc (.map es clock)) w.heap.size m:=by
 obtain⟨es',clock',hb',hs,he⟩:=h;rw[hb]at hb';injection hb' with hb';injection hb' with h1 h2;subst h1 h2;exact⟨es,clock,(MapKept.heap_alloc w _).1,hs,he⟩
end
end
end Go.Proofs.YtlffomedflegdaaGreatDoor
