/- Part 13 of 49 of the proof: Knf, Mf, Sel, Two, Mg. -/
import Derived.Test.YtlffomedflegdaaGreatDoorPz00
import Derived.Test.YtlffomedflegdaaGreatDoorPz02
import Derived.Test.YtlffomedflegdaaGreatDoorPz12
set_option linter.all false
set_option maxHeartbeats 16000000
set_option maxRecDepth 100000
namespace Go.Proofs.YtlffomedflegdaaGreatDoor
open Go.Proofs.Tryz
open Go.RowKit
variable {a:Addr}{b:Bk}{c:Cl}{f:Fn}{p q:Nat}{u1 u2 u3 v:Value}{w w0:World}{x:ByteArray}{α:Type}
def cntF(f:Fn):Nat:=1+f.n.size+f.r.size+CY f.ps+CY f.vs+Aj G5 f.bs
theorem uQ{k:Int}{A:Nat}{l:List Bk}(h:q<l.length)(he:GV k (A+Aj G5 (l.take q)+G5 l[q])):GV k (A+Aj G5 (l.take (q+1))):=
 he.cast (by rw[BD G5 h];omega)
theorem Jf.val{x:Bk}(h:Jf w a x):∃u1 u2 u3,Qw w (.agg #[.string x.n,u1,u2,.int .i64 x.e.k,.int .i64 x.e.a.k,.string x.e.a.s,.int .i64 x.e.a.n,u3,.int .i64 x.e.n]) x u1 u2 u3/\w.cell? a=some (.string x.n)/\At w a 1 u1/\At w a 2 u2/\At w a 3 (.int .i64 x.e.k)/\At w a 4 (.int .i64 x.e.a.k)/\At w a 5 (.string x.e.a.s)/\At w a 6 (.int .i64 x.e.a.n)/\At w a 7 u3/\At w a 8 (.int .i64 x.e.n):=by
 obtain⟨⟨h1,z1⟩,⟨u1,h2,r1⟩,⟨u2,h3,r2⟩,h4,⟨h5,⟨h6,z2⟩,h7⟩,⟨u3,h8,r3⟩,h9⟩:=h;exact⟨u1,u2,u3,⟨rfl,⟨z1,z2⟩,r1,r2,r3⟩,h1,h2,h3,h4,h5,h6,h7,h8,h9⟩
theorem Sm(h0:AA6 w0 w){x:Fn}(hv:EL w0 v x u1 u2 u3):Calls prog 66 #[v,.int .i64 4000] w fun e w'=>AA6 w w'/\∃n:Int,e=.returned (.int .i64 n)/\Cn n 2251799813685248/\GV n (cntF x):=by
 obtain⟨rfl,⟨z1,z2⟩,hp,hv,hk⟩:=hv;generalize hcf:cntF x=CF at*;unfold cntF at hcf;have z1:=Qe z1;have z2:=Qe z2;obtain⟨p1,k1,rfl⟩:=hp.slice;obtain⟨p2,k2,rfl⟩:=hv.slice;obtain⟨p3,k3,rfl,-,QY,hk⟩:=hk;have hb1:=AJ w (.cells #[.string x.n,.string x.r,.slice p1 x.ps.length k1,.slice p2 x.vs.length k2,.slice p3 x.bs.length k3] 66);have hB:=Ae.alloc w [.string x.n,.string x.r,.slice p1 x.ps.length k1,.slice p2 x.vs.length k2,.slice p3 x.bs.length k3] 66;have h1:=AB h0 hb1;have hP:=JC h1 hp;have hV:=JC h1 hv;clear hp hv;go_enter func66,ntmps66;by_cases c1:4000<x.bs.length
 ·have c1:(4000:Int)<x.bs.length:=by omega
  clear h1 hP hV hk;go_wp2;go_ret;exact⟨hb1,_,rfl,⟨by omega,by omega⟩,.big (by omega)⟩
 have c1I:¬(4000:Int)<x.bs.length:=by omega
 go_upto_if 20 with fail;refine(?_:∀W,W=w.alloc (.cells #[.string x.n,.string x.r,.slice p1 x.ps.length k1,.slice p2 x.vs.length k2,.slice p3 x.bs.length k3] 66)->Code.wp _ _ _ _ W) _ rfl;intro W hW;rw[<-hW]at hb1 hB h1 hP hV;clear hW;go_cut[5]from 18 to 25 (fun n wx=>WX n 2251799813685248 (1+x.n.size+x.r.size)/\wx=W)
 ·have b1:=hB.c 1 _ rfl;clear hP hV hk;by_cases hk:1+(x.n.size:Int)<=4000
  ·go_wp2;go_meet;exact⟨⟨_,rfl,⟨by omega,by omega⟩,.is (by omega)⟩,rfl⟩
  ·go_wp2;go_meet;exact⟨⟨_,rfl,⟨by omega,by omega⟩,.big (by omega)⟩,rfl⟩
 obtain⟨⟨k,rfl,⟨hk0,hk1⟩,he⟩,rfl⟩:=hcut;go_upto_if 28 with fail;go_cut[5]from 26 to 34 (fun n wx=>WX n 2251799813685248 (1+x.n.size+x.r.size+CY x.ps)/\wx=wc)
 ·have b2:=hB.c 2 _ rfl;by_cases hk:k<=4000
  ·go_wp2_with fail;refine hP.mono ?_;rintro e w2 ⟨rfl,n,rfl,⟨hn0,hn1⟩,hn2⟩;go_wp2;go_meet;exact⟨⟨_,rfl,⟨by omega,by omega⟩,he.add hn2 hk0 hn0⟩,rfl⟩
  ·clear hP;go_wp2;go_meet;exact⟨⟨_,rfl,⟨by omega,by omega⟩,.big (by omega)⟩,rfl⟩
 obtain⟨⟨k,rfl,⟨hk0,hk1⟩,he⟩,rfl⟩:=hcut;go_upto_if 37 with fail;go_cut[5]from 35 to 43 (fun n wx=>WX n 2251799813685248 (1+x.n.size+x.r.size+CY x.ps+CY x.vs)/\wx=wc)
 ·have b3:=hB.c 3 _ rfl;by_cases hk:k<=4000
  ·go_wp2_with fail;refine hV.mono ?_;rintro e w2 ⟨rfl,n,rfl,⟨hn0,hn1⟩,hn2⟩;go_wp2;go_meet;exact⟨⟨_,rfl,⟨by omega,by omega⟩,he.add hn2 hk0 hn0⟩,rfl⟩
  ·clear hV;go_wp2;go_meet;exact⟨⟨_,rfl,⟨by omega,by omega⟩,.big (by omega)⟩,rfl⟩
 clear hk0 hk1 hV he;obtain⟨⟨k,rfl,⟨hk0,hk1⟩,he⟩,rfl⟩:=hcut;go_wp2;go_loopw[5,6] (fun n i wr=>∃q:Nat,∃k:Int,q<=x.bs.length/\i=.int .i64 (q:Int)/\n=.int .i64 k/\Cn k 2251799813685248/\GV k (1+x.n.size+x.r.size+CY x.ps+CY x.vs+Aj G5 (x.bs.take q))/\AA6 wc wr) (fun _ i _=>x.bs.length-(intOf i).toNat);exact⟨0,_,AY,rfl,rfl,⟨hk0,hk1⟩,he,AL⟩;clear hk0 hk1 he;obtain⟨q,k,hq,rfl,rfl,⟨hk0,hk1⟩,he,hbw⟩:=hrel;have hB1:=hB.nx hbw;have b4:=hB1.c 4 _ rfl;have hbf:=AB hb1 hbw;by_cases hend:q=x.bs.length
 ·subst hend;rw[DY,hcf]at he;go_wp2;go_ret;exact⟨hbf,_,rfl,⟨hk0,hk1⟩,he⟩
 ·have hlt:q<x.bs.length:=by omega
  have A8:(q:Int)<x.bs.length:=by omega
  by_cases hk2:k<=4000
  ·obtain⟨a,rfl,hI⟩:=hk q x.bs[q] (by simp[hlt]);obtain⟨v1,v2,v3,S9,g0,g1,g2,g3,g4,g5,g6,g7,g8⟩:=hI.val;have hw:=AB h1 hbw;have hA:=VI hw S9;have g0:=AA hw g0;have g1:=AA hw g1;have g2:=AA hw g2;have g3:=AA hw g3;have g4:=AA hw g4;have g5:=AA hw g5;have g6:=AA hw g6;have g7:=AA hw g7;have g8:=AA hw g8;obtain⟨-,-,r1,r2,r3⟩:=S9;obtain⟨p1',k1',rfl⟩:=r1.slice;obtain⟨p2',k2',rfl⟩:=r2.slice;obtain⟨uw,k3',rfl⟩:=r3.slice;have hS:=fun k:Int=>uQ (k:=k) (A:=1+x.n.size+x.r.size+CY x.ps+CY x.vs) hlt;generalize x.bs[q]=y at*;go_wp2_with fail;refine hA.mono ?_;rintro e w2 ⟨hb2,n,rfl,⟨hn0,hn1⟩,he2⟩;have pJ:=hS _ (he.add he2 hk0 hn0);have hbw2:=AB hbw hb2;go_wp2;go_roundw;exact⟨q+1,k+n,by omega,by go_num,by go_num,⟨by omega,by omega⟩,pJ,hbw2⟩;simp[intOf];omega
  ·clear hk hB hB1;go_wp2;go_ret;exact⟨hbf,_,rfl,⟨hk0,hk1⟩,.big (by omega)⟩
def Cu{α:Type}(nm:α->ByteArray)(x:ByteArray):List α->Option Nat
 | []=>none
 |y::r=>if nm y=x then some 0 else(Cu nm x r).map (· +1)
theorem O7{nm:α->ByteArray}:∀{l:List α} {b:α},Ai nm x l=some b->∃k,Cu nm x l=some k/\l[k]? =some b
 | [],b,h=>by cases h
 |y::r,b,h=>by
  unfold Ai at h;unfold Cu;by_cases e:nm y=x
  ·rw[if_pos e]at h⊢;exact⟨0,rfl,by simpa using h⟩
  ·rw[if_neg e]at h⊢;obtain⟨k,h1,h2⟩:=O7 h;exact⟨k+1,by rw[h1];rfl,by simpa using h2⟩
def Je(q:Nat)(r:Option Nat)(e:Ending):Prop:=match r with
 |some k=>e=.returned (.tuple #[.int .i64 ((q+k:Nat):Int),.bool true])
 |none=>e=.returned (.tuple #[.int .i64 0,.bool false])
theorem Je.next{nm:α->ByteArray}{y:α}{r:List α}(hy:nm y≠x){e:Ending}(h:Je (q+1) (Cu nm x r) e):Je q (Cu nm x (y::r)) e:=by
 unfold Cu;rw[if_neg hy]
 cases hk:Cu nm x r with
 |none=>rw[hk]at h;exact h
 |some k=>
  rw[hk]at h;show e=_;rw[show q+(k+1)=q+1+k by omega];exact h
theorem NH(h0:AA6 w0 w)(hf:EL w0 v f u1 u2 u3)(x:ByteArray):Calls prog 55 #[v,.string x] w fun e w'=>AA6 w w'/\Je 0 (Cu Bk.n x f.bs) e:=by
 obtain⟨rfl,-,hp,hv,hb⟩:=hf;obtain⟨p1,k1,rfl⟩:=hp.slice;obtain⟨p2,k2,rfl⟩:=hv.slice;obtain⟨pl,cl,rfl,-,hn,hl⟩:=hb;generalize f.n=fn at*;generalize f.r=fr at*;generalize f.ps.length=n1 at*;generalize f.vs.length=n2 at*;generalize f.bs=l at*;obtain⟨hB,hb1⟩:=BR (w:=w) (c1:=[.string fn,.string fr,.slice p1 n1 k1,.slice p2 n2 k2,.slice pl l.length cl]) (t1:=66) (AL);go_enter func55,ntmps55;generalize Cr:w.alloc (.cells #[.string fn,.string fr,.slice p1 n1 k1,.slice p2 n2 k2,.slice pl l.length cl] 66)=W at*;have hw:=AB h0 hb1;have b4:=hB.c 4 _ rfl;go_wp2;go_loopw[6] (fun i wr=>∃q:Nat,q<=l.length/\i=.int .i64 (q:Int)/\wr=W/\∀e,Je q (Cu Bk.n x (l.drop q)) e->Je 0 (Cu Bk.n x l) e) (fun i _=>l.length-(intOf i).toNat);exact⟨0,AY,rfl,(by first|rfl|exact Cr),fun e h=>h⟩;obtain⟨q,hq,rfl,rfl,hO⟩:=hrel;by_cases hend:q=l.length
 ·subst hend;rw[List.drop_length]at hO;have hO2:=hidden (hO _ rfl);go_wp2;go_ret2;exact⟨hb1,hO2.out⟩
 ·have hlt:q<l.length:=by omega
  have A8:(q:Int)<l.length:=by omega
  rw[List.drop_eq_getElem_cons hlt]at hO;obtain⟨a,rfl,⟨d0,-⟩,-⟩:=hl q l[q] (by simp[hlt]);replace d0:=AA hw d0;by_cases hy:l[q].n=x
  ·have he:=EZ hy;have hO2:=hidden (hO _ (show Je q (Cu Bk.n x (l[q]::l.drop (q+1))) (.returned (.tuple #[.int .i64 (q:Int),.bool true])) by unfold Cu;rw[if_pos hy];rfl));generalize l[q]=y at*;go_wp2;go_ret2;exact⟨hb1,hO2.out⟩
  ·have he:=Ea hy;replace hO:=fun e h=>hO e (Je.next hy h);generalize l[q]=y at*;go_wp2;go_roundw;exact⟨q+1,by omega,by go_num,trivial,hO⟩;simp[intOf];omega
theorem Og(h0:AA6 w0 w)(hf:EL w0 v f u1 u2 u3)(x:ByteArray):Calls prog 73 #[v,.string x] w fun e w'=>AA6 w w'/\Je 0 (Cu Bk.n x f.bs) e:=by
 obtain⟨rfl,-,hp,hv,hb⟩:=hf;obtain⟨p1,k1,rfl⟩:=hp.slice;obtain⟨p2,k2,rfl⟩:=hv.slice;obtain⟨pl,cl,rfl,-,hn,hl⟩:=hb;generalize f.n=fn at*;generalize f.r=fr at*;generalize f.ps.length=n1 at*;generalize f.vs.length=n2 at*;generalize f.bs=l at*;obtain⟨hB,hb1⟩:=BR (w:=w) (c1:=[.string fn,.string fr,.slice p1 n1 k1,.slice p2 n2 k2,.slice pl l.length cl]) (t1:=66) (AL);go_enter func73,ntmps73;generalize Cr:w.alloc (.cells #[.string fn,.string fr,.slice p1 n1 k1,.slice p2 n2 k2,.slice pl l.length cl] 66)=W at*;have hw:=AB h0 hb1;have b4:=hB.c 4 _ rfl;go_wp2;go_loopw[11] (fun i wr=>∃q:Nat,q<=l.length/\i=.int .i64 (q:Int)/\AA6 W wr/\∀e,Je q (Cu Bk.n x (l.drop q)) e->Je 0 (Cu Bk.n x l) e) (fun i _=>l.length-(intOf i).toNat);exact⟨0,AY,rfl,(by first|exact AL|(rw[Cr];exact AL)),fun e h=>h⟩;obtain⟨q,hq,rfl,hbr,hO⟩:=hrel;have hbf:=AB hb1 hbr;by_cases hend:q=l.length
 ·subst hend;rw[List.drop_length]at hO;have hO2:=hidden (hO _ rfl);go_wp2;go_ret2;exact⟨hbf,hO2.out⟩
 ·have hlt:q<l.length:=by omega
  have A8:(q:Int)<l.length:=by omega
  rw[List.drop_eq_getElem_cons hlt]at hO;obtain⟨a,rfl,hI⟩:=hl q l[q] (by simp[hlt]);obtain⟨v1,v2,v3,S9,g0,g1,g2,g3,g4,g5,g6,g7,g8⟩:=hI.val;have hwr:=AB hw hbr;replace g0:=AA hwr g0;replace g1:=AA hwr g1;replace g2:=AA hwr g2;replace g3:=AA hwr g3;replace g4:=AA hwr g4;replace g5:=AA hwr g5;replace g6:=AA hwr g6;replace g7:=AA hwr g7;replace g8:=AA hwr g8;obtain⟨-,-,r1,r2,r3⟩:=S9;obtain⟨p1',k1',rfl⟩:=r1.slice;obtain⟨p2',k2',rfl⟩:=r2.slice;obtain⟨uw,k3',rfl⟩:=r3.slice;have hba:=fun o=>hbr.alloc hbr.size o;have hbb:=fun o=>hbf.alloc hbf.size o;by_cases hy:l[q].n=x
  ·have he:=EZ hy;have hO2:=hidden (hO _ (show Je q (Cu Bk.n x (l[q]::l.drop (q+1))) (.returned (.tuple #[.int .i64 (q:Int),.bool true])) by unfold Cu;rw[if_pos hy];rfl));generalize l[q]=y at*;go_wp2;go_ret2;exact⟨hbb _,hO2.out⟩
  ·have he:=Ea hy;replace hO:=fun e h=>hO e (Je.next hy h);generalize l[q]=y at*;go_wp2;go_roundw;exact⟨q+1,by omega,by go_num,hba _,hO⟩;simp[intOf];omega
structure xM{α:Type}(nm:α->ByteArray)(l:List α)(x:ByteArray)(k:Nat)(c:α):Prop where
 at':l[k]? =some c
 n:nm c=x
 no:∀(j:Nat) y,j<k->l[j]? =some y->nm y≠x
theorem UE{nm:α->ByteArray}:∀{l:List α} {c:α},Ai nm x l=some c->∃k,xM nm l x k c
 | [],c,h=>by cases h
 |y::r,c,h=>by
  unfold Ai at h;by_cases e:nm y=x
  ·rw[if_pos e]at h;injection h with h;subst h;exact⟨0,rfl,e,fun j y hj=>absurd hj (Nat.not_lt_zero _)⟩
  ·rw[if_neg e]at h;obtain⟨k,h1,h2,h3⟩:=UE h;refine⟨k+1,by simpa using h1,h2,fun j z hj hz=>?_⟩
   cases j with
   |zero=>
    obtain rfl:y=z:=by simpa using hz
    exact e
   |succ j=>exact h3 j z (by omega) (by simpa using hz)
theorem xM.case{nm:α->ByteArray}{l:List α}{k:Nat}{c:α}(h:xM nm l x k c)(hq:q<=k)(hl:q<l.length):(q=k/\l[q]=c)\/(q<k/\nm l[q]≠x):=by
 by_cases e:q=k
 ·subst e;have:=h.at';rw[List.getElem?_eq_getElem hl]at this;exact .inl ⟨rfl,by simpa using this⟩
 ·exact .inr ⟨by omega,h.no q l[q] (by omega) (by simp[hl])⟩
def jR(w0:World)(v:Value)(l:List Cl)(x:ByteArray)(c:Cl)(u:Value):Prop:=∃k a n cu,xM Cl.n l x k c/\v=.slice (some a) n cu/\At w0 (a.add (k*2)) 1 u
def Zo(w0:World)(v:Value)(l:List Fn)(x:ByteArray)(c:Fn)(u1 u2 u3:Value):Prop:=∃k a n cu,xM Fn.n l x k c/\v=.slice (some a) n cu/\At w0 (a.add (k*5)) 2 u1/\At w0 (a.add (k*5)) 3 u2/\At w0 (a.add (k*5)) 4 u3
theorem Vf{l:List Cl}(hl:Row Y0 2 w0 v l)(h:Ai Cl.n x l=some c):∃u,jR w0 v l x c u/\jQ w0 (.agg #[.string c.n,u]) c u:=by
 obtain⟨k,hk⟩:=UE h;obtain⟨p,cu,e,-,-,hl⟩:=hl;obtain⟨a,rfl,⟨c0,z0⟩,u,c1,r1⟩:=hl k c hk.at';exact⟨u,⟨k,a,_,_,hk,e,c1⟩,rfl,z0,r1⟩
theorem QD{l:List Fn}(hl:Row VP 5 w0 v l){c:Fn}(h:Ai Fn.n x l=some c):∃u1 u2 u3,Zo w0 v l x c u1 u2 u3/\EL w0 (.agg #[.string c.n,.string c.r,u1,u2,u3]) c u1 u2 u3:=by
 obtain⟨k,hk⟩:=UE h;obtain⟨p,cu,e,-,-,hl⟩:=hl;obtain⟨a,rfl,⟨c0,z0⟩,⟨c1,z1⟩,⟨u1,c2,r1⟩,⟨u2,c3,r2⟩,u3,c4,r3⟩:=hl k c hk.at';exact⟨u1,u2,u3,⟨k,a,_,_,hk,e,c2,c3,c4⟩,rfl,⟨z0,z1⟩,r1,r2,r3⟩
theorem JB{u:Value}(h:w.cell? a=some u)(h2:w.cell? a=some v):u=v:=by
 rw[h]at h2;injection h2
theorem Ya(h0:AA6 w0 w){l:List Cl}(hl:Row Y0 2 w0 v l)(x:ByteArray){uu:Value}(hsel:jR w0 v l x c uu):Calls prog 191 #[v,.string x,.func (Fn.func 192) #[] #[]] w fun e w'=>AA6 w w'/\e=.returned (.tuple #[.agg #[.string c.n,uu],.bool true]):=by
 obtain⟨p,cu,rfl,-,hn,hl⟩:=hl;obtain⟨kk,aa,nn,cc,hk,iG,hu⟩:=hsel;have hpe:p=some aa:=by simpa using(show p=some aa/\_ by simpa using iG).1
 subst hpe;go_enter func191,ntmps191;go_wp2;go_loopw[13] (fun i wr=>∃q:Nat,q<=l.length/\i=.int .i64 (q:Int)/\AA6 w wr/\Ae wr w.heap.size [(.string ⟨#[]⟩),(.slice none 0 0)]/\q<=kk) (fun i _=>l.length-(intOf i).toNat);exact⟨0,AY,rfl,AJ _ _,Ae.alloc w [(.string ⟨#[]⟩),(.slice none 0 0)] _,AY⟩;obtain⟨q,hq,rfl,hb,hB,hf⟩:=hrel;by_cases hend:q=l.length
 ·exfalso;have:=(List.getElem?_eq_some_iff.1 hk.at').1;omega
 ·have hlt:q<l.length:=by omega
  have A8:(q:Int)<l.length:=by omega
  rcases hk.case (by assumption) hlt with⟨rfl,-⟩|⟨hqk,hy⟩
  ·have he:=EZ hk.n;obtain⟨a,ha,hA⟩:=hl q c hk.at';obtain rfl:aa=a:=(by simpa using ha);obtain⟨⟨c0,z0⟩,u1,c1,r1⟩:=hA;obtain rfl:=JB c1 hu;have hb0:=AB h0 hb;have c0:=AA hb0 c0;have c1:=AA hb0 c1;obtain⟨p1,k1,rfl⟩:=r1.slice;go_wp2_with fail;refine(Oo _ _ _).mono ?_;rintro e w2 ⟨rfl,hb2⟩;have hA2:=(Ae.alloc wr [(.string c.n),(.slice p1 c.fs.length k1)] 153).nx hb2;have hB2:=(hB.al (.cells #[.string c.n,.slice p1 c.fs.length k1] 153)).nx hb2;have hb3:=(hb.alloc hb.size (.cells #[.string c.n,.slice p1 c.fs.length k1] 153)).trans (hb2.mono (hb.alloc hb.size _).size);obtain⟨d0,d1⟩:=hA2.c2;obtain⟨e0,e1⟩:=hB2.c2;obtain⟨f0,f1⟩:=hB2.f2;have hlt2:=hA2.lt;have Sy:w.heap.size<=wr.heap.size:=hb.size;have hwl:=hB.lt;have hb4:=hb3;have hb4:=hb4.setCell (p:=⟨w.heap.size,0,none⟩) (AQ) (.string c.n);have hb4:=hb4.setCell (p:=⟨w.heap.size,1,none⟩) (AQ) (.slice p1 c.fs.length k1);go_wp2;(refine rB rfl (by go_simp;try rfl) rfl ?_);exact⟨hb4,rfl⟩
  ·have he:=Ea hy;obtain⟨a,ha,hA⟩:=hl q l[q] (by simp[hlt]);obtain rfl:aa=a:=(by simpa using ha);obtain⟨⟨c0,z0⟩,u1,c1,r1⟩:=hA;have hb0:=AB h0 hb;have c0:=AA hb0 c0;have c1:=AA hb0 c1;obtain⟨p1,k1,rfl⟩:=r1.slice;generalize l[q]=y at*;go_wp2_with fail;refine(Oo _ _ _).mono ?_;rintro e w2 ⟨rfl,hb2⟩;have hA2:=(Ae.alloc wr [(.string y.n),(.slice p1 y.fs.length k1)] 153).nx hb2;have hB2:=(hB.al (.cells #[.string y.n,.slice p1 y.fs.length k1] 153)).nx hb2;have hb3:=(hb.alloc hb.size (.cells #[.string y.n,.slice p1 y.fs.length k1] 153)).trans (hb2.mono (hb.alloc hb.size _).size);obtain⟨d0,d1⟩:=hA2.c2;go_wp2;go_roundw;exact⟨q+1,by omega,by go_num,hb3,hB2,by omega⟩;simp[intOf];omega
theorem YZ(h0:AA6 w0 w){l:List Fn}(hl:Row VP 5 w0 v l)(x:ByteArray){c:Fn}{om oh og:Value}(hsel:Zo w0 v l x c om oh og):Calls prog 42 #[v,.string x,.func (Fn.func 43) #[] #[]] w fun e w'=>AA6 w w'/\e=.returned (.tuple #[.agg #[.string c.n,.string c.r,om,oh,og],.bool true]):=by
 obtain⟨p,cu,rfl,-,hn,hl⟩:=hl;obtain⟨kk,aa,nn,cc,hk,iG,hu1,hu2,hu3⟩:=hsel;have hpe:p=some aa:=by simpa using(show p=some aa/\_ by simpa using iG).1
 subst hpe;go_enter func42,ntmps42;go_wp2;go_loopw[13] (fun i wr=>∃q:Nat,q<=l.length/\i=.int .i64 (q:Int)/\AA6 w wr/\Ae wr w.heap.size [(.string ⟨#[]⟩),(.string ⟨#[]⟩),(.slice none 0 0),(.slice none 0 0),(.slice none 0 0)]/\q<=kk) (fun i _=>l.length-(intOf i).toNat);exact⟨0,AY,rfl,AJ _ _,Ae.alloc w [(.string ⟨#[]⟩),(.string ⟨#[]⟩),(.slice none 0 0),(.slice none 0 0),(.slice none 0 0)] _,AY⟩;obtain⟨q,hq,rfl,hb,hB,hf⟩:=hrel;by_cases hend:q=l.length
 ·exfalso;have:=(List.getElem?_eq_some_iff.1 hk.at').1;omega
 ·have hlt:q<l.length:=by omega
  have A8:(q:Int)<l.length:=by omega
  rcases hk.case (by assumption) hlt with⟨rfl,-⟩|⟨hqk,hy⟩
  ·have he:=EZ hk.n;obtain⟨a,ha,hA⟩:=hl q c hk.at';obtain rfl:aa=a:=(by simpa using ha);obtain⟨⟨c0,z0⟩,⟨c1,z1⟩,⟨u1,c2,r1⟩,⟨u2,c3,r2⟩,u3,c4,r3⟩:=hA;obtain rfl:=JB c2 hu1;obtain rfl:=JB c3 hu2;obtain rfl:=JB c4 hu3;have hb0:=AB h0 hb;have c0:=AA hb0 c0;have c1:=AA hb0 c1;have c2:=AA hb0 c2;have c3:=AA hb0 c3;have c4:=AA hb0 c4;obtain⟨p1,k1,rfl⟩:=r1.slice;obtain⟨p2,k2,rfl⟩:=r2.slice;obtain⟨p3,k3,rfl⟩:=r3.slice;go_wp2_with fail;refine(Om _ _ _ _ _ _).mono ?_;rintro e w2 ⟨rfl,hb2⟩;have hA2:=(Ae.alloc wr [(.string c.n),(.string c.r),(.slice p1 c.ps.length k1),(.slice p2 c.vs.length k2),(.slice p3 c.bs.length k3)] 66).nx hb2;have hB2:=(hB.al (.cells #[.string c.n,.string c.r,.slice p1 c.ps.length k1,.slice p2 c.vs.length k2,.slice p3 c.bs.length k3] 66)).nx hb2;have hb3:=(hb.alloc hb.size (.cells #[.string c.n,.string c.r,.slice p1 c.ps.length k1,.slice p2 c.vs.length k2,.slice p3 c.bs.length k3] 66)).trans (hb2.mono (hb.alloc hb.size _).size);obtain⟨d0,d1,d2,d3,d4⟩:=hA2.c5;obtain⟨e0,e1,e2,e3,e4⟩:=hB2.c5;obtain⟨f0,f1,f2,f3,f4⟩:=hB2.f5;have hlt2:=hA2.lt;have Sy:w.heap.size<=wr.heap.size:=hb.size;have hwl:=hB.lt;have hb4:=hb3;have hb4:=hb4.setCell (p:=⟨w.heap.size,0,none⟩) (AQ) (.string c.n);have hb4:=hb4.setCell (p:=⟨w.heap.size,1,none⟩) (AQ) (.string c.r);have hb4:=hb4.setCell (p:=⟨w.heap.size,2,none⟩) (AQ) (.slice p1 c.ps.length k1);have hb4:=hb4.setCell (p:=⟨w.heap.size,3,none⟩) (AQ) (.slice p2 c.vs.length k2);have hb4:=hb4.setCell (p:=⟨w.heap.size,4,none⟩) (AQ) (.slice p3 c.bs.length k3);go_wp2;(refine rB rfl (by go_simp;try rfl) rfl ?_);exact⟨hb4,rfl⟩
  ·have he:=Ea hy;obtain⟨a,ha,hA⟩:=hl q l[q] (by simp[hlt]);obtain rfl:aa=a:=(by simpa using ha);obtain⟨⟨c0,z0⟩,⟨c1,z1⟩,⟨u1,c2,r1⟩,⟨u2,c3,r2⟩,u3,c4,r3⟩:=hA;have hb0:=AB h0 hb;have c0:=AA hb0 c0;have c1:=AA hb0 c1;have c2:=AA hb0 c2;have c3:=AA hb0 c3;have c4:=AA hb0 c4;obtain⟨p1,k1,rfl⟩:=r1.slice;obtain⟨p2,k2,rfl⟩:=r2.slice;obtain⟨p3,k3,rfl⟩:=r3.slice;generalize l[q]=y at*;go_wp2_with fail;refine(Om _ _ _ _ _ _).mono ?_;rintro e w2 ⟨rfl,hb2⟩;have hA2:=(Ae.alloc wr [(.string y.n),(.string y.r),(.slice p1 y.ps.length k1),(.slice p2 y.vs.length k2),(.slice p3 y.bs.length k3)] 66).nx hb2;have hB2:=(hB.al (.cells #[.string y.n,.string y.r,.slice p1 y.ps.length k1,.slice p2 y.vs.length k2,.slice p3 y.bs.length k3] 66)).nx hb2;have hb3:=(hb.alloc hb.size (.cells #[.string y.n,.string y.r,.slice p1 y.ps.length k1,.slice p2 y.vs.length k2,.slice p3 y.bs.length k3] 66)).trans (hb2.mono (hb.alloc hb.size _).size);obtain⟨d0,d1,d2,d3,d4⟩:=hA2.c5;go_wp2;go_roundw;exact⟨q+1,by omega,by go_num,hb3,hB2,by omega⟩;simp[intOf];omega
theorem Ot(h0:AA6 w0 w){p:Pg}{u4:Value}(hp:Cj w0 v p u1 u2 u3 u4)(x:ByteArray){uu:Value}(hsel:jR w0 u1 p.cs x c uu)(hval:jQ w0 (.agg #[.string c.n,uu]) c uu):Calls prog 135 #[v,.string x] w fun e w'=>AA6 w w'/\e=.returned (.tuple #[.agg #[.string c.n,uu],.bool true]):=by
 obtain⟨rfl,hc,hg,hx,hf⟩:=hp;have hb1:=AJ w (.cells #[.bool p.ssa,u1,u2,u3,u4] 27);have hb2:=(Below.refl (w.alloc (.cells #[.bool p.ssa,u1,u2,u3,u4] 27)).heap.size (w.alloc (.cells #[.bool p.ssa,u1,u2,u3,u4] 27))).alloc (AQ) (.cells #[.string ⟨#[]⟩,.slice none 0 0] 153);have hb3:=AB hb1 hb2;have hB:=Ae.alloc (w.alloc (.cells #[.bool p.ssa,u1,u2,u3,u4] 27)) [(.string ⟨#[]⟩),(.slice none 0 0)] 153;have hF:=Ya (AB h0 hb3) hc x hsel;have hs:(w.alloc (.cells #[.bool p.ssa,u1,u2,u3,u4] 27)).heap.size=w.heap.size+1:=by simp
 rw[hs]at hB;go_enter func135,ntmps135;go_wp2_with fail;refine hF.mono ?_;rintro e w1 ⟨hb4,ho⟩;have hB1:=hB.nx hb4;have hb5:=AB hb3 hb4;have f0:=fun i hi=>hB1.f i hi;have hw1:w.heap.size<=w.heap.size+1:=by omega
 subst ho;obtain⟨-,-,hr1⟩:=hval;obtain⟨p1,k1,rfl⟩:=hr1.slice;have hb6:=hb5;have hb6:=hb6.setCell (p:=⟨w.heap.size+1,0,none⟩) hw1 (.string c.n);have hb6:=hb6.setCell (p:=⟨w.heap.size+1,1,none⟩) hw1 (.slice p1 c.fs.length k1);have c0:=hB1.c 0 _ rfl;have g0:=f0 0 (by simp);have c1:=hB1.c 1 _ rfl;have g1:=f0 1 (by simp);have hst:=hB1.lt;go_wp2;(refine rB rfl (by go_simp;try rfl) rfl ?_);exact⟨hb6,rfl⟩
theorem Kh(h0:AA6 w0 w){p:Pg}{u4:Value}(hp:Cj w0 v p u1 u2 u3 u4)(x:ByteArray){c:Fn}{om oh og:Value}(hsel:Zo w0 u4 p.fs x c om oh og)(hval:EL w0 (.agg #[.string c.n,.string c.r,om,oh,og]) c om oh og):Calls prog 22 #[v,.string x] w fun e w'=>AA6 w w'/\e=.returned (.tuple #[.agg #[.string c.n,.string c.r,om,oh,og],.bool true]):=by
 obtain⟨rfl,hc,hg,hx,hf⟩:=hp;have hb1:=AJ w (.cells #[.bool p.ssa,u1,u2,u3,u4] 27);have hb2:=(Below.refl (w.alloc (.cells #[.bool p.ssa,u1,u2,u3,u4] 27)).heap.size (w.alloc (.cells #[.bool p.ssa,u1,u2,u3,u4] 27))).alloc (AQ) (.cells #[.string ⟨#[]⟩,.string ⟨#[]⟩,.slice none 0 0,.slice none 0 0,.slice none 0 0] 66);have hb3:=AB hb1 hb2;have hB:=Ae.alloc (w.alloc (.cells #[.bool p.ssa,u1,u2,u3,u4] 27)) [(.string ⟨#[]⟩),(.string ⟨#[]⟩),(.slice none 0 0),(.slice none 0 0),(.slice none 0 0)] 66;have hF:=YZ (AB h0 hb3) hf x hsel;have hs:(w.alloc (.cells #[.bool p.ssa,u1,u2,u3,u4] 27)).heap.size=w.heap.size+1:=by simp
 rw[hs]at hB;go_enter func22,ntmps22;go_wp2_with fail;refine hF.mono ?_;rintro e w1 ⟨hb4,ho⟩;have hB1:=hB.nx hb4;have hb5:=AB hb3 hb4;have f0:=fun i hi=>hB1.f i hi;have hw1:w.heap.size<=w.heap.size+1:=by omega
 subst ho;obtain⟨-,-,hr1,hr2,hr3⟩:=hval;obtain⟨p1,k1,rfl⟩:=hr1.slice;obtain⟨p2,k2,rfl⟩:=hr2.slice;obtain⟨p3,k3,rfl⟩:=hr3.slice;have hb6:=hb5;have hb6:=hb6.setCell (p:=⟨w.heap.size+1,0,none⟩) hw1 (.string c.n);have hb6:=hb6.setCell (p:=⟨w.heap.size+1,1,none⟩) hw1 (.string c.r);have hb6:=hb6.setCell (p:=⟨w.heap.size+1,2,none⟩) hw1 (.slice p1 c.ps.length k1);have hb6:=hb6.setCell (p:=⟨w.heap.size+1,3,none⟩) hw1 (.slice p2 c.vs.length k2);have hb6:=hb6.setCell (p:=⟨w.heap.size+1,4,none⟩) hw1 (.slice p3 c.bs.length k3);have c0:=hB1.c 0 _ rfl;have g0:=f0 0 (by simp);have c1:=hB1.c 1 _ rfl;have g1:=f0 1 (by simp);have c2:=hB1.c 2 _ rfl;have g2:=f0 2 (by simp);have c3:=hB1.c 3 _ rfl;have g3:=f0 3 (by simp);have c4:=hB1.c 4 _ rfl;have g4:=f0 4 (by simp);have hst:=hB1.lt;go_wp2;(refine rB rfl (by go_simp;try rfl) rfl ?_);exact⟨hb6,rfl⟩
section
theorem Ul{fn:Func}{p q:Tmp}{ty oo:TypeId}(h:fn.results=#[.cell p ty,.cell q oo])(tmps:Array Value)(P:Program)(w:World):(results fn tmps).run P w=((asAddr (tmps.getD p undef)).run P w).andThen fun a w₁=>((loadVar ty a).run P w₁).andThen fun v w₂=>((asAddr (tmps.getD q undef)).run P w₂).andThen fun a2 w₃=>((loadVar oo a2).run P w₃).andThen fun v2 w₄=> .ok (.tuple #[v,v2]) w₄:=by
 simp only[results,h];simp
structure EC(W:World)(B p q i j:Nat)(zp cp zq cq:List Value)(L:Nat->Bool)(w:World):Prop where
 b:Below B W w
 k:∀r,r≠p->r≠q->w.heap[r]? =W.heap[r]?
 x:Ae w p (if L i=true then cp else zp)
 y:Ae w q (if L j=true then cq else zq)
section
variable {W w w' : World} {B p q i j : Nat} {zp cp zq cq : List Value} {L : Nat -> Bool}
theorem EC.start(b:Below B W w)(k:∀r:Nat,w.heap[r]? =W.heap[r]?)(hx:Ae w p zp)(hy:Ae w q zq):EC W B p q i j zp cp zq cq (fun _=>false) w:=⟨b,fun r _ _=>k r,hx,hy⟩
theorem EC.keep(h:EC W B p q i j zp cp zq cq L w){m:Nat}(h1:(i==m)=false)(h2:(j==m)=false):EC W B p q i j zp cp zq cq (upd L m) w:=
 ⟨h.b,h.k,by rw[upd_ne h1];exact h.x,by rw[upd_ne h2];exact h.y⟩
theorem EC.cell(h:EC W B p q i j zp cp zq cq L w)(hc:W.cell? a=some v)(h1:a.block≠p)(h2:a.block≠q):w.cell? a=some v:=by
 rw[World.cell?_of_block (w:=W) (w':=w) (a:=a) (h.k a.block h1 h2)];exact hc
theorem EC.px(h:EC W B p q i j zp cp zq cq L w)(hi:L i=false):Ae w p zp:=by have:=h.x;rw[hi]at this;exact this
theorem EC.qy(h:EC W B p q i j zp cp zq cq L w)(hj:L j=false):Ae w q zq:=by have:=h.y;rw[hj]at this;exact this
theorem EC.Z6(h:EC W B p q i j zp cp zq cq L w)(hb:Below B w w')(hk:∀r,r≠p->w'.heap[r]? =w.heap[r]?)(hx:Ae w' p cp)(hpq:q≠p)(h2:(j==i)=false):EC W B p q i j zp cp zq cq (upd L i) w':=
 ⟨h.b.trans hb,fun r h1 h2=>(hk r h1).trans (h.k r h1 h2),by rw[Cc];exact hx,by rw[upd_ne h2];exact h.y.same (hk q hpq)⟩
theorem EC.Z5(h:EC W B p q i j zp cp zq cq L w)(hb:Below B w w')(hk:∀r,r≠q->w'.heap[r]? =w.heap[r]?)(hy:Ae w' q cq)(hpq:p≠q)(h2:(i==j)=false):EC W B p q i j zp cp zq cq (upd L j) w':=
 ⟨h.b.trans hb,fun r h1 h2=>(hk r h2).trans (h.k r h1 h2),by rw[upd_ne h2];exact h.x.same (hk p hpq),by rw[Cc];exact hy⟩
theorem EC.done(h:EC W B p q i j zp cp zq cq L w)(hi:L i=true)(hj:L j=true):Ae w p cp/\Ae w q cq:=by grind [cases EC,cases Ae]
end
def BZ(w:World)(p:Nat):Nat->List Value->World
 |_,[]=>w
 |i,v::r=>BZ (w.setCell ⟨p,i,none⟩ v) p (i+1) r
theorem Bu{r:Nat}(h:r≠p):∀(cs:List Value) (i:Nat) (w:World),(BZ w p i cs).heap[r]? =w.heap[r]?
 | [],_,_=>rfl
 |v::l,i,w=>(Bu h l (i+1) _).trans (Below.heap_setCell _ _ _ _ (fun e=>h e))
theorem Ay{B:Nat}(h:B<=p):∀(cs:List Value) (i:Nat) (w:World),Below B w (BZ w p i cs)
 | [],_,w=>AL
 |v::l,i,w=>((AL).setCell (p:=⟨p,i,none⟩) h v).trans (Ay h l (i+1) _)
theorem DK:∀(cs:List Value) (i:Nat) (w:World),(BZ w p i cs).heap.size=w.heap.size
 | [],_,_=>rfl
 |v::l,i,w=>(DK l (i+1) _).trans (by simp[World.setCell])
theorem CK:∀(cs zs:List Value) (i:Nat) (w:World),Ae w p zs->i+cs.length=zs.length->Ae (BZ w p i cs) p (zs.take i++cs)
 | [],zs,i,w,h,e=>by
  rw[List.append_nil,List.take_of_length_le (by simp at e;omega)]
  exact h
 |v::l,zs,i,w,h,e=>by
  have hi:i<zs.length:=by simp at e;omega
  have:=CK l (zs.set i v) (i+1) _ (h.set hi v) (by simp at e⊢;omega);rw[List.take_add_one,List.take_set_of_le (Nat.le_refl i),List.getElem?_set_self hi]at this;simpa[BZ]using this
end
structure jS(w0:World)(v:Value)(l:List Bk)(x:ByteArray)(b:Bk)(u1 u2 u3:Value)(k:Nat)(a:Addr):Prop where
 ix:Cu Bk.n x l=some k
 lt:k<l.length
 n:l.length<=140737488351232
 sl:∃c,v=.slice (some a) l.length c
 nm:b.n=x
 c:w0.cell? (a.add (k*9))=some (.string b.n)/\At w0 (a.add (k*9)) 1 u1/\At w0 (a.add (k*9)) 2 u2/\At w0 (a.add (k*9)) 3 (.int .i64 b.e.k)/\At w0 (a.add (k*9)) 4 (.int .i64 b.e.a.k)/\At w0 (a.add (k*9)) 5 (.string b.e.a.s)/\At w0 (a.add (k*9)) 6 (.int .i64 b.e.a.n)/\At w0 (a.add (k*9)) 7 u3/\At w0 (a.add (k*9)) 8 (.int .i64 b.e.n)
abbrev vk(b:Bk)(u1 u2 u3:Value):Value:=.agg #[.string b.n,u1,u2,.int .i64 b.e.k,.int .i64 b.e.a.k,.string b.e.a.s,.int .i64 b.e.a.n,u3,.int .i64 b.e.n]
theorem Vg{l:List Bk}(hl:Row Jf 9 w0 v l)(h:Ai Bk.n x l=some b):∃u1 u2 u3 k a,jS w0 v l x b u1 u2 u3 k a/\Qw w0 (vk b u1 u2 u3) b u1 u2 u3:=by
 obtain⟨k,hk,hb⟩:=O7 h;obtain⟨p,cu,e,-,hn,hl⟩:=hl;obtain⟨a,rfl,hA⟩:=hl k b hb;obtain⟨u1,u2,u3,hV,hc⟩:=hA.val;exact⟨u1,u2,u3,k,a,⟨hk,(List.getElem?_eq_some_iff.1 hb).1,hn.1,⟨cu,e⟩,(Ak h).2,hc⟩,hV⟩
structure Here(w0:World)(p:Pg)(k:Hd)(x:Lv)(f:Fn)(b:Bk)(f1 f2 f3 b1 b2 b3:Value)(q:Nat)(a:Addr):Prop where
 vp:Cj w0 (.agg #[k.u0,k.u1,k.u2,k.u3,k.u4]) p k.u1 k.u2 k.u3 k.u4
 sf:Zo w0 k.u4 p.fs x.f f f1 f2 f3
 vf:EL w0 (.agg #[.string f.n,.string f.r,f1,f2,f3]) f f1 f2 f3
 sb:jS w0 f3 f.bs x.b b b1 b2 b3 q a
 vb:Qw w0 (vk b b1 b2 b3) b b1 b2 b3
theorem V3{p:Pg}{k:Hd}{x:Lv}(hp:Cj w0 (.agg #[k.u0,k.u1,k.u2,k.u3,k.u4]) p k.u1 k.u2 k.u3 k.u4)(hf:Ai Fn.n x.f p.fs=some f)(hb:Ai Bk.n x.b f.bs=some b):∃f1 f2 f3 b1 b2 b3 q a,Here w0 p k x f b f1 f2 f3 b1 b2 b3 q a:=by
 obtain⟨f1,f2,f3,h1,h2⟩:=QD hp.f hf;obtain⟨b1,b2,b3,q,a,h3,h4⟩:=Vg h2.b hb;exact⟨f1,f2,f3,b1,b2,b3,q,a,hp,h1,h2,h3,h4⟩
theorem PN{B N M:Nat}{k:Hd}{s:St}{j:Int}(h:Am w B N M k s j){rest:List Lv}{x:Lv}(hfr:s.frames=rest++[x])(hl:rest.length+1<=140737488351232)(h0:AA6 w0 w){p:Pg}{f1 f2 f3 b1 b2 b3:Value}(hh:Here w0 p k x f b f1 f2 f3 b1 b2 b3 q a):Calls prog 50 #[.pointer (some ⟨M,0,none⟩)] w fun e w'=>e=.returned (.tuple #[.agg #[.string f.n,.string f.r,f1,f2,f3],vk b b1 b2 b3])/\AA6 w w':=by
 unfold vk;obtain⟨hp,hsf,hvf,hsb,hvb⟩:=hh;have hF:=fun v (hw:AA6 w0 v)=>Kh hw hp x.f hsf hvf;have hP:=fun v (hw:AA6 w0 v)=>Og hw hvf x.b;rw[hsb.ix]at hP;obtain⟨-,hlt,hn,⟨cb,rfl⟩,-,d0,d1,d2,d3,d4,d5,d6,d7,d8⟩:=hsb;obtain⟨NY,Nb,rfl⟩:=hvf.p.slice;obtain⟨NW,Na,rfl⟩:=hvf.v.slice;obtain⟨gy,iE,rfl⟩:=hvb.p.slice;obtain⟨vw,wD,rfl⟩:=hvb.c.slice;obtain⟨gZ,iD,rfl⟩:=hvb.t.slice;generalize f.ps.length=Y3 at*;generalize f.vs.length=Y2 at*;generalize b.ps.length=o7 at*;generalize b.cs.length=oz at*;generalize b.e.to.length=ou at*;obtain⟨FB,cap,bm,hT,-⟩:=h.top hfr hl;have hd:=h.hd;obtain⟨g0,g1,g2,g3,g4,-⟩:=hd;obtain⟨hx2,hx3,hb2⟩:=Ch (w:=w) (c1:=[.string ⟨#[]⟩,.string ⟨#[]⟩,.slice none 0 0,.slice none 0 0,.slice none 0 0]) (c2:=[.string ⟨#[]⟩,.slice none 0 0,.slice none 0 0,.int .i64 0,.int .i64 0,.string ⟨#[]⟩,.int .i64 0,.slice none 0 0,.int .i64 0]) (t1:=66) (t2:=82) (AL);generalize f.bs.length=nb at*;generalize f.n=fn at*;generalize f.r=fr at*;generalize b.n=bn at*;generalize b.e.k=bk at*;generalize b.e.a.k=bak at*;generalize b.e.a.s=qF at*;generalize b.e.a.n=ban at*;generalize b.e.n=qE at*;go_enter func50,ntmps50;go_wp2;generalize Cr:World.alloc _ _=W at*;have hTW:=hT.kp hb2;have nO:=AB h0 hb2;replace g0:=AA hb2 g0;replace g1:=AA hb2 g1;replace g2:=AA hb2 g2;replace g3:=AA hb2 g3;replace g4:=AA hb2 g4;have hdr:=(Below.refl W.heap.size W).drew;refine AV (S:=Ck W 13 14 [.string ⟨#[]⟩,.string ⟨#[]⟩,.slice none 0 0,.slice none 0 0,.slice none 0 0] [.string fn,.string fr,.slice NY Y3 Nb,.slice NW Y2 Na,.slice (some a) nb cb]) rfl (by kernel_rfl) (Ck.start hdr) ?_;iterate 5((apply AU.z rfl;intro V L w1 _ _ _ z hK;(replace g0:=AA z.s.1 g0;replace g1:=AA z.s.1 g1;replace g2:=AA z.s.1 g2;replace g3:=AA z.s.1 g3;replace g4:=AA z.s.1 g4);go_simp;exact hK (z.s.keep rfl rfl);intros;rfl))
 (apply AU.y rfl;intro V L w1 _ _ z hK;go_simp;go_wp2_with((refine(He (AA z.s.1 hTW.sl) hTW.l).mono ?_;rintro e w2 ⟨rfl,qq,rfl⟩));(try simp only[pE]);exact hK.out _ (z.s.call (Al _) rfl rfl);intros;rfl);iterate 3((apply AU.z rfl;intro V L w1 _ _ _ z hK;(have ti:=(hTW.kp z.s.1).f);go_simp;exact hK (z.s.keep rfl rfl);intros;rfl))
 (apply AU.y rfl;intro V L w1 _ _ z hK;go_simp;go_wp2_with((refine(hF _ (AB nO z.s.1)).mono ?_;rintro e w2 ⟨hb,rfl⟩));(try simp only[pE]);exact hK.out _ (z.s.call hb rfl rfl);intros;rfl);iterate 3((apply AU.z rfl;intro V L w1 _ _ _ z hK;go_simp;exact hK (z.s.keep rfl rfl);intros;rfl))
 (apply AU.w rfl;intro V L w1 _ _ _ z hK;go_simp;exact hK rfl (z.s.made rfl z.i _);(try simp only[pE]));refine AU.val undef (fun _=>rfl) (fun V L w1 K' Q' hS hi hR' hd hK=>?_) ?_
 ·have hl:=hd.out 13 (by kernel_rfl);obtain⟨pb,hp,hp0,hp1,hx⟩:=hS.at hl hi;obtain⟨k0,k1,k2,k3,k4⟩:=hx.c5;obtain⟨f0,f1,f2,f3,f4⟩:=hx.f5;go_simp;exact hK.out _ _ (by simp only[hp];rfl) (hS.fill hl hp hp0 (by first|(rw[DK];exact hp1)|simpa using hp1) (hS.1.trans (Ay hp0 [.string fn,.string fr,_,_,.slice (some a) nb cb] 0 w1)) (CK [.string fn,.string fr,_,_,.slice (some a) nb cb] _ 0 w1 hx rfl) rfl)
 simp only[Act.put];(apply AU.z rfl;intro V L w1 _ _ _ z hK;go_simp;exact hK (z.s.keep rfl rfl);intros;rfl);refine AU.nil fun V w5 hS=>?_;obtain⟨pb,hpb,hp0,hp1,hxb⟩:=hS.done rfl rfl;have hb5:=hS.1;simp only[hpb];have gJ:=hTW.kp hb5;have Ku:=AB nO hb5;replace hx2:=hx2.nx hb5;replace hx3:=hx3.nx hb5;have hws:w.heap.size+1<W.heap.size:=by rw[<-Cr];simp
 replace hb5:=hb2.trans (hb5.mono hb2.size);have hn1:w.heap.size≠pb:=by omega
 have hn2:w.heap.size+1≠pb:=by omega
 generalize W.heap.size=sz at*;go_wp2_with fail;refine AO (S:=fun _ v=>AA6 w5 v) rfl (by kernel_rfl) Ac ?_;iterate 2((apply Ab.z rfl;intro L w1 _ _ _ z hK;(have hB:=hxb.nx z.s;obtain⟨k0,k1,k2,k3,k4⟩:=hB.c5);go_simp;exact hK (z.s);rfl))
 (apply Ab.y rfl;intro L w1 _ _ z hK;go_simp;go_wp2_with((refine(He (AA z.s gJ.sl) gJ.l).mono ?_;rintro e w2 ⟨rfl,qq,rfl⟩));(try simp only[pE]);exact hK.out _ (AB z.s (Al _));rfl);iterate 3((apply Ab.z rfl;intro L w1 _ _ _ z hK;(have ti:=(gJ.kp z.s).bl);go_simp;exact hK (z.s);rfl))
 (apply Ab.y rfl;intro L w1 _ _ z hK;go_simp;go_wp2_with((refine(hP _ (AB Ku z.s)).mono ?_;rintro e w2 ⟨hb,rfl⟩));(try simp only[pE]);exact hK.out _ (AB z.s hb);rfl);iterate 5((apply Ab.z rfl;intro L w1 _ _ _ z hK;go_simp;exact hK (z.s);rfl))
 refine Ab.nil fun w6 hb6=>?_;have PX:=AB Ku hb6;replace hx2:=hx2.nx hb6;replace hx3:=hx3.nx hb6;replace hxb:=hxb.nx hb6;replace hb6:=AB hb5 hb6;have AJJ:=World.block_lt_of_cell? w0 _ d0;generalize w5=w5 at*;go_wp2;have hne:(a.add (q*9)).block<w.heap.size:=by have:=h0.size;omega
 replace d0:=AA PX d0;replace d1:=AA PX d1;replace d2:=AA PX d2;replace d3:=AA PX d3;replace d4:=AA PX d4;replace d5:=AA PX d5;replace d6:=AA PX d6;replace d7:=AA PX d7;replace d8:=AA PX d8;have iC:(a.add (q*9)).block≠w.heap.size:=by omega
 have iB:(a.add (q*9)).block≠w.heap.size+1:=by omega
 refine AO (S:=EC w6 w.heap.size w.heap.size (w.heap.size+1) 6 7 [.string ⟨#[]⟩,.string ⟨#[]⟩,.slice none 0 0,.slice none 0 0,.slice none 0 0] [.string fn,.string fr,.slice NY Y3 Nb,.slice NW Y2 Na,.slice (some a) nb cb]
  [.string ⟨#[]⟩,.slice none 0 0,.slice none 0 0,.int .i64 0,.int .i64 0,.string ⟨#[]⟩,.int .i64 0,.slice none 0 0,.int .i64 0] [.string bn,.slice gy o7 iE,.slice vw oz wD,.int .i64 bk,.int .i64 bak,.string qF,.int .i64 ban,.slice gZ ou iD,.int .i64 qE])
  rfl (by kernel_rfl) (EC.start Ac (fun _=>rfl) hx2.drew hx3.drew) ?_
 iterate 6((apply Ab.z rfl;intro L w1 _ _ _ z hK;(have c0:=z.s.cell (hxb.c 0 _ rfl) hn1.symm hn2.symm;have c1:=z.s.cell (hxb.c 1 _ rfl) hn1.symm hn2.symm;have c2:=z.s.cell (hxb.c 2 _ rfl) hn1.symm hn2.symm;have c3:=z.s.cell (hxb.c 3 _ rfl) hn1.symm hn2.symm;have c4:=z.s.cell (hxb.c 4 _ rfl) hn1.symm hn2.symm;replace d0:=z.s.cell d0 iC iB;replace d1:=z.s.cell d1 iC iB;replace d2:=z.s.cell d2 iC iB;replace d3:=z.s.cell d3 iC iB;replace d4:=z.s.cell d4 iC iB;replace d5:=z.s.cell d5 iC iB;replace d6:=z.s.cell d6 iC iB;replace d7:=z.s.cell d7 iC iB;replace d8:=z.s.cell d8 iC iB);go_simp;exact hK (z.s.keep rfl rfl);rfl))
 (refine Ab.step (a1:=?_) rfl (fun L w1 K' Q' hS hi hR hd hK=>?_) ?_ ?_;rotate_left)
 ·have hx:=hS.px hi;obtain⟨k0,k1,k2,k3,k4⟩:=hx.c5;obtain⟨z0,z1,z2,z3,z4⟩:=hx.f5;go_simp;exact hK.out _ (hS.Z6 (Ay (AQ) [.string fn,.string fr,.slice NY Y3 Nb,.slice NW Y2 Na,.slice (some a) nb cb] 0 w1) (fun r hr=>Bu hr [.string fn,.string fr,.slice NY Y3 Nb,.slice NW Y2 Na,.slice (some a) nb cb] 0 w1) (CK [.string fn,.string fr,.slice NY Y3 Nb,.slice NW Y2 Na,.slice (some a) nb cb] _ 0 w1 hx rfl) (by omega) rfl)
 ·rfl
 (refine Ab.step (a1:=?_) rfl (fun L w1 K' Q' hS hi hR hd hK=>?_) ?_ ?_;rotate_left)
 ·have hx:=hS.qy hi;obtain⟨k0,k1,k2,k3,k4,k5,k6,k7,k8⟩:=hx.c9;obtain⟨z0,z1,z2,z3,z4,z5,z6,z7,z8⟩:=hx.f9;go_simp;exact hK.out _ (hS.Z5 (Ay (Aa) [.string bn,.slice gy o7 iE,.slice vw oz wD,.int .i64 bk,.int .i64 bak,.string qF,.int .i64 ban,.slice gZ ou iD,.int .i64 qE] 0 w1) (fun r hr=>Bu hr [.string bn,.slice gy o7 iE,.slice vw oz wD,.int .i64 bk,.int .i64 bak,.string qF,.int .i64 ban,.slice gZ ou iD,.int .i64 qE] 0 w1) (CK [.string bn,.slice gy o7 iE,.slice vw oz wD,.int .i64 bk,.int .i64 bak,.string qF,.int .i64 ban,.slice gZ ou iD,.int .i64 qE] _ 0 w1 hx rfl) (by omega) rfl)
 ·rfl
 refine Ab.nil fun w7 hS=>?_;obtain⟨hX,hY⟩:=hS.done rfl rfl;have BJ:=hb6.trans hS.b;obtain⟨k0,k1,k2,k3,k4⟩:=hX.c5;obtain⟨z0,z1,z2,z3,z4,z5,z6,z7,z8⟩:=hY.c9;go_wp2;(try simp only[Exit.inBlock,Exit.then]);refine bodyPost_ret_by (v:=.tuple #[.agg #[.string fn,.string fr,.slice NY Y3 Nb,.slice NW Y2 Na,.slice (some a) nb cb],.agg #[.string bn,.slice gy o7 iE,.slice vw oz wD,.int .i64 bk,.int .i64 bak,.string qF,.int .i64 ban,.slice gZ ou iD,.int .i64 qE]]) ((Ul rfl _ _ _).trans (by go_simp;try rfl)) rfl ⟨rfl,BJ⟩
end Go.Proofs.YtlffomedflegdaaGreatDoor
