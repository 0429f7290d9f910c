/- Part G01 of the proof: Wp, Uc, Ug, Uh, LawMachineGoesOn. -/
import Derived.Test.YtlffomedflegdaaGreatDoorTie
import Derived.Test.YtlffomedflegdaaGreatDoorCards
import Derived.Test.YtlffomedflegdaaGreatDoorPcS01
import Derived.Test.YtlffomedflegdaaGreatDoorPcC01
set_option linter.all false
set_option maxHeartbeats 16000000
set_option maxRecDepth 100000
namespace Go.Proofs.YtlffomedflegdaaGreatDoor
open Go.Proofs.Tryz
open Go.RowKit
variable {b:Bk}{f:Fn}{p:Pg}
section
open Num Dp
def ABQ(b:Bk):Bool:=b.cs.isEmpty&&decide (b.e.k=1)
def ABP(f:Fn)(b:Bk):Option Bk:=match b.e.to with
 | []=>none
 |y::_=>Ai Bk.n y f.bs
def ABG(f:Fn):Nat->Bk->Bool
 |0,b=> !ABQ b
 |n+1,b=> !ABQ b||match ABP f b with
  |none=>true
  |some b'=>ABG f n b'
def ABK(p:Pg):Prop:=∀f∈p.fs,f.bs.length<=200/\∀b∈f.bs,ABG f f.bs.length b=true
def Slow(p:Pg)(s:St)(j:Nat):Prop:=j<=201/\∀x f b,xH p s=some (x,f,b)->H8 x b=true->∃n,j+n<=200/\∀b',ABP f b=some b'->ABG f n b'=true
section
variable {p : Pg} {ans fails : List Int} {fuel : Int} {s s1 t u : St} {j j1 k : Nat}
theorem ABO(_:DJ p)(hf:ABK p)(s:St):Slow p s 0:=⟨by decide,fun x f b h hfr=>by
 unfold xH at h;split at h
 ·cases h
 rename_i x' hx
 split at h
 ·cases h
 rename_i f' hf'
 split at h
 ·cases h
 rename_i b' hb'
 injection h with h;injection h with h1 h;injection h with h2 h3;subst h1 h2 h3;obtain⟨h4,h5⟩:=hf f' (Ak hf').1;refine⟨f'.bs.length,by omega,fun b2 hb2=>h5 b2 ?_⟩;unfold ABP at hb2;split at hb2
 ·cases hb2
 ·exact(Ak hb2).1⟩
theorem ABM(hg:DJ p)(hf:ABK p)(hw:WT p s)(hst:s.status=0)(hs:Slow p s j)(h:EP p ans fails fuel s j=some (t,k)):Slow p t k/\j≠256:=by
 have hj:j≠256:=by have:=hs.1;omega
 refine⟨?_,hj⟩;obtain⟨x,f,b,h1,h2,h3,h4⟩:=Il hg hw hst h;have spent:Slow p {s with status:=3} j:=⟨hs.1,fun x f b ha hb=>hs.2 x f b ha hb⟩;rcases h4 with⟨_,e,_⟩|⟨hfr,hj2,rfl,hstep⟩|⟨_,_,rfl,rfl⟩|⟨_,_,rfl,_⟩
 ·exact absurd e hj
 ·obtain⟨n,n1,n2⟩:=hs.2 x f b h1 hfr;obtain⟨y,b',hy,hb',rfl⟩:=O9 hg h3 hfr hstep;refine⟨by omega,fun x2 f2 b2 ha hfr2=>?_⟩;unfold xH at ha;dsimp only at ha;rw[List.getLast?_concat]at ha;dsimp only at ha;rw[h3.1]at ha;dsimp only at ha;rw[hb']at ha;injection ha with ha;injection ha with e1 ha;injection ha with e2 e3;subst e1 e2 e3;obtain⟨q1,q2⟩:=JX hfr2;dsimp only at q1;have hop:ABQ b'=true:=by
   unfold ABQ;rw[Bool.and_eq_true,decide_eq_true_eq];exact⟨by rw[List.isEmpty_iff];exact List.eq_nil_of_length_eq_zero q1.symm,q2⟩
  have hb2:=n2 b' (by unfold ABP;rw[hy];exact hb')
  cases n with
  |zero=>
   unfold ABG at hb2;rw[hop]at hb2
   cases hb2
  |succ n=>
   unfold ABG at hb2;rw[hop]at hb2;refine⟨n,by omega,fun b3 hb3=>?_⟩;rw[hb3]at hb2;simpa using hb2
 ·exact spent
 ·exact ABO hg hf t
theorem AB5(hg:DJ p)(hf:ABK p)(h:Runs p ans fails fuel s j t)(hw:WT p s)(h1:Slow p s j)(h2:Slow p s j1):Runs p ans fails fuel s j1 t:=by
 obtain⟨k,hr,hk⟩:=h
 induction hr generalizing j1 with
 |refl=>exact Runs.stop hk
 | @step s s1 t j j2 k a b c ih=>
  obtain⟨t1,k1,e,hw1⟩:=Ml hg hw a ans fails fuel j;rw[b]at e;injection e with e;injection e with e1 e2;subst e1 e2;obtain⟨hs1,hj⟩:=ABM hg hf hw a h1 b;have hj1:j1≠256:=by have:=h2.1;omega
  obtain⟨x,f,bb,g1,g2,g3,g4⟩:=Il hg hw a b;have key:∃k1,EP p ans fails fuel s j1=some (s1,k1):=by
   unfold EP;rw[g1];dsimp only;rcases g4 with⟨_,e,_⟩|⟨hfr,hj2,rfl,hstep⟩|⟨hfr,hle,rfl,rfl⟩|⟨hfr,hlt,rfl,hstep⟩
   ·exact absurd e hj
   ·rw[if_pos hfr,if_neg hj1,hstep];exact⟨_,rfl⟩
   ·rw[if_neg (by rw[hfr];decide),if_pos hle];exact⟨_,rfl⟩
   ·rw[if_neg (by rw[hfr];decide),if_neg (by omega),hstep];exact⟨_,rfl⟩
  obtain⟨k1,hk1⟩:=key;exact Runs.step a hk1 (ih hw1 hs1 (ABM hg hf hw a h2 hk1).1 hk)
theorem Reach.slow(hg:DJ p)(hf:ABK p)(h:Reach p ans fails fuel s j t k)(hw:WT p s)(h1:Slow p s j):Slow p t k:=by
 induction h with
 |refl=>exact h1
 |step a b _ ih=>
  obtain⟨t1,k1,e,hw1⟩:=Ml hg hw a ans fails fuel _;have h2:=(ABM hg hf hw a h1 b).1;rw[b]at e;injection e with e;injection e with e1 e2;subst e1;exact ih hw1 h2
theorem ABg(h:s.status=0):Jg {s with status:=3}=s:=by
 unfold Jg;rw[if_pos rfl,<-h]
theorem ACn{part:Int}{a b c:St}(hp:part<=fuel)(hg:DJ p)(hf:ABK p)(hw:WT p s)(gN:s.status≠3)(ha:Runs p ans fails part s 0 a)(hc:Runs p ans fails fuel s 0 c)(hb:Runs p ans fails fuel (Jg a) 0 b):b=c:=by
 obtain⟨k,h1,h2⟩:=ha;rcases ABT hp hg h1 hw gN with⟨h3,h5⟩|⟨s',h3,h4,rfl⟩
 ·obtain rfl:=(hc.ABL h3).still h2;unfold Jg at hb;rw[if_neg h5]at hb;exact hb.still h2
 ·rw[ABg h4]at hb;have hc':=hc.ABL h3;exact hb.det (AB5 hg hf hc' (h3.wt hg hw) (h3.slow hg hf hw (ABO hg hf s)) (ABO hg hf s'))
end
end
structure ACD(f:Fn):Prop where
 s:rJ f
 n:f.bs.length<=32
 t:∀b∈f.bs,b.e.k=1->b.e.to.length=1
def ABw(f:Fn):Prop:=∀b∈f.bs,ABG f f.bs.length b=true
theorem ACD.to(h:ACD f)(hb:b∈f.bs)(hk:b.e.k=1):∃(y:ByteArray) (u:Nat) (hu:u<f.bs.length),b.e.to=[y]/\(∀(i:Nat) (hi:i<f.bs.length),f.bs[i].n=y↔i=u)/\ABP f b=some f.bs[u]:=by
 have h1:=h.t b hb hk;obtain⟨y,hy⟩:∃y,b.e.to=[y]:=by
  match h2:b.e.to,h1 with
  | [y],_=>exact⟨y,rfl⟩
 obtain⟨j,hj,ej⟩:=List.mem_iff_getElem.1 hb;obtain⟨-,h2⟩:=h.s.2 j b (by rw[List.getElem?_eq_getElem hj,ej]);obtain⟨k,hk2⟩:=h2 y (by rw[hy];simp);obtain⟨c,hc,hcn⟩:=ABj hk2;obtain⟨hlt,ec⟩:=List.getElem?_eq_some_iff.1 hc;refine⟨y,k+1,hlt,hy,fun i hi=>⟨fun e=>?_,fun e=>?_⟩,?_⟩
 ·have:=(h.s.2 i f.bs[i] (by simp[hi])).1;rw[e,hk2]at this;exact(Option.some.inj this).symm
 ·subst e;rw[ec,hcn]
 ·unfold ABP;rw[hy];obtain⟨d,hd⟩:=M4 hk2;obtain⟨k2,e1,e2⟩:=O7 hd;rw[hk2]at e1;obtain rfl:=Option.some.inj e1;rw[hc]at e2;rw[ec];exact hd.trans e2.symm
theorem AB4(h:ABQ b=false)(n:Nat):ABG f n b=true:=by
 cases n<;>simp[ABG,h]
theorem AB3{c:Bk}(h:ABQ b=true)(hn:ABP f b=some c){n:Nat}:ABG f (n+1) b=ABG f n c:=by
 simp[ABG,h,hn]
def ACP(P:Prop)(e:Ending):Prop:=∃b:Bool,e=.returned (.bool b)/\(b=false->P)
theorem ACA{w0 w:World}(h0:AA6 w0 w){vp u1 u2 u3 u4:Value}(hp:Cj w0 vp p u1 u2 u3 u4)(hg:∀f∈p.fs,ACD f):Calls prog 18 #[vp] w fun e w'=>ACP (ABK p) e/\AA6 w w':=by
 obtain⟨rfl,hpc,hpg,hpx,hpf⟩:=hp;obtain⟨a1,b1,rfl⟩:=hpc.slice;obtain⟨a2,b2,rfl⟩:=hpg.slice;obtain⟨a3,b3,rfl⟩:=hpx.slice;obtain⟨a4,b4,rfl,-,⟨hpn,-⟩,hl⟩:=hpf;go_enter func18,ntmps18;go_wp2;generalize Cr:w.alloc _=W at*;obtain⟨hb1,hP⟩:=ng Cr;clear Cr;go_loopw[3] (fun i wr=>∃q:Nat,q<=p.fs.length/\i=.int .i64 (q:Int)/\Hid (∀(j:Nat) f,j<q->p.fs[j]? =some f->ABw f)/\AA6 W wr) (fun i _=>p.fs.length-(intOf i).toNat);exact⟨0,AY,rfl,Wx (fun j b h=>absurd h (Nat.not_lt_zero _)),AL⟩;obtain⟨q,hq,rfl,hS,hb⟩:=hrel;have x4:=(hP.nx hb).c 4 _ rfl;have hbb:=AB hb1 hb;by_cases hend:q=p.fs.length
 ·subst hend;have hN:ABK p:=fun f hf=>by
   obtain⟨j,hj⟩:=List.getElem?_of_mem hf;exact⟨AX (hg f hf).n (by decide),hS.out j f (List.getElem?_eq_some_iff.1 hj).1 hj⟩
  replace hN:=Wx hN;go_wp2;go_ret;exact⟨⟨_,rfl,fun _=>hN.out⟩,hbb⟩
 ·have hlt:q<p.fs.length:=by omega
  have A8:(q:Int)<p.fs.length:=by omega
  obtain⟨a,rfl,wu⟩:=hl q p.fs[q] (by simp[hlt]);obtain⟨t1,t2,t3,hF,c0,c1,c2,c3,c4⟩:=wu.val;have hG:=hg _ (List.getElem_mem hlt);have hN:ABw p.fs[q]->∀(j:Nat) f,j<q+1->p.fs[j]? =some f->ABw f:=KQ hlt hS.out;have hk:=AB h0 hbb;obtain⟨m1,j1,rfl⟩:=hF.p.slice;obtain⟨m2,j2,rfl⟩:=hF.v.slice;obtain⟨m3,j3,rfl,-,-,hB⟩:=hF.b;replace c0:=AA hk c0;replace c1:=AA hk c1;replace c2:=AA hk c2;replace c3:=AA hk c3;replace c4:=AA hk c4;clear wu hF;generalize p.fs[q]=f at*;replace hN:=Wx hN;replace hG:=Wx hG;obtain⟨wo,rfl⟩:=again wr;go_wp2;generalize Cr:wo.alloc _=W2 at*;obtain⟨hb2,hX⟩:=ng Cr;clear Cr;obtain⟨n,hn⟩:∃n,n=f.bs.length:=⟨_,rfl⟩;have hn32:n<=32:=by rw[hn];exact hG.out.n
  rw[<-hn]at hX;simp only[<-hn];replace hn:=Wx hn;go_loopw[5] (fun i wr=>∃k:Nat,k<=n/\i=.int .i64 (k:Int)/\Hid (∀(j:Nat) b,j<k->f.bs[j]? =some b->ABG f n b=true)/\AA6 W2 wr) (fun i _=>n-(intOf i).toNat);exact⟨0,AY,rfl,Wx (fun j b h=>absurd h (Nat.not_lt_zero _)),AL⟩;obtain⟨k,hkn,rfl,hT,hb3⟩:=hrel;have y4:=(hX.nx hb3).c 4 _ rfl;have hb4:=AB hb2 hb3;by_cases hend:k=n
  ·subst hend;have hNo:=hN.out fun b pO=>by
    obtain⟨j,hj⟩:=List.getElem?_of_mem pO;rw[<-hn.out];exact hT.out j b (by rw[hn.out];exact(List.getElem?_eq_some_iff.1 hj).1) hj
   replace hNo:=Wx hNo;have hb5:=AB hb hb4;go_wp2;go_roundw;exact⟨q+1,hlt,by go_num,hNo,hb5⟩;simp[intOf];omega
  ·have hlk:k<n:=(by omega);have AL0:(k:Int)<n:=(by omega);obtain⟨wp,rfl⟩:=again wr;go_wp2;go_loopw[6,7] (fun t m wr=>∃(i j:Nat) (hi:i<n) (_:j<=n),t=.int .i64 (i:Int)/\m=.int .i64 (j:Int)/\Hid (∀b c,f.bs[i]? =some b->f.bs[k]? =some c->ABG f (n-j) b=true->ABG f n c=true)/\AA6 wp wr) (fun _ m _=>n+1-(intOf m).toNat);exact⟨k,0,hlk,AY,rfl,rfl,Wx (fun b c h1 h2 h=>by rw[h1]at h2;obtain rfl:=Option.some.inj h2;exact h),AL⟩;obtain⟨i,j,hi,hj,rfl,rfl,hI,hb5⟩:=hrel;have y4:=AA hb5 y4;have hb6:=AB hb3 hb5;have BJ:=AB hb4 hb5;have hiI:(i:Int)<n:=(by omega);have hjI:(j:Int)<=n:=(by omega);have hif:i<f.bs.length:=(by rw[<-hn.out];exact hi);obtain⟨g,rfl,hAB⟩:=hB i f.bs[i] (by simp[hif]);obtain⟨v1,v2,v3,S9,d0,d1,d2,d3,d4,d5,d6,d7,d8⟩:=hAB.val;have hkw:=AB hk BJ;obtain⟨s1,r1,rfl⟩:=S9.p.slice;obtain⟨s2,r2,rfl⟩:=S9.c.slice;have hto:=S9.t;obtain⟨s3,r3,rfl⟩:=hto.slice;replace d0:=AA hkw d0;replace d1:=AA hkw d1;replace d2:=AA hkw d2;replace d3:=AA hkw d3;replace d4:=AA hkw d4;replace d5:=AA hkw d5;replace d6:=AA hkw d6;replace d7:=AA hkw d7;replace d8:=AA hkw d8;have hgi:f.bs[i]? =some f.bs[i]:=(by simp[hif]);have hM:=hG.out.to (List.getElem_mem hif);have hI2:=fun c=>hI.out _ c hgi;have hO:∀c,f.bs[k]? =some c->ABQ f.bs[i]=false->ABG f n c=true:=fun c h1 h2=>hI2 c h1 (AB4 h2 _)
   have hO2:∀u c,ABP f f.bs[i]=some u->f.bs[k]? =some c->ABQ f.bs[i]=true->j<n->ABG f (n-(j+1)) u=true->ABG f n c=true:=fun u c h1 h2 h3 h4 h5=>hI2 c h2 (by
    rw[show n-j=n-(j+1)+1 by omega,AB3 h3 h1];exact h5)
   have hH:ABQ f.bs[i]=(decide (f.bs[i].cs.length=0)&&decide (f.bs[i].e.k=1)):=by
    unfold ABQ;cases f.bs[i].cs<;>simp
   clear hAB S9 hI2;generalize f.bs[i]=b at*;replace hgi:=Wx hgi;have hfk:f.bs[k]? =some (f.bs[k]'(by rw[<-hn.out];exact hlk)):=(by simp);have Bp:=AJ wr (.cells #[.string b.n,.slice s1 b.ps.length r1,.slice s2 b.cs.length r2,.int .i64 b.e.k,.int .i64 b.e.a.k,.string b.e.a.s,.int .i64 b.e.a.n,.slice s3 b.e.to.length r3,.int .i64 b.e.n] 82);have hY:=Ae.alloc wr [.string b.n,.slice s1 b.ps.length r1,.slice s2 b.cs.length r2,.int .i64 b.e.k,.int .i64 b.e.a.k,.string b.e.a.s,.int .i64 b.e.a.n,.slice s3 b.e.to.length r3,.int .i64 b.e.n] 82;have hbr:=AB hb6 Bp;have ABZ:ABQ b=false->Hid (∀(j:Nat) b,j<k+1->f.bs[j]? =some b->ABG f n b=true):=fun h=>Wx fun j' b' h1 h2=>by
    by_cases e:j'=k
    ·subst e;exact hO b' h2 h
    ·exact hT.out j' b' (by omega) h2
   replace hO2:=Wx hO2;replace hM:=Wx hM;replace hfk:=Wx hfk;clear hO;cases hc0:decide ((0:Int)<(b.cs.length:Int));rotate_left
   ·have hcI:=BK hc0;have hcN:0<b.cs.length:=(by omega);have hS2:=ABZ (by rw[hH,decide_eq_false (by omega)];rfl);clear ABZ hH;go_wp2;go_roundw;exact⟨k+1,hlk,by go_num,hS2,hbr⟩;simp[intOf];omega
   have hcI:=CJ hc0;have hcN:¬0<b.cs.length:=(by omega);cases hk1:((b.e.k:Int) !=1);rotate_left
   ·have hS2:=ABZ (by rw[hH,decide_eq_false (p:=b.e.k=1) (by simpa using hk1),Bool.and_false]);clear ABZ hH;go_wp2;go_roundw;exact⟨k+1,hlk,by go_num,hS2,hbr⟩;simp[intOf];omega
   have hke:b.e.k=1:=(by simpa using hk1);have AGS:Hid (ABQ b=true):=Wx (by rw[hH,decide_eq_true (by omega),decide_eq_true hke];rfl);obtain⟨y,u,hu,hty,huy,hnx⟩:=hM.out hke;obtain⟨ya,rfl,hya⟩:=CV hto (q:=0) (by rw[hty];exact Nat.one_pos);have hya:w0.cell? ya=some (.string y):=by
    have e:b.e.to[0]'(by rw[hty];exact Nat.one_pos)=y:=(by simp[hty]);rw[e]at hya;simpa[Addr.add]using hya
   have hyb:=AA (AB hkw Bp) hya;have htl:b.e.to.length=1:=(by rw[hty];rfl);clear ABZ hH hM hto hya;replace hke:=Wx hke;replace hty:=Wx hty;replace htl:=Wx htl;obtain⟨nt,hnt⟩:∃nt,nt=b.e.to.length:=⟨_,rfl⟩;have ALx:(0:Int)<nt:=(by rw[hnt,htl.out];decide);have ALw:0<nt:=(by rw[hnt,htl.out];decide);rw[<-hnt]at d7 hY Bp hbr hyb;replace hnt:=Wx hnt;go_wp2;generalize Cr:wr.alloc _=W3 at*;clear Cr;have y4:=AA Bp y4;have z7:=hY.c 7 _ rfl;have hun:u<n:=(by rw[hn.out];exact hu);go_loopw[6,9] (fun t m w=>∃(i' j':Nat),j'<=n/\t=.int .i64 (i':Int)/\m=.int .i64 (j':Int)/\(u<j'->i'=u)/\i'<n/\AA6 W3 w) (fun _ m _=>n-(intOf m).toNat);exact⟨i,0,AY,rfl,rfl,(fun h=>absurd h (Nat.not_lt_zero _)),hi,AL⟩;obtain⟨i',j',hj',rfl,rfl,hiu,hin,J9⟩:=hrel;have z7:=AA J9 z7;have y4:=AA J9 y4;have hyb:=AA J9 hyb;have hbq:=AB Bp J9;have hbp:=AB hb5 hbq;by_cases hend:j'=n
   ·subst hend;have hiu:=hiu hun;subst hiu;by_cases hjn:j=j'
    ·subst hjn;have hbz:=AB hbb (AB hb4 hbp);go_wp2;go_ret;exact⟨⟨_,rfl,fun e=>by cases e⟩,hbz⟩
    ·have AL1:((j:Int)==(j':Int))=false:=(by simp;omega);have hjl:j<j':=(by omega);have nJ:Hid (∀b' c,f.bs[i']? =some b'->f.bs[k]? =some c->ABG f (j'-(j+1)) b'=true->ABG f j' c=true):=Wx fun b' c h1 h2 h3=>by
      rw[List.getElem?_eq_getElem hu]at h1;obtain rfl:=Option.some.inj h1;exact hO2.out _ c hnx h2 AGS.out hjl h3
     clear hiu;go_wp2;go_roundw;exact⟨i',j+1,hun,hjl,rfl,by go_num,nJ,hbp⟩;simp[intOf];omega
   ·have hjl:j'<n:=(by omega);have AD1:(j':Int)<n:=(by omega);have hjf:j'<f.bs.length:=(by rw[<-hn.out];exact hjl);obtain⟨g',e',ACm⟩:=hB j' f.bs[j'] (by simp[hjf]);obtain rfl:=Option.some.inj e';have q0:=AA (AB hkw hbq) ACm.1.1;have huj:=huy j' hjf;clear ACm e';generalize f.bs[j'].n=nj at*;obtain⟨wq,rfl⟩:=again wr;cases hcmp:(nj.toList==y.toList)
    ·have hne:j'≠u:=fun e=>by
      rw[huj.2 e]at hcmp;simp at hcmp
     have ABe:u<j'+1->i'=u:=fun h=>hiu (by omega);replace ABe:=Wx ABe;clear hiu huj;go_wp2;refine AO (S:=fun _ v=>v=wq.drew) rfl (by kernel_rfl) rfl ?_;(iterate 12((apply Ab.z rfl;intro L w1 _ _ _ z hK;have hS:=z.s;(subst hS);go_simp;exact hK (rfl);rfl)));refine Ab.nil fun w8 iJ=>?_;subst iJ;go_wp2;go_roundw;exact⟨i',j'+1,hjl,rfl,by go_num,ABe.out,hin,J9.drew⟩;simp[intOf];omega
    ·have heq:j'=u:=huj.1 (Ic hcmp);have ABe:u<j'+1->j'=u:=fun _=>heq;replace ABe:=Wx ABe;clear hiu huj heq;go_wp2;refine AO (S:=fun _ v=>v=wq.drew) rfl (by kernel_rfl) rfl ?_;(iterate 12((apply Ab.z rfl;intro L w1 _ _ _ z hK;have hS:=z.s;(subst hS);go_simp;exact hK (rfl);rfl)));refine Ab.nil fun w8 iJ=>?_;subst iJ;go_wp2;go_roundw;exact⟨j',j'+1,hjl,rfl,by go_num,ABe.out,hjl,J9.drew⟩;simp[intOf];omega
theorem ACI{q:Q6}(h:Qz p q):∀f∈p.fs,ACD f:=fun f hf=>by
 obtain⟨j,hj,e⟩:=List.mem_iff_getElem.1 hf;have hjf:p.fs[j]? =some f:=by rw[List.getElem?_eq_getElem hj,e]
 exact⟨(h.s.o j f hjf).1,(h.s.z j f hjf).1,fun b hb=>(((J4 h).fs f hf).b b hb).to1⟩
structure AEo(w0:World)(p:Pg)(u1 u2 u3 u4:Value)(qf:Nat)(l1:List Int)(fuel:Int)(l2 l3:List Int)(g1 g2 g3:Value):Prop where
 wd:Words w0
 m:∃m,w0.cell? ⟨1,0,none⟩=some (.int .i64 m)
 pv:Cj w0 (.agg #[.bool p.ssa,u1,u2,u3,u4]) p u1 u2 u3 u4
 r:Ky p
 q:oM w0 (.agg #[.int .u8 (qf:Int),g1,.int .i64 fuel,g2,g3]) qf l1 fuel l2 l3 g1 g2 g3
theorem M7{x:ByteArray}{l:List Int}{s:St}(h:GK p x l=some s):s.status=0/\s.steps=0/\s.guards=0/\s.globals.length=p.gs.length:=by
 unfold GK at h;split at h
 ·cases h
 ·split at h
  ·cases h
  ·injection h with h;subst h;exact⟨rfl,rfl,rfl,by simp⟩
theorem AB9{w:World}{u1 u2 u3 u4:Value}{qf:Nat}{l1 l2 l3:List Int}{fuel:Int}{g1 g2 g3:Value}(h:AEo w p u1 u2 u3 u4 qf l1 fuel l2 l3 g1 g2 g3)(part:Int):Calls prog 5 #[.agg #[.bool p.ssa,u1,u2,u3,u4],.agg #[.int .u8 (qf:Int),g1,.int .i64 fuel,g2,g3],.int .i64 part] w fun e w'=>oQ e/\AA6 w w':=by
 obtain⟨hwd,⟨m,hm⟩,hp,hr,hq⟩:=h;obtain⟨c1,k1,rfl⟩:=hp.c.slice;obtain⟨c2,k2,rfl⟩:=hp.g.slice;obtain⟨c3,k3,rfl⟩:=hp.xt.slice;obtain⟨c4,k4,rfl⟩:=hp.f.slice;obtain⟨q1,d1,rfl⟩:=hq.r1.slice;obtain⟨q2,d2,rfl⟩:=hq.r2.slice;obtain⟨q3,d3,rfl⟩:=hq.r3.slice;have hAw:=fun(W:World) (hb:AA6 w W)=>Sq m (AA hb hm);have hFe:=fun(W:World) (hb:AA6 w W)=>lU hb hwd hp hr ⟨(qf:Int),l1.length,fuel,l2.length,l3.length⟩ q1 q2 q3 d1 d2 d3;obtain⟨hP,hA,hb1⟩:=Ch (w:=w) (c1:=[.bool p.ssa,.slice c1 p.cs.length k1,.slice c2 p.gs.length k2,.slice c3 p.xs.length k3,.slice c4 p.fs.length k4]) (c2:=[.int .u8 (qf:Int),.slice q1 l1.length d1,.int .i64 fuel,.slice q2 l2.length d2,.slice q3 l3.length d3]) (t1:=27) (t2:=30) (AL);replace hq:=Wx hq;replace hp:=Wx hp;replace hr:=Wx hr;replace hwd:=Wx hwd;generalize ZL:p.ssa=ssa at*;replace ZL:=Wx ZL;have a0:=hP.c 0 _ rfl;go_enter func5,ntmps5;go_wp2_with fail;generalize Cr:World.alloc (World.alloc _ _) _=W at*;refine(hAw _ hb1).mono ?_;rintro e w1 ⟨rfl,hb2⟩;have hP1:=hP.nx hb2;have hA1:=hA.nx hb2;have hb3:=AB hb1 hb2;obtain⟨a0,a1,a2,a3,a4⟩:=hP1.c5;obtain⟨b0,b1,b2,b3,b4⟩:=hA1.c5;go_wp2_with fail;refine(hFe _ hb3).mono ?_;rintro e w2 ⟨⟨r,rfl,Fu⟩,hb4⟩;replace hP:=hP1.nx hb4;replace hA:=hA1.nx hb4;replace hb1:=AB hb3 hb4;cases r
 ·clear Fu;go_wp2_with fail;refine(hAw _ hb1).mono ?_;rintro e w3 ⟨rfl,hb2⟩;go_wp2;go_ret;exact⟨rfl,AB hb1 hb2⟩
 cases hpt:decide ((3000:Int)<part);rotate_left
 ·have PV:=BK hpt;clear Fu;go_wp2_with fail;refine(hAw _ hb1).mono ?_;rintro e w3 ⟨rfl,hb2⟩;go_wp2;go_ret;exact⟨rfl,AB hb1 hb2⟩
 have PV:=CJ hpt;clear hpt;replace Fu:=Fu rfl;have hn0:0<p.fs.length:=Fu.p;have hNm:=fun(W:World) (hb:AA6 w W)=>YA hb hp.out hn0 qf hq.out.f (v1:=.slice q1 l1.length d1) (v2:=.int .i64 fuel) (v3:=.slice q2 l2.length d2) (v4:=.slice q3 l3.length d3) rfl rfl rfl rfl;generalize hnm:(p.fs[qf%p.fs.length]'(Nat.mod_lt _ hn0)).n=nm at*;obtain⟨s,hs0,hSt⟩:∃s,Hid (GK p nm l1=some s)/\∀(W:World),AA6 w W->Calls prog 10 #[.agg #[.bool ssa,.slice c1 p.cs.length k1,.slice c2 p.gs.length k2,.slice c3 p.xs.length k3,.slice c4 p.fs.length k4],.string nm,.slice q1 l1.length d1] W fun e w'=>∃fr hp gl tr mk,e=.returned (.tuple #[Ko s fr hp gl tr mk,.int .i64 0])/\Bt w' W.heap.size s fr hp gl tr mk/\AA6 W w':=by
  have hg:=J4 Fu;obtain⟨k,hk⟩:=Ms (nm:=Fn.n) (List.getElem_mem (Nat.mod_lt qf hn0));rw[hnm]at hk;obtain⟨f,hf⟩:=M4 hk;have hfm:=(Ak hf).1;have hbs:=(hg.fs f hfm).bs;obtain⟨j,hj,ej⟩:=List.mem_iff_getElem.1 hfm;have hz:=(Fu.s.z j f (by rw[List.getElem?_eq_getElem hj,ej])).2.1
  cases hbq:f.bs with
  |nil=>exact absurd hbq hbs
  |cons b0 br=>
   refine⟨mY nm b0.n (ET f.ps l1 []) (p.gs.map fun g=>Ap g.t),Wx ?_,fun W hb=>?_⟩
   ·unfold GK;rw[hf];dsimp only;rw[hbq];rfl
   ·have hp':=hp.out;rw[<-ZL.out]at hp';have:=OW hb hp' nm hf hbq hq.out.r1 (P7 Fu) (by omega);rw[ZL.out]at this;exact this
 replace hnm:=Wx hnm;replace Fu:=Wx Fu;go_wp2;refine AV (S:=Fv w2 s) rfl (by kernel_rfl) (Fv.start Ac) ?_;iterate 2((apply AU.z rfl;intro V L w1 _ _ _ z hK;(have hPn:=hP.nx z.s.b;obtain⟨a0,a1,a2,a3,a4⟩:=hPn.c5);go_simp;exact hK (z.s.keep rfl rfl rfl rfl rfl rfl);intros;rfl))
 (apply AU.z rfl;intro V L w1 _ _ _ z hK;(have hAn:=hA.nx z.s.b;obtain⟨b0,b1,b2,b3,b4⟩:=hAn.c5);go_simp;exact hK (z.s.keep rfl rfl rfl rfl rfl rfl);intros;rfl);(apply AU.y rfl;intro V L w1 _ _ z hK;go_simp;go_wp2_with((refine(hNm _ (AB hb1 z.s.b)).mono ?_;rintro e w2 ⟨rfl,hb⟩));(try simp only[pE]);exact hK.out _ ((z.s.kp hb).keep rfl rfl rfl rfl rfl rfl);intros;rfl);(apply AU.z rfl;intro V L w1 _ _ _ z hK;go_simp;exact hK (z.s.keep rfl rfl rfl rfl rfl rfl);intros;rfl);(apply AU.z rfl;intro V L w1 _ _ _ z hK;(have hAn:=hA.nx z.s.b;have b1:=hAn.c 1 _ rfl);go_simp;exact hK (z.s.keep rfl rfl rfl rfl rfl rfl);intros;rfl);refine AU.free (fun _=>rfl) (fun V L w1 K' Q' hS hi hR hd hK=>?_) ?_
 ·go_simp;go_wp2_with(refine(hSt _ (AB hb1 hS.b)).mono ?_;rintro e w3 ⟨fr',hp',TV,TI,mk',rfl,ho,hb⟩)
  exact hK.out _ _ rfl (hS.called hb ho)
 simp only[Act.put];refine AU.free (fun _=>rfl) (fun V L w1 K' Q' hS hi hR hd hK=>?_) ?_
 ·obtain⟨fr,h',gl,tr,mk,hV,hT⟩:=hS.v6 (hd.out 6 (by kernel_rfl));simp only[hV];go_simp;exact hK.out _ _ (by simp only[hV];rfl) (hS.set _ (by rfl) (by rfl) (fun e=>absurd e (by decide)) (fun _=>⟨_,_,_,_,_,rfl,hT⟩) (fun e=>absurd e (by decide)) (fun e=>absurd e (by decide)))
 simp only[Act.put];refine AU.free (fun _=>rfl) (fun V L w1 K' Q' hS hi hR hd hK=>?_) ?_
 ·obtain⟨fr,h',gl,tr,mk,hV,hT⟩:=hS.v7 (hd.out 7 (by kernel_rfl));simp only[hV];go_simp;exact hK.out _ _ (by simp only[hV];rfl) (hS.set _ (by rfl) (by rfl) (fun e=>absurd e (by decide)) (fun e=>absurd e (by decide)) (fun _=>⟨_,_,_,_,_,rfl,hT⟩) (fun e=>absurd e (by decide)))
 simp only[Act.put];refine AU.free (fun _=>rfl) (fun V L w1 K' Q' hS hi hR hd hK=>?_) ?_
 ·obtain⟨fr,h',gl,tr,mk,hV,hT⟩:=hS.v7 (hd.out 7 (by kernel_rfl));simp only[hV];go_simp;exact hK.out _ _ (by simp only[hV];rfl) (hS.set _ (by rfl) (by rfl) (fun e=>absurd e (by decide)) (fun e=>absurd e (by decide)) (fun e=>absurd e (by decide)) (fun _=>rfl))
 simp only[Act.put];(apply AU.w rfl;intro V L w1 _ _ _ z hK;go_simp;exact hK rfl (z.s.made z.i (z.r 11 10 (by kernel_rfl) z.i) _);(try simp only[pE]));refine AU.val undef (fun _=>rfl) (fun V L w1 K' Q' hS hi hR hd hK=>?_) ?_
 ·have hl:=hd.out 10 (by kernel_rfl);obtain⟨pb,hpb,hp0,hp1,hx,-⟩:=hS.vb hl;obtain⟨fr,h',gl,tr,mk,hV,hT⟩:=hS.v8 (hd.out 8 (by kernel_rfl));obtain⟨⟨_,y1⟩,⟨_,y2⟩,⟨_,y3⟩,⟨_,y4⟩,⟨_,y5⟩⟩:=hT.in;obtain⟨e1,f1,rfl⟩:=y1.sl;obtain⟨e2,f2,rfl⟩:=y2.sl;obtain⟨e3,f3,rfl⟩:=y3.sl;obtain⟨e4,f4,rfl⟩:=y4.sl;obtain⟨e5,f5,rfl⟩:=y5.sl;replace hx:=hx hi;obtain⟨k0,k1,k2,k3,k4,k5,k6,k7,k8,k9,k10,k11,k12⟩:=hx.c13;obtain⟨z0,z1,z2,z3,z4,z5,z6,z7,z8,z9,z10,z11,z12⟩:=hx.f13;simp only[hpb,hV,gY];go_simp;exact hK.out _ _ (by simp only[hpb,hV,gY];rfl) (hS.fill hl hi hpb hT)
 simp only[Act.put];refine AU.free (fun _=>rfl) (fun V L w1 K' Q' hS hi hR hd hK=>?_) ?_
 ·have hV:=hS.v9 (hd.out 9 (by kernel_rfl));simp only[hV];go_simp;exact hK.out _ _ (by simp only[hV];rfl) (hS.set _ (by rfl) (by rfl) (fun e=>absurd e (by decide)) (fun e=>absurd e (by decide)) (fun e=>absurd e (by decide)) (fun e=>absurd e (by decide)))
 simp only[Act.put];refine AU.nil fun V w3 hS=>?_;obtain⟨ps,hps,hp0,hp1,-,hx⟩:=hS.vb rfl;obtain⟨fr,h',gl,tr,mk,hxb,hT⟩:=hx rfl;have hb5:=hS.b;have hI:=hT.in;simp only[hps,gY];have hx5:=hxb;have Y8:=hP.nx hb5;have xA:=hA.nx hb5;have hb6:=AB hb1 hb5;obtain⟨z0,-,-,-⟩:=M7 hs0.out;have hwk:Jg s=s:=OQ (by rw[z0];decide);have gN:s.status≠3:=by rw[z0];decide
 have hfu:fuel<=100000:=by have:=Fu.out.d;dsimp only at this;omega
 have hpu:part<=100000:=by omega
 have hsw:=KT (J4 Fu.out) (P7 Fu.out) hq.out.g1 hs0.out hfu;have AGP:=KT (J4 Fu.out) (P7 Fu.out) hq.out.g1 hs0.out hpu;have Tp:∀(W':World) (s1:St) (f1 h1 g1 t1 m1:Value) (fu:Int),AA6 w W'->Qx W' s1 f1 h1 g1 t1 m1->jW s1->Way p (Jg s1) fu->Calls prog 12 #[.agg #[.bool ssa,.slice c1 p.cs.length k1,.slice c2 p.gs.length k2,.slice c3 p.xs.length k3,.slice c4 p.fs.length k4],Ko s1 f1 h1 g1 t1 m1,.int .i64 fu,.slice q2 l2.length d2,.slice q3 l3.length d3] W' fun e w'=>∃t fr' hp' TV TI mk',e=.returned (Ko t fr' hp' TV TI mk')/\Bt w' W'.heap.size t fr' hp' TV TI mk'/\Runs p l2 l3 fu (Jg s1) 0 t/\Way p t fu/\AA6 W' w':=fun W' s1 f1 h1 g1 t1 m1 fu hb hI hz hy=>
  Vi (k:=⟨.bool ssa,.slice c1 p.cs.length k1,.slice c2 p.gs.length k2,.slice c3 p.xs.length k3,.slice c4 p.fs.length k4,.slice q2 l2.length d2,.slice q3 l3.length d3⟩) ⟨hp.out,hq.out.r2,hq.out.r3,hb.size,J4 Fu.out,aQ Fu.out,lV hr.out,hq.out.g2,tL Fu.out,P7 Fu.out,tN Fu.out⟩ hb ⟨rfl,rfl,rfl,rfl,rfl,rfl,rfl⟩ (by rw[ZL.out]) hI hz fu hy
 have hFr:∀(W':World),AA6 w W'->Calls prog 18 #[.agg #[.bool ssa,.slice c1 p.cs.length k1,.slice c2 p.gs.length k2,.slice c3 p.xs.length k3,.slice c4 p.fs.length k4]] W' fun e w'=>ACP (ABK p) e/\AA6 W' w':=fun W' hb=>by
  have hp':=hp.out;rw[<-ZL.out]at hp';have:=ACA hb hp' (ACI Fu.out);rw[ZL.out]at this;exact this
 have hI0:=hI;obtain⟨⟨_,y1⟩,⟨_,y2⟩,⟨_,y3⟩,⟨_,y4⟩,⟨_,y5⟩⟩:=hI;obtain⟨e1,f1,rfl⟩:=y1.sl;obtain⟨e2,f2,rfl⟩:=y2.sl;obtain⟨e3,f3,rfl⟩:=y3.sl;obtain⟨e4,f4,rfl⟩:=y4.sl;obtain⟨e5,f5,rfl⟩:=y5.sl;clear y1 y2 y3 y4 y5 z0 hx hxb hT hS;have hcl:=tL Fu.out;replace Tp:=Wx Tp;replace hFr:=Wx hFr;replace hwk:=Wx hwk;obtain⟨a0,a1,a2,a3,a4⟩:=Y8.c5;obtain⟨-,-,b2,b3,b4⟩:=xA.c5;unfold Wi at hx5;obtain⟨x0,x1,x2,x3,x4,x5,x6,x7,x8,x9,x10,x11,x12⟩:=hx5.c13;have hlx:=hx5.lt;go_wp2_with fail;refine(Tp.out _ s _ _ _ _ _ part hb6 hI0 hsw.2 (by rw[hwk.out];exact AGP.1)).mono ?_;rintro e w4 ⟨u,fu,hu,gu,tu,mu,rfl,hOu,hRu,hYu,hbn⟩;obtain⟨r4a,g4a,r4b,g4b,r4c,g4c,r4d,g4d,r4e,g4e,rfl,rfl,rfl,rfl,rfl⟩:=hOu.shape;clear a0 a1 a2 a3 a4 b2 b3 b4 x0 x1 x2 x3 x4 x5 x6 x7 x8 x9 x10 x11 x12;go_upto_region 5 with fail;generalize Cr:World.alloc w4 _=W4 at*;obtain⟨J8,hZu⟩:=ng Cr;have hIu:=hOu.in.kp J8;have pO:=AB hbn J8;replace Y8:=Y8.nx pO;replace xA:=xA.nx pO;replace hx5:=hx5.nx pO;replace hI0:=hI0.kp pO;replace hb6:=AB hb6 pO;clear Cr J8 hbn hOu pO;obtain⟨a0,a1,a2,a3,a4⟩:=Y8.c5;obtain⟨-,-,b2,b3,b4⟩:=xA.c5;obtain⟨x0,x1,x2,x3,x4,x5,x6,x7,x8,x9,x10,x11,x12⟩:=hZu.c13;go_wp2_with fail;refine(Tp.out _ u _ _ _ _ _ fuel hb6 hIu (hYu.fine hcl) (hYu.wake hfu)).mono ?_;rintro e w5 ⟨v,fv,hv,gv,tv,mv,rfl,hOv,hRv,hYv,hbn⟩;obtain⟨r5a,g5a,r5b,g5b,r5c,g5c,r5d,g5d,r5e,g5e,rfl,rfl,rfl,rfl,rfl⟩:=hOv.shape;clear a0 a1 a2 a3 a4 b2 b3 b4 x0 x1 x2 x3 x4 x5 x6 x7 x8 x9 x10 x11 x12;go_upto_region 6 with fail;generalize Cr:World.alloc w5 _=W5 at*;obtain⟨J8,hZv⟩:=ng Cr;have hIv:=hOv.in.kp J8;have pO:=AB hbn J8;replace Y8:=Y8.nx pO;replace xA:=xA.nx pO;replace hx5:=hx5.nx pO;replace hZu:=hZu.nx pO;replace hI0:=hI0.kp pO;replace hIu:=hIu.kp pO;replace hb6:=AB hb6 pO;clear Cr J8 hbn hOv pO;obtain⟨a0,a1,a2,a3,a4⟩:=Y8.c5;obtain⟨-,-,b2,b3,b4⟩:=xA.c5;obtain⟨x0,x1,x2,x3,x4,x5,x6,x7,x8,x9,x10,x11,x12⟩:=hx5.c13;go_wp2_with fail;refine(Tp.out _ s _ _ _ _ _ fuel hb6 hI0 hsw.2 (by rw[hwk.out];exact hsw.1)).mono ?_;rintro e w6 ⟨t,ft,ht,gt,tt,mt,rfl,hOt,Kt,hYt,hbn⟩;obtain⟨r6a,g6a,r6b,g6b,r6c,g6c,r6d,g6d,r6e,g6e,rfl,rfl,rfl,rfl,rfl⟩:=hOt.shape;clear a0 a1 a2 a3 a4 b2 b3 b4 x0 x1 x2 x3 x4 x5 x6 x7 x8 x9 x10 x11 x12;go_upto_region 7 with fail;generalize Cr:World.alloc w6 _=W6 at*;obtain⟨J8,hZt⟩:=ng Cr;have hIt:=hOt.in.kp J8;have pO:=AB hbn J8;replace Y8:=Y8.nx pO;replace xA:=xA.nx pO;replace hx5:=hx5.nx pO;replace hZu:=hZu.nx pO;replace hZv:=hZv.nx pO;replace hI0:=hI0.kp pO;replace hIu:=hIu.kp pO;replace hIv:=hIv.kp pO;replace hb6:=AB hb6 pO;clear Cr J8 hbn hOt pO;obtain⟨a0,a1,a2,a3,a4⟩:=Y8.c5;obtain⟨-,-,b2,b3,b4⟩:=xA.c5;obtain⟨hSu,-⟩:=hIu.see (hYu.fine hcl);obtain⟨hSv,hLv⟩:=hIv.see (hYv.fine hcl);obtain⟨ABr,hLt⟩:=hIt.see (hYt.fine hcl);rw[hwk.out]at hRu Kt;have x7:=hZu.c 7 _ rfl;have y7:=hZt.c 7 _ rfl;obtain⟨_,_,ee,-,hnu,-⟩:=hSu.tr;obtain⟨-,-,rfl⟩:=Value.slice.inj ee;obtain⟨_,_,ee2,-,hnt,-⟩:=ABr.tr;obtain⟨-,-,rfl⟩:=Value.slice.inj ee2;clear ee ee2;cases hgt:decide (fuel<part);rotate_left
 ·have QZ:=BK hgt;obtain⟨l,hl⟩:=ABS (part:=fuel) (fuel:=part) (by omega) (J4 Fu.out) (aQ Fu.out) hsw.1.wt gN hsw.1.ct Kt hRu;have hle:t.trace.length<=u.trace.length:=by rw[hl,List.length_append];omega
  have hSE:∀W,AA6 W6 W->Calls prog 16 #[.slice r4d t.trace.length g4d,.slice r6d t.trace.length g6d] W fun e w'=>e=.returned (.bool true)/\AA6 W w':=fun W hb=>by
   have hc:=hSu.tr.cut (k:=t.trace.length) hle;rw[show u.trace.take t.trace.length=t.trace by rw[hl,List.take_left'];rfl]at hc;exact(ABf hb hc ABr.tr).mono fun e w' h=>⟨h.1.yes rfl,h.2⟩
  replace hl:=Wx hl;have AGQ:(t.trace.length:Int)<=g4d:=by omega
  have hge:decide ((t.trace.length:Int)<=(u.trace.length:Int))=true:=decide_eq_true (by omega);have AGR:(t.trace.length:Int)<=(u.trace.length:Int):=by omega
  generalize t.trace.length=nt at*;generalize u.trace.length=nu at*;go_upto_region 8 with fail;go_wp2;refine AO (S:=fun _ v=>AA6 W6 v) rfl (by kernel_rfl) Ac ?_;iterate 19(first|(apply Ab.z rfl;intro L w1 _ _ _ z hK;(have x7:=AA z.s x7;have y7:=AA z.s y7);go_simp;exact hK (z.s);rfl)|(apply Ab.y rfl;intro L w1 _ _ z hK;go_simp;go_wp2_with((refine(hSE _ z.s).mono ?_;rintro e w2 ⟨rfl,hb⟩));(try simp only[pE]);exact hK.out _ (AB z.s hb);rfl)|(refine Ab.skip rfl (fun L w1 hS hi=>(hS)) ?_;(try simp only[pE])))
  refine Ab.nil fun w8 iJ=>?_;have hbz:=AB hb6 iJ;go_wp2;go_ret;exact⟨rfl,hbz⟩
 ·have QZ:=CJ hgt;obtain⟨l,hl⟩:=ABS (part:=part) (fuel:=fuel) (by omega) (J4 Fu.out) (aQ Fu.out) hsw.1.wt gN hsw.1.ct hRu Kt;have hle:u.trace.length<=t.trace.length:=by rw[hl,List.length_append];omega
  have hSE:∀W,AA6 W6 W->Calls prog 16 #[.slice r6d u.trace.length g6d,.slice r4d u.trace.length g4d] W fun e w'=>e=.returned (.bool true)/\AA6 W w':=fun W hb=>by
   have hc:=ABr.tr.cut (k:=u.trace.length) hle;rw[show t.trace.take u.trace.length=u.trace by rw[hl,List.take_left'];rfl]at hc;exact(ABf hb hc hSu.tr).mono fun e w' h=>⟨h.1.yes rfl,h.2⟩
  have hSS:∀W,AA6 W6 W->Calls prog 17 #[Ko v (.slice r5a v.frames.length g5a) (.slice r5b v.heap.length g5b) (.slice r5c v.globals.length g5c) (.slice r5d v.trace.length g5d) (.slice r5e v.marks.length g5e),Ko t (.slice r6a t.frames.length g6a) (.slice r6b t.heap.length g6b) (.slice r6c t.globals.length g6c) (.slice r6d t.trace.length g6d) (.slice r6e t.marks.length g6e)] W fun e w'=>ABa (v=t) e/\AA6 W w':=fun W hb=>ACS hb hSv hLv ABr hLt;have hOn:ABK p->v=t:=fun hf=>ACn (part:=part) (fuel:=fuel) (by omega) (J4 Fu.out) hf hsw.1.wt gN hRu Kt hRv;replace hl:=Wx hl;replace hOn:=Wx hOn;have AGQ:(u.trace.length:Int)<=g6d:=by omega
  have hge:decide ((t.trace.length:Int)<(u.trace.length:Int))=false:=decide_eq_false (by omega);have AGR:(u.trace.length:Int)<=(t.trace.length:Int):=by omega
  have ALz:¬t.trace.length<u.trace.length:=by omega
  go_upto_region 9 with fail;go_wp2;refine AO (S:=fun _ v=>AA6 W6 v) rfl (by kernel_rfl) Ac ?_;iterate 19(first|(apply Ab.z rfl;intro L w1 _ _ _ z hK;(have x7:=AA z.s x7;have y7:=AA z.s y7);go_simp;exact hK (z.s);rfl)|(apply Ab.y rfl;intro L w1 _ _ z hK;go_simp;go_wp2_with((refine(hSE _ z.s).mono ?_;rintro e w2 ⟨rfl,hb⟩));(try simp only[pE]);exact hK.out _ (AB z.s hb);rfl)|(refine Ab.skip rfl (fun L w1 hS hi=>(hS)) ?_;(try simp only[pE])))
  refine Ab.nil fun w8 iJ=>?_;have hP9:=Y8.nx iJ;have QX:=hZv.nx iJ;have ht9:=hZt.nx iJ;obtain⟨a0,a1,a2,a3,a4⟩:=hP9.c5;obtain⟨x0,x1,x2,x3,x4,x5,x6,x7,x8,x9,x10,x11,x12⟩:=QX.c13;obtain⟨y0,y1,y2,y3,y4,y5,y6,y7,y8,y9,y10,y11,y12⟩:=ht9.c13;have Bp:=AB hb6 iJ;replace hSS:=hSS _ iJ;replace hSS:=Wx hSS;clear hZu hZv hZt hSu hSv ABr hge hSE QX ht9 hx5 Y8 xA b2 b3 b4;go_wp2_with fail;refine hSS.out.mono ?_;rintro e w9 ⟨⟨r,rfl,hr⟩,J9⟩;replace hr:=Wx hr;have Wt:=AB Bp J9;cases r
  ·have ACR:=hFr.out w9 Wt;obtain⟨a0,a1,a2,a3,a4⟩:=(hP9.nx J9).c5;replace ACR:=Wx ACR;go_wp2_with fail;refine ACR.out.mono ?_;rintro e uj ⟨⟨fb,rfl,hfb⟩,AEO⟩;cases fb
   ·exact absurd (hr.out (hOn.out (hfb rfl))) (by decide)
   ·have yM:=AB Wt AEO;clear hfb;go_wp2;go_ret;exact⟨rfl,yM⟩
  ·go_wp2;go_ret;exact⟨rfl,Wt⟩
section
open Go.ChangeShapes Go.WideShapes Go.ChangeAt Go.Deep
theorem SB:∀(l:List (DataW Unit)),Rows.laid_lateen_lateenref05_words=.agg l->∀(r:Nat) (s:List UInt8),l[r]? =some (.lit (.string s))->s.length<=10:=by
 intro l h r s hs;unfold Rows.laid_lateen_lateenref05_words at h;injection h with h
 have hc:(l.all fun d:DataW Unit=>match d with
  |.lit (.string s)=>decide (s.length<=10)
  |_=>true)=true:=by rw[<-h];decide
 have:=List.all_eq_true.1 hc _ (List.mem_of_getElem? hs);simpa using this
theorem jc{W:World}(h:laidMetH prog Rows.machineGoesOnRow.laid W):Words W:=by
 rw[MakeChecks.laidMetH_plain _ _ _ (by kernel_rfl)]at h;obtain⟨ps,⟨_,_,_,_,_,_,_,_,_,_,⟨g,t,cs,fuel,p,q,hg,ht,hv,hd,_,_⟩,_⟩,_,_⟩:=h;obtain rfl:=Option.some.inj ((show prog.globalNamed "lateen/lateenref05.words" =some 2 by kernel_rfl).symm.trans hg);obtain rfl:=Option.some.inj ((show(prog.globals[2]?).map (·.type)=some 298 by kernel_rfl).symm.trans ht);obtain⟨xs,m,_,ex,_,hl,hel⟩:=DataW.trod_array underlying298 hd;have c5:prog.cellsOf 9=1:=by kernel_rfl
 intro r hr;have hE:=hel r hr;rw[c5,Nat.mul_one,List.getElem?_eq_getElem (by omega)]at hE;obtain⟨z,e1,e2,_⟩:=DataW.trod_string underlying9 hE;have hz:=SB _ (congrArg Prod.fst ex) r z.data.toList (by rw[List.getElem?_map,List.getElem?_eq_getElem (by omega),Option.map_some,e2]);refine⟨z,?_,by simpa using hz⟩;rw[World.var?_cell hg hv r];have h0:((cs.toList.drop r).take 1)[0]? =some (.string z):=by rw[e1];rfl
 simpa using h0
variable (H : Type) (enc : TypeId × Value -> H) (W : World) (base : Nat) (args : Array Value) (ds gs : List (DataW H)) (before : List MemPlace)
theorem ACo(hval:∀(j:Nat) t v,f5.params[j]? =some t->args[j]? =some v->Value.okWide prog W .any base t v)(hW:DataW.Whole enc prog f5.params.toList Rows.machineGoesOnSpec.vars false W args.toList ds gs before)(hk:(DataW.weightsEach prog (f5.params.toList++Rows.machineGoesOnSpec.plain.varTypes prog) (ds++gs)).all (· <=reachBytes)=true) (hx:laidMetH prog Rows.machineGoesOnRow.laid W)(m:Int) (hm:W.cell? ⟨1,0,none⟩=some (.int .i64 m)):Calls prog 5 args W fun e W'=>e=.returned (.bool true)/\AA6 W W':=by
 have hwd:=jc hx;obtain⟨p,q,hA0,hV,rfl,_,_⟩:=hW;have hA:DataW.TrodAll enc prog W 0 (fun _=>true) true f5.params.toList args.toList ds p:=hA0;rw[params5]at hA hval hk;obtain⟨v0,vs0,d0,ds0,p0,q0,hargs,rfl,rfl,h0,r0⟩:=trodAll_cons hA;obtain⟨v1,vs1,d1,ds1,p1,q1,rfl,rfl,rfl,h1,r1⟩:=trodAll_cons r0;obtain⟨v2,vs2,d2,ds2,p2,q2,rfl,rfl,rfl,h2,r2⟩:=trodAll_cons r1;obtain⟨rfl,rfl,rfl⟩:=trodAll_nil r2;obtain rfl:args=#[v0,v1,v2]:=by cases args;simp_all
 obtain⟨c0,rfl,k0⟩:=oC underlying27 (hval 0 _ v0 rfl rfl) h0 (nX hk (j:=0) rfl rfl);obtain⟨c1,rfl,k1⟩:=oC underlying30 (hval 1 _ v1 rfl rfl) h1 (nX hk (j:=1) rfl rfl);obtain⟨part,rfl⟩:=okWide_int underlying2 (hval 2 _ v2 rfl rfl);obtain⟨p,u1,u2,u3,u4,hp,hr⟩:=AAX k0;obtain⟨qf,l1,fuel,l2,l3,g1,g2,g3,hq⟩:=ADX k1;have e1:=hp.e;have e2:=hq.e;rw[e1]at hp;rw[e2]at hq;rw[e1,e2];exact AB9 ⟨hwd,⟨m,hm⟩,hp,hr,hq⟩ part
end
section
namespace lawMachineGoesOn
open Go.ChangeShapes Go.WideShapes Go.ChangeAt
open Go.ChangeMaps (open_string shut_string)
theorem contract(H:Type)(enc:TypeId×Value->H)(W:World)(base:Nat)(args:Array Value)(ds gs:List (DataW H))(before:List MemPlace)(hval:∀(j:Nat) t v,f5.params[j]? =some t->args[j]? =some v->Value.okWide prog W .any base t v)(hW:DataW.Whole enc prog f5.params.toList Rows.machineGoesOnSpec.vars false W args.toList ds gs before) (hk:(DataW.weightsEach prog (f5.params.toList++Rows.machineGoesOnSpec.plain.varTypes prog) (ds++gs)).all (· <=reachBytes)=true) (hx:laidMetH prog Rows.machineGoesOnRow.laid W) (m:Int) (hm:W.cell? ⟨1,0,none⟩=some (.int .i64 m)):Calls prog 5 args W fun e W'=>∃v,e=.returned v/\Rows.machineGoesOnSpec.post enc prog f5 false true false false W args v W':=by
 have hWk:=hW;obtain⟨p,q,hA0,hV,rfl,_,_⟩:=hW;have hA:DataW.TrodAll enc prog W 0 (fun _=>true) true f5.params.toList args.toList ds p:=hA0;rw[params5]at hA;obtain⟨v0,vs0,d0,ds0,p0,q0,hargs,rfl,rfl,h0,r0⟩:=trodAll_cons hA;obtain⟨v1,vs1,d1,ds1,p1,q1,rfl,rfl,rfl,h1,r1⟩:=trodAll_cons r0;obtain⟨v2,vs2,d2,ds2,p2,q2,rfl,rfl,rfl,h2,r2⟩:=trodAll_cons r1;obtain⟨rfl,rfl,rfl⟩:=trodAll_nil r2;obtain rfl:args=#[v0,v1,v2]:=by cases args;simp_all
 have hgs:gs=[]:=(trodVars_none hV).1;refine law_calls (T:=4) Tryz.laidOut (by rw[params5];intro t ht;simp only[List.mem_cons,List.not_mem_nil,or_false]at ht;rcases ht with rfl|rfl|rfl<;>kernel_rfl) (by rw[params5];intro t ht;simp only[List.mem_cons,List.not_mem_nil,or_false]at ht;rcases ht with rfl|rfl|rfl<;>exact BK (by kernel_rfl)) rfl (by kernel_rfl) underlying4 hWk (by rw[hgs];rfl) ?_;exact ACo H enc W base _ _ gs _ hval hWk hk hx m hm
theorem lifted(os:Os)(started:os.Started)(H:Type)(enc:TypeId×Value->H):ReturnsInHanded {} checked os 5 .any (fun w args=>(Rows.machineGoesOnSpec.pre enc prog f5 [] false w args/\laidMetH prog Rows.machineGoesOnRow.laid w)/\sizedMet enc prog f5 (OpenSpec.ofChange Rows.machineGoesOnSpec) false w args) (Rows.machineGoesOnSpec.post enc prog f5 false true false false):=by
 refine J5 (C:=checked) (X:=fun w _=>laidMetH prog Rows.machineGoesOnRow.laid w) (fun _ _ _ hh h=>h.of_heap hh) Tryz.ownKnob started (by kernel_rfl) func5
  (ChangeSpec.witness_shaped (enc:=enc) (C:=checked) (os:=os) (X:=fun w _=>laidMetH prog Rows.machineGoesOnRow.laid w) false (World.laidAll prog os Rows.machineGoesOnRow.laid) #[.agg #[.bool false,.slice none 0 0,.slice none 0 0,.slice none 0 0,.slice none 0 0],.agg #[.int .u8 0,.slice none 0 0,.int .i64 0,.slice none 0 0,.slice none 0 0],.int .i64 0] 8 (World.laidAll_os _ _ _)
   (World.shaped_of_ZipB (by kernel_rfl) (by kernel_rfl)) (by kernel_rfl) (by kernel_rfl) (by kernel_rfl)
   (by rw[MakeChecks.laidMetH_plain _ _ _ (by kernel_rfl)];exact laidMet_laidAll _ (by kernel_rfl) (by kernel_rfl))) ?_
 intro W base args ds gs before hval hW hx hz hsh;obtain⟨m,hm⟩:=sV hsh;exact contract H enc W base args ds gs before hval hW hz hx m hm
theorem j0:(Rows.machineGoesOnRow.inPlace==prog.inPlace 5)=true:=by kernel_rfl
theorem j1:(Rows.machineGoesOnRow.unfollowed==prog.unfollowed 5)=true:=by kernel_rfl
theorem j2:(Rows.machineGoesOnRow.recurses==prog.recurses 5)=true:=by kernel_rfl
theorem j3:(Rows.machineGoesOnRow.named==prog.varsNamed 5)=true:=by kernel_rfl
theorem j4:(laidOutB prog)=true:=by kernel_rfl
theorem j5:(mapsRowed prog)=true:=by kernel_rfl
theorem j6:(prog.stops==[])=true:=by kernel_rfl
theorem j7:(prog.stopKnobs==[])=true:=by kernel_rfl
theorem j8:(prog.stopsHeard)=true:=by kernel_rfl
theorem j9:(prog.mayEnter)=true:=by kernel_rfl
theorem j10:(Rows.machineGoesOnRow.plainKeys==prog.plainKeys)=true:=by kernel_rfl
theorem j11:(Rows.machineGoesOnRow.lifted==prog.liftsFinal)=true:=by kernel_rfl
theorem facts:joinedFacts prog 5 f5 Rows.machineGoesOnSpec Rows.machineGoesOnRow=true:=by
 unfold joinedFacts;rw[j0,j1,j2,j3,j4,j5,j6,j7,j8,j9,j10,j11];kernel_rfl
theorem holds:Rows.MachineGoesOnSaid:=
 OpenClaim.holds_of_wide 5 f5 rfl rfl rfl rfl rfl rfl rfl ⟨rfl,rfl,rfl,rfl,rfl⟩ rfl rfl rfl rfl rfl (by kernel_rfl) func5 facts
  (BK (by kernel_rfl)) (by unfold Func.isWrapper;first|(rw[if_pos (by decide+kernel)];kernel_rfl)|(rw[if_neg (by decide+kernel)];exact⟨rfl,rfl⟩))
  (fun os started H enc _=>lifted os started H enc)
theorem proved:Rows.MachineGoesOnCardSaid:=
 Claim7.holds_tied_plain_at .later [] [.data,.data,.pinned] true (true, "c8b6cc4407bc1138b60c66af1eda1fd11cf706ba74662aa1eea4fca4a879b2a8") true holds (fun _ h=>by cases h) (by kernel_rfl) (fun _ h=>by cases h) machineGoesOn_row_tie rfl ⟨rfl,rfl⟩ (by kernel_rfl) rfl
  (fun f fn hf hfn=>by
   obtain rfl:f=5:=Option.some.inj ((show prog.funcNamed "lateen/lateenlaw16.MachineGoesOn" =some 5 by kernel_rfl).symm.trans hf)|>.symm;obtain rfl:fn=f5:=(Option.some.inj (func5.symm.trans hfn)).symm
   exact⟨by kernel_rfl,fun j t ht=>by
    rw[params5]at ht;have hm:t∈ [27,30,2]:=(by simpa using Array.mem_of_getElem? ht);have hall:([27,30,2].all fun u=> !prog.wantsStandIn u)=true:=by kernel_rfl
    exact(show prog.wantsStandIn t=false by simpa using List.all_eq_true.1 hall t hm)⟩)
  (by kernel_rfl)
#print axioms proved
end lawMachineGoesOn
end
end Go.Proofs.YtlffomedflegdaaGreatDoor
#print axioms Go.Proofs.YtlffomedflegdaaGreatDoor.lawMachineGoesOn.proved
