/- Part 20 of the proof: Te, Tf, Tg, Th, Ti, Tj, Tk, Tl, Tm, Line, LineB, LineC, Lin, LinA. -/
import Derived.Defers
import Derived.Recover
import Derived.Lib.SplitLaws
import Derived.Test.YtlffomedflegdaaGreatDoorPd19
set_option linter.all false
set_option maxHeartbeats 16000000
set_option maxRecDepth 100000
namespace Go.Proofs.YtlffomedflegdaaGreatDoor
open Go.Proofs.Tryz
open Go.RowKit
open Go.Value renaming int→cI,string→cS,slice→cY,bool→cE
open Go.IntKind renaming i64→cJ
open Option renaming some→cP,none→cX
open Bool renaming false→cA,true→cC
variable {B BB FB N R cap:Nat}{fi:Bool}{lg ln wh:Int}{q:Pg}{u:Value}{w w0:World}
section
open Word Num Dp
def PY(q:Pg)(ln wh:Int)(fi:Bool)(lg:Int):Dt:=.agg [Qk q,dN ln,dN wh,.cell (cE fi),dN lg]
structure Sr(w:World)(B N R:Nat)(q:Pg)(ln wh:Int)(fi:Bool)(lg:Int):Prop where
 own:Own w B N (PY q ln wh fi lg) R 0
 typ:DC w R 104
section
variable {w w1 : World} {B N R : Nat} {q q' : Pg} {ln wh lg : Int} {fi : Bool}
def Sr.kp(h:Sr w B N R q ln wh fi lg)(hb:AA6 w w1):Sr w1 B N R q ln wh fi lg:=⟨h.own.kp (hb.mono h.own.sz),DC.nx h.typ hb⟩
def Sr.Bw(h:Sr w B N R q ln wh fi lg)(i:Nat):w.frozen? ⟨R,i,cX⟩=cA:=DC.Bw h.typ i
theorem Sr.lt(h:Sr w B N R q ln wh fi lg):R<w.heap.size:=A9 h.own.lt h.own.sz
def Sr.bw(h:Sr w B N R q ln wh fi lg):B<=w.heap.size:=by have:=h.own.ge;have:=h.lt;omega
def Sr.sp(h:Sr w B N R q ln wh fi lg):Aq w B N (PY q ln wh fi lg) R 0 (Qk q) R 0 (λy=> .agg [y,dN ln,dN wh,.cell (cE fi),dN lg]):=by
 have s0:=h.own.spot;unfold PY at s0;exact s0.nth 0 rfl rfl
def Sr.s5(h:Sr w B N R q ln wh fi lg):Aq w B N (PY q ln wh fi lg) R 0 (dN ln) R 5 (λy=> .agg [Qk q,y,dN wh,.cell (cE fi),dN lg]):=by
 have s0:=h.own.spot;unfold PY at s0;have s1:=s0.nth 1 rfl (n:=5) (by simp[Dt.DF,Ig]);rw[Nat.zero_add]at s1;exact s1
def Sr.s6(h:Sr w B N R q ln wh fi lg):Aq w B N (PY q ln wh fi lg) R 0 (dN wh) R 6 (λy=> .agg [Qk q,dN ln,y,.cell (cE fi),dN lg]):=by
 have s0:=h.own.spot;unfold PY at s0;have s1:=s0.nth 2 rfl (n:=6) (by simp[Dt.DF,Dt.wd,Ig,dN]);rw[Nat.zero_add]at s1;exact s1
def Sr.s7(h:Sr w B N R q ln wh fi lg):Aq w B N (PY q ln wh fi lg) R 0 (.cell (cE fi)) R 7 (λy=> .agg [Qk q,dN ln,dN wh,y,dN lg]):=by
 have s0:=h.own.spot;unfold PY at s0;have s1:=s0.nth 3 rfl (n:=7) (by simp[Dt.DF,Dt.wd,Ig,dN]);rw[Nat.zero_add]at s1;exact s1
def Sr.s8(h:Sr w B N R q ln wh fi lg):Aq w B N (PY q ln wh fi lg) R 0 (dN lg) R 8 (λy=> .agg [Qk q,dN ln,dN wh,.cell (cE fi),y]):=by
 have s0:=h.own.spot;unfold PY at s0;have s1:=s0.nth 4 rfl (n:=8) (by simp[Dt.DF,Dt.wd,Ig,dN]);rw[Nat.zero_add]at s1;exact s1
theorem Sr.c6(h:Sr w B N R q ln wh fi lg):w.cell? ⟨R,6,cX⟩=cP (cI cJ wh):=Aq.cell h.s6
theorem Sr.c5(h:Sr w B N R q ln wh fi lg):w.cell? ⟨R,5,cX⟩=cP (cI cJ ln):=Aq.cell h.s5
def Sr.c7(h:Sr w B N R q ln wh fi lg):w.cell? ⟨R,7,cX⟩=cP (cE fi):=Aq.cell h.s7
def Sr.c8(h:Sr w B N R q ln wh fi lg):w.cell? ⟨R,8,cX⟩=cP (cI cJ lg):=Aq.cell h.s8
def Sr.low(h:Sr w B N R q ln wh fi lg)(v:Value)(i:Nat):Below B w (w.setCell ⟨R,i,cX⟩ v):=(AL).setCell h.own.ge v
def KpR(w w':World):Prop:=∀r,DC w r 102->w'.heap[r]? =w.heap[r]?
structure Dr(B:Nat)(w w':World):Prop where
 b:Below B w w'
 k:KpR w w'
def Dr.trans{w2:World}(h:Dr B w w1)(h2:Dr B w1 w2):Dr B w w2:=⟨h.b.trans h2.b,λr hr=>by
 obtain⟨cur,e⟩:=hr
 exact(h2.k r ⟨cur,(h.k r ⟨cur,e⟩).trans e⟩).trans (h.k r ⟨cur,e⟩)⟩
def Dr.of(hb:AA6 w w1)(hB:B<=w.heap.size):Dr B w w1:=⟨hb.mono hB,λr hr=>by
 obtain⟨cur,e⟩:=hr
 exact hb.block r (Array.getElem?_eq_some_iff.1 e).1⟩
def T9{T1 T2:TypeId}{r g:Nat}(h1:DC w r T1)(h2:DC w g T2)(hne:T1≠T2):r≠g:=λe=>by
 obtain⟨c1,h1⟩:=h1;obtain⟨c2,h2⟩:=h2;rw[e,h2]at h1;injection h1 with h1;injection h1 with _ h1 _;exact hne h1.symm
def Sr.Te(h:Sr w B N R q ln wh fi lg)(v:Value)(i:Nat):Dr B w (w.setCell ⟨R,i,cX⟩ v):=⟨h.low v i,λr hr=>Below.heap_setCell _ _ _ _ (T9 hr h.typ (by decide))⟩
def Sr.iR(h:Sr w B N R q ln wh fi lg)(i:Nat)(v:Value):DC (w.setCell ⟨R,i,cX⟩ v) R 104:=by
 obtain⟨cur,ht⟩:=h.typ;exact Ew ht _ _
def Sr.iW(h:Sr w B N R q ln wh fi lg)(n:Int):Sr (w.setCell ⟨R,5,cX⟩ (cI cJ n)) B N R q n wh fi lg:=⟨h.s5.set1 (v1:=cI cJ n) rfl,h.iR _ _⟩
def Sr.Wj(h:Sr w B N R q ln wh fi lg)(n:Int):Sr (w.setCell ⟨R,6,cX⟩ (cI cJ n)) B N R q ln n fi lg:=⟨h.s6.set1 (v1:=cI cJ n) rfl,h.iR _ _⟩
def Sr.qI(h:Sr w B N R q ln wh fi lg)(b:Bool):Sr (w.setCell ⟨R,7,cX⟩ (cE b)) B N R q ln wh b lg:=⟨h.s7.set1 (v1:=cE b) rfl,h.iR _ _⟩
def Sr.iV(h:Sr w B N R q ln wh fi lg)(n:Int):Sr (w.setCell ⟨R,8,cX⟩ (cI cJ n)) B N R q ln wh fi n:=⟨h.s8.set1 (v1:=cI cJ n) rfl,h.iR _ _⟩
def Sr.row{α:Type}{enc:α->Dt}{e:TypeId}{s i:Nat}{l:List α}(h:Sr w B N R q ln wh fi lg)(l0:List Dt)(hl0:Qk q=.agg l0)(hi:l0[i]? =cP (.row e s (l.map enc)))(hw:Dt.DF (l0.take i)=i):∃v xs,w.cell? ⟨R,i,cX⟩=cP v/\w.ownsRow B e s v l.length xs/\(∃p c,v=cY p l.length c)/\Aq w B N (PY q ln wh fi lg) R 0 (.row e s (l.map enc)) R i (λy=> .agg [.agg (l0.set i y),dN ln,dN wh,.cell (cE fi),dN lg]):=by
 have s0:=h.sp;rw[hl0]at s0;have s1:=s0.nth i hi hw;rw[Nat.zero_add]at s1;obtain⟨v,xs,h1,h2,h3⟩:=s1.owns;rw[List.length_map]at h2 h3;exact⟨v,xs,h1,h2,h3,s1⟩
end
theorem Ad.sr{W:World}{bs ap st s n g0 o0:Nat}{e:TypeId}{one xs:List Value}{v:Value}{V:Nat->Value}{L:Nat->Bool}{q':Pg}{l:List Dt}{d:Dt}{F:Dt->Dt}(h:Ad W B e s bs ap st one n xs v ⟨g0,o0,cX⟩ V L w) (ha:L ap=cC) (hst:L st=cC) (hR:Sr W B N R q ln wh fi lg) (h0:Aq W B N (PY q ln wh fi lg) R 0 (.row e s l) g0 o0 F) (hc:W.cell? ⟨g0,o0,cX⟩=cP v) (hx:W.ownsRow B e s v n xs) (hn:n=l.length) (he:104≠e)(hd:∀w1 pb,AA6 W w1->Ae w1 pb one->∃fd,Af w1 N d pb 0 fd/\fd.Nodup) (hdw:d.wd=s) (h1:one.length=s) {T:TypeId} (hG:DC W g0 T) (hT:102≠T) (he2:102≠e) (hF:F (.row e s (l++[d]))=PY q' ln wh fi lg):Sr w B w.heap.size R q' ln wh fi lg/\Dr B W w:=by
 obtain⟨⟨N',ho⟩,hb,-,w2,u,hw,hg2⟩:=h.done ha hst h0 (AL) hc hx hn (λw1 pb a1 a2 a3 a4=>hd w1 pb a1 a4) hdw h1;have hown:v.ownBlock≠cP R:=own_ne hx hR.typ he;have hKK:KpR W w:=λr hr=>h.far ha hst (T9 hr hG hT) (own_ne hx hr he2) (by obtain⟨cur,e⟩:=hr;exact(Array.getElem?_eq_some_iff.1 e).1);refine⟨⟨(hF▸ho).up ho.sz (AQ),?_⟩,⟨hb,hKK⟩⟩;obtain⟨cur,ht⟩:=hR.typ;by_cases hg:g0=R
 ·subst hg hw;exact Ew (hg2.trans ht) _ _
 ·exact⟨cur,(h.far ha hst (λe=>hg e.symm) hown hR.lt).trans ht⟩
abbrev q0P:Pg:=⟨cA,[],[],[],[]⟩
abbrev wF:ByteArray:=⟨#[102]⟩
abbrev CG:ByteArray:=⟨#[105,110,116]⟩
abbrev Q7:ByteArray:=⟨#[102,117,110,99]⟩
abbrev q1P:Pg:=⟨cA,[],[],[],[⟨wF,CG,[],[],[]⟩]⟩
def K6(B R:Nat)(q:Pg)(ln wh:Int)(fi:Bool)(lg:Int)(e:Ending)(w':World):Prop:=e=.returned (.tuple #[])/\∃N',Sr w' B N' R q ln wh fi lg
theorem Xa(h0:AA6 w0 w)(hR:Sr w B N R q0P ln 0 fi (-1))(hB:w0.heap.size<=B)(hl:Row DL 1 w0 u [Q7,wF,CG]):Calls prog 106 #[.pointer (cP ⟨R,0,cX⟩),u] w λe w'=>K6 B R q1P ln 2 fi 0 e w'/\Dr B w w':=by
 obtain⟨a,d1,d2,c,rfl⟩:∃a,w0.cell? ⟨a.block,a.off+1,cX⟩=cP (cS wF)/\w0.cell? ⟨a.block,a.off+2,cX⟩=cP (cS CG)/\∃c,u=cY (cP a) 3 c:=by
  obtain⟨p,c,rfl⟩:=hl.slice;obtain⟨a,rfl,e1⟩:=BQ hl (q:=0) (by decide);obtain⟨a',ea,e2⟩:=BQ hl (q:=1) (by decide);obtain rfl:a=a':=by simpa using ea
  exact⟨a,e1,e2,c,rfl⟩
 have hag:a.block<B:=A9 (World.block_lt_of_cell? _ ⟨a.block,a.off+1,cX⟩ d1) hB;have hBw:=hR.bw;have hb1:=AJ w (.cells #[cI cJ 0,cI cJ 1] 3);have hX:=Ae.alloc w [cI cJ 0,cI cJ 1] 3;have Jc:=hR.kp hb1;have h1:=AB h0 hb1;have qC:=E5 (R:=R) (l:=[0,1]) hX 0 (by decide) (by decide) Jc.c6;have hM:=λw=>Ef w;go_enter func106,ntmps106;go_upto_region 2 with(first|(refine qC.mono ?_;rintro e w2 ⟨rfl,rfl⟩)|(refine(hM _).mono ?_;rintro e w2 ⟨rfl,rfl⟩))
 generalize Cr:w.alloc _=W at*;have hN:=λw=>KU wF (by decide) w;have hKd:=λw=>OY w;have e1:=AA h1 d1;have e2:=AA h1 d2;go_wp2;refine ALR (S:=Ck W 9 10 [cS ⟨#[]⟩,cS ⟨#[]⟩,cY cX 0 0,cY cX 0 0,cY cX 0 0] [cS wF,cS CG,cY cX 0 0,cY cX 0 0,cY cX 0 0]) (Ck.start Ac) ?_;iterate 9(first|(refine AU.f (λz=>z.s.keep rfl rfl) (λz=>ALS (AA z.s.1 e1) (AA z.s.1 e2)) ?_)|(apply AU.y rfl;intro V L w1 _ _ z hK;go_simp;go_wp2_with((first|(refine(hN _).mono ?_;rintro e w2 ⟨rfl,rfl⟩)|(refine(hKd _).mono ?_;rintro e w2 ⟨rfl,rfl⟩)));(try simp only[pE]);exact hK.out _ (z.s.keep rfl rfl);intros;rfl))
 (apply AU.w rfl;intro V L w1 _ _ _ z hK;go_simp;exact hK rfl (z.s.made rfl z.i _);(try simp only[pE]));refine AU.val undef (λ_=>rfl) (λV L w1 K' Q' hS hi hR' hd hK=>?_) ?_
 ·have hl:=hd.out 9 (by kernel_rfl);obtain⟨pb,hp,hp0,hp1,hx⟩:=hS.at hl hi;obtain⟨k0,k1,k2,k3,k4⟩:=hx.c5;obtain⟨f0,f1,f2,f3,f4⟩:=hx.f5;go_simp;exact hK.out _ _ (by simp only[hp];rfl) (hS.fill hl hp hp0 (by first|(rw[DK];exact hp1)|simpa using hp1) (hS.1.trans (Ay hp0 [cS wF,cS CG,cY cX 0 0,cY cX 0 0,cY cX 0 0] 0 w1)) (CK [cS wF,cS CG,cY cX 0 0,cY cX 0 0,cY cX 0 0] _ 0 w1 hx rfl) rfl)
 simp only[Act.put];refine AU.nil λV w2 hS=>?_;obtain⟨pb,hpb,hp0,hp1,hxb⟩:=hS.done rfl rfl;have hb2:=hS.1;simp only[hpb];have hR2:=Jc.kp hb2;have ADl:w0.heap.size<=pb/\N<=pb:=⟨by have:=h1.size;have:=hb2.size;omega,by have:=Jc.own.sz;omega⟩;have BO:=hR2.kp (Below.refl w2.heap.size w2).drew;have hsr:=BO.row (α:=Fn) (enc:=dFn) (e:=66) (s:=5) (i:=4) (l:=[]) _ rfl rfl (by decide);have Db:Dr B w w2:=Dr.of (AB hb1 hb2) hBw;have Nr:B<=w2.heap.size:=hR2.bw;obtain⟨vc,xs,hc,hox,⟨pc,cc,rfl⟩,hsp⟩:=hsr;rw[show([]:List Fn).length=0 from rfl]at hc hox;have EY:(cY pc 0 cc).ownBlock≠cP R:=own_ne hox BO.typ (by decide);have IG:(cY pc 0 cc).ownBlock≠cP pb:=λh=>by have:=hsp.JI hc h;omega
 have hc':w2.cell? ⟨R,4,cX⟩=cP (cY pc 0 cc):=hc;have pQ:=λw=>Hg 0 8 (by decide) w;go_upto_region 4 with((refine(pQ _).mono ?_;rintro e w2 ⟨rfl,rfl⟩))
 have hsz2:w2.drew.heap.size=w2.heap.size:=rfl;obtain⟨xC,xB,h2p,h3p,h4p⟩:=hxb.c5;refine ALR (S:=Ad w2.drew B 66 5 7 8 12 [cS wF,cS CG,cY cX 0 0,cY cX 0 0,cY cX 0 0] 0 xs (cY pc 0 cc) ⟨R,4,cX⟩) (Ad.start (AL)) ?_;iterate 7((refine AU.f (λz=>z.s.keep rfl rfl rfl) (λz=>have hs:=z.f 12;ALS (z.s.cellOf hs hc EY) (ALS (z.s.cellOf hs xC IG) (ALS (z.s.cellOf hs xB IG) (ALS (z.s.cellOf hs h2p IG) (ALS (z.s.cellOf hs h3p IG) (z.s.cellOf hs h4p IG)))))) ?_))
 (apply AU.w rfl;intro V L w1 _ _ _ z hK;go_simp;exact hK rfl (z.s.made (z.o 8) rfl _);(try simp only[pE]));(refine Ad.aq (ACO) (underlying25) (hox) ?_;(try simp only[pE]));iterate 3((refine AU.f (λz=>z.s.keep rfl rfl rfl) (λz=>z.s.cellOf (z.f 12) hc EY) ?_))
 (refine Ad.sv (λhS hi=>ALS (hS.cellOf hi hc EY) (hS.EA hi (o:=4) BO.lt (BO.Bw 4) EY)) ?_;simp only[Act.put]);refine AU.nil λV w1 hS=>?_;obtain⟨Dc,hb4⟩:=hS.sr (d:=dFn ⟨wF,CG,[],[],[]⟩) (q':=q1P) rfl rfl BO hsp hc hox rfl (by decide) (λw1 pb hlow hx=>⟨[]++([]++([]++[])),Af.of (AP.cc (hx.c 0 _ rfl) rfl (AP.cc (hx.c 1 _ rfl) rfl (AP.cr (l:=[]) (hx.c 2 _ rfl) AZ.nil (AP.cr (l:=[]) (hx.c 3 _ rfl) AZ.nil (AP.cr (l:=[]) (hx.c 4 _ rfl) AZ.nil AP.cn))))),by simp⟩) rfl rfl BO.typ (by decide) (by decide) rfl;have hb5:=(Db.trans (Dr.of (Below.refl w2.heap.size w2).drew Nr)).trans hb4;have c6:=Dc.c6;have f6:=Dc.Bw 6;have CS:=Dc.Wj 2;have hb6:=hb5.trans (Dc.Te (cI cJ 2) 6);have c8:=CS.c8;have f8:=CS.Bw 8;have ES:=CS.iV 0;have BJ:=hb6.trans (CS.Te (cI cJ 0) 8);go_wp2;go_end0;exact⟨⟨rfl,_,ES⟩,BJ⟩
end
section
open Word Num Dp
abbrev q2P:Pg:=⟨cA,[],[],[],[⟨wF,CG,[⟨wK,CG⟩],[],[]⟩]⟩
abbrev ML:ByteArray:=⟨#[112,97,114,97,109]⟩
section
variable {w w1 : World} {B N R : Nat} {q q' : Pg} {ln wh lg : Int} {fi : Bool}
structure SrF(w:World)(B N R:Nat)(q:Pg)(ln wh:Int)(fi:Bool)(lg:Int)(f:Fn)(FB cap:Nat):Prop where
 lc:w.cell? ⟨R,4,cX⟩=cP (cY (cP ⟨FB,0,cX⟩) 1 cap)
 lt:DC w FB 66
 sp:∃F,Aq w B N (PY q ln wh fi lg) R 0 (dFn f) FB 0 F/\∀f',F (dFn f')=PY {q with fs:=[f']} ln wh fi lg
theorem Sr.f(h:Sr w B N R q ln wh fi lg){f:Fn}(hq:q.fs=[f]):∃FB cap,SrF w B N R q ln wh fi lg f FB cap:=by
 obtain⟨v,xs,h1,h2,-,s1⟩:=h.row (α:=Fn) (enc:=dFn) (e:=66) (s:=5) (i:=4) (l:=q.fs) [.cell (cE q.ssa),.row 153 2 (q.cs.map gP),.row 71 2 (q.gs.map IQ),.row 155 2 (q.xs.map nS),.row 66 5 (q.fs.map dFn)] rfl rfl rfl;rw[hq]at s1;obtain⟨FB,cap,a1,a2,-,a3⟩:=Gi (l1:=[]) (l2:=[]) s1;exact⟨FB,cap,a1,a2,_,a3,λf'=>rfl⟩
structure nV(w:World)(B N R:Nat)(q:Pg)(ln wh:Int)(fi:Bool)(lg:Int)(f:Fn)(FB:Nat)(b:Bk)(BB cap:Nat):Prop where
 lc:w.cell? ⟨FB,4,cX⟩=cP (cY (cP ⟨BB,0,cX⟩) 1 cap)
 lt:DC w BB 82
 sp:∃F,Aq w B N (PY q ln wh fi lg) R 0 (Pb b) BB 0 F/\∀b',F (Pb b')=PY {q with fs:=[{f with bs:=[b']}]} ln wh fi lg
theorem SrF.b{f:Fn}(h:SrF w B N R q ln wh fi lg f FB cap){b:Bk}(hb:f.bs=[b]):∃BB cap2,nV w B N R q ln wh fi lg f FB b BB cap2:=by
 obtain⟨F,s0,hF⟩:=h.sp;have s1:=Aq.nth (l:=[dS f.n,dS f.r,.row 71 2 (f.ps.map IQ),.row 71 2 (f.vs.map IQ),.row 82 9 (f.bs.map Pb)]) s0 4 rfl (n:=4) (by simp[Dt.DF,Dt.wd,dS]);rw[hb,Nat.zero_add]at s1;obtain⟨BB,cap2,a1,a2,-,a3⟩:=Gi (l1:=[]) (l2:=[]) s1;exact⟨BB,cap2,a1,a2,_,a3,λb'=>hF {f with bs:=[b']}⟩
end
def AA0(FB:Nat)(e:Ending):Prop:=e=.returned (.pointer (cP ⟨FB,0,cX⟩))
theorem Mh(hc:w.cell? ⟨R,4,cX⟩=cP (cY (cP ⟨FB,0,cX⟩) 1 cap)):Calls prog 159 #[.pointer (cP ⟨R,0,cX⟩)] w λe w'=>AA0 FB e/\AA6 w w':=by
 go_enter func159,ntmps159;go_wp2;refine ALQ (S:=λ_ v=>AA6 w v) Ac ?_;iterate 14((refine Ab.f (λz=>z.s) (λz=>AA z.s hc) ?_))
 refine Ab.nil λw4 Bb=>?_;go_wp2;go_ret;exact⟨rfl,Bb⟩
theorem UR(h0:AA6 w0 w)(hR:Sr w B N R q1P ln 2 fi 0)(hB:w0.heap.size<=B)(hl:Row DL 1 w0 u [ML,wK,CG]):Calls prog 107 #[.pointer (cP ⟨R,0,cX⟩),u] w λe w'=>K6 B R q2P ln 2 fi 0 e w'/\Dr B w w':=by
 obtain⟨a,d1,d2,c,rfl⟩:∃a,w0.cell? ⟨a.block,a.off+1,cX⟩=cP (cS wK)/\w0.cell? ⟨a.block,a.off+2,cX⟩=cP (cS CG)/\∃c,u=cY (cP a) 3 c:=by
  obtain⟨p,c,rfl⟩:=hl.slice;obtain⟨a,rfl,e1⟩:=BQ hl (q:=0) (by decide);obtain⟨a',ea,e2⟩:=BQ hl (q:=1) (by decide);obtain rfl:a=a':=by simpa using ea
  exact⟨a,e1,e2,c,rfl⟩
 have hag:a.block<B:=A9 (World.block_lt_of_cell? _ ⟨a.block,a.off+1,cX⟩ d1) hB;have hBw:=hR.bw;have hb1:=AJ w (.cells #[cI cJ 2] 3);have hX:=Ae.alloc w [cI cJ 2] 3;have Jc:=hR.kp hb1;have h1:=AB h0 hb1;have qC:=E5 (R:=R) (l:=[2]) hX 2 (by decide) (by decide) Jc.c6;have hM:=λw=>Ef w;go_enter func107,ntmps107;go_upto_region 2 with(first|(refine qC.mono ?_;rintro e w2 ⟨rfl,rfl⟩)|(refine(hM _).mono ?_;rintro e w2 ⟨rfl,rfl⟩))
 generalize Cr:w.alloc _=W at*;have hN:=λw=>KU wK (by decide) w;have hKd:=λw=>OY w;have e1:=AA h1 d1;have e2:=AA h1 d2;go_wp2;refine ALR (S:=Ck W 9 10 [cS ⟨#[]⟩,cS ⟨#[]⟩] [cS wK,cS CG]) (Ck.start Ac) ?_;iterate 9(first|(refine AU.f (λz=>z.s.keep rfl rfl) (λz=>ALS (AA z.s.1 e1) (AA z.s.1 e2)) ?_)|(apply AU.y rfl;intro V L w1 _ _ z hK;go_simp;go_wp2_with((first|(refine(hN _).mono ?_;rintro e w2 ⟨rfl,rfl⟩)|(refine(hKd _).mono ?_;rintro e w2 ⟨rfl,rfl⟩)));(try simp only[pE]);exact hK.out _ (z.s.keep rfl rfl);intros;rfl))
 (apply AU.w rfl;intro V L w1 _ _ _ z hK;go_simp;exact hK rfl (z.s.made rfl z.i _);(try simp only[pE]));refine AU.val undef (λ_=>rfl) (λV L w1 K' Q' hS hi hR' hd hK=>?_) ?_
 ·have hl:=hd.out 9 (by kernel_rfl);obtain⟨pb,hp,hp0,hp1,hx⟩:=hS.at hl hi;obtain⟨k0,k1⟩:=hx.c2;obtain⟨f0,f1⟩:=hx.f2;go_simp;exact hK.out _ _ (by simp only[hp];rfl) (hS.fill hl hp hp0 (by first|(rw[DK];exact hp1)|simpa using hp1) (hS.1.trans (Ay hp0 [cS wK,cS CG] 0 w1)) (CK [cS wK,cS CG] _ 0 w1 hx rfl) rfl)
 simp only[Act.put];refine AU.nil λV w2 hS=>?_;obtain⟨pb,hpb,hp0,hp1,hxb⟩:=hS.done rfl rfl;have hb2:=hS.1;simp only[hpb];have ADl:N<=pb:=by have:=Jc.own.sz;omega
 have hR2:=Jc.kp hb2;obtain⟨FB,cap,Lr⟩:=hR2.f (f:=⟨wF,CG,[],[],[]⟩) rfl;have hFu:=Mh Lr.lc;have WR:=Lr.lc;have Db:Dr B w w2:=Dr.of (AB hb1 hb2) hBw;have Nr:B<=w2.heap.size:=hR2.bw;go_wp2_with fail;refine hFu.mono ?_;rintro e w3 ⟨rfl,hb3⟩;obtain⟨wz,rfl⟩:=again w3;replace hR2:=hR2.kp hb3;replace hxb:=hxb.nx hb3;replace Db:=Db.trans (Dr.of hb3 Nr);replace WR:=AA hb3 WR;replace Nr:=hR2.bw;have BO:=hR2.kp (Below.refl wz.heap.size wz).drew;obtain⟨vo,cap2,Lr⟩:=BO.f (f:=⟨wF,CG,[],[],[]⟩) rfl;obtain rfl:FB=vo:=by
  have e1:=Lr.lc;have e0:wz.cell? ⟨R,4,cX⟩=cP (cY (cP ⟨FB,0,cX⟩) 1 cap):=WR;rw[show wz.drew.cell? ⟨R,4,cX⟩=wz.cell? ⟨R,4,cX⟩from rfl,e0]at e1;injection e1 with e1;injection e1 with e1;injection e1 with e1;injection e1
 have LP:=Lr.lt;obtain⟨F,hs0,hF⟩:=Lr.sp;have hsp:=Aq.nth (l:=[dS wF,dS CG,.row 71 2 ([].map IQ),.row 71 2 ([].map IQ),.row 82 9 ([].map Pb)]) hs0 2 rfl (n:=2) (by simp[Dt.DF,Dt.wd,dS]);rw[Nat.zero_add]at hsp;obtain⟨vc,xs,hc,hox,pc,cc,rfl⟩:=hsp.owns;rw[show(([]:List Vr).map IQ).length=0 from rfl]at hc hox;have hc0:wz.cell? ⟨FB,2,cX⟩=cP (cY pc 0 cc):=hc;have EK:(cY pc 0 cc).ownBlock≠cP FB:=own_ne hox LP (by decide);have IG:(cY pc 0 cc).ownBlock≠cP pb:=λh=>by have:=hsp.JI hc h;omega
 have pQ:=λw=>Hg 0 6 (by decide) w;obtain⟨xC,xB⟩:=hxb.c2;have hsz2:wz.drew.heap.size=wz.heap.size:=rfl;go_upto_region 5 with((refine(pQ _).mono ?_;rintro e w2 ⟨rfl,rfl⟩))
 refine ALR (S:=Ad wz.drew B 71 2 6 7 10 [cS wK,cS CG] 0 xs (cY pc 0 cc) ⟨FB,2,cX⟩) (Ad.start (AL)) ?_;iterate 6((refine AU.f (λz=>z.s.keep rfl rfl rfl) (λz=>have hs:=z.f 10;ALS (z.s.cellOf hs hc EK) (ALS (z.s.cellOf hs xC IG) (z.s.cellOf hs xB IG))) ?_))
 (apply AU.w rfl;intro V L w1 _ _ _ z hK;go_simp;exact hK rfl (z.s.made (z.o 7) rfl _);(try simp only[pE]));(refine Ad.aq (Q9) (underlying23) (hox) ?_;(try simp only[pE]));iterate 2((refine AU.f (λz=>z.s.keep rfl rfl rfl) (λz=>z.s.cellOf (z.f 10) hc EK) ?_))
 (refine Ad.sv (λhS hi=>ALS (hS.cellOf hi hc EK) (hS.EA hi (o:=2) LP.lt (LP.Bw _) EK)) ?_;simp only[Act.put]);refine AU.nil λV w1 hS=>?_;obtain⟨Dc,hb4⟩:=hS.sr (d:=IQ ⟨wK,CG⟩) (q':=q2P) rfl rfl BO hsp hc hox rfl (by decide) (λw1 pb hlow hx=>⟨[],Af.of (AP.cc (hx.c 0 _ rfl) rfl (AP.cc (hx.c 1 _ rfl) rfl AP.cn)),by simp⟩) rfl rfl LP (by decide) (by decide) (hF ⟨wF,CG,[⟨wK,CG⟩],[],[]⟩);have hb5:=(Db.trans (Dr.of (Below.refl wz.heap.size wz).drew Nr)).trans hb4;go_wp2;go_end0;exact⟨⟨rfl,_,Dc⟩,hb5⟩
end
section
open Word Num Dp
abbrev wA:ByteArray:=⟨#[97]⟩
abbrev MN:ByteArray:=⟨#[98,108,111,99,107]⟩
abbrev tm0:Tm:=⟨0,⟨0,⟨#[]⟩,0⟩,[],0⟩
abbrev WW(b:Bk):Fn:=⟨wF,CG,[⟨wK,CG⟩],[],[b]⟩
abbrev gX(b:Bk):Pg:=⟨cA,[],[],[],[WW b]⟩
abbrev Yz:Bk:=⟨wA,[],[],tm0⟩
theorem UO(h0:AA6 w0 w)(hR:Sr w B N R q2P ln 2 fi 0)(hB:w0.heap.size<=B)(hl:Row DL 1 w0 u [MN,wA]):Calls prog 109 #[.pointer (cP ⟨R,0,cX⟩),u] w λe w'=>K6 B R (gX Yz) ln 4 fi 0 e w'/\Dr B w w':=by
 obtain⟨a,d1,c,rfl⟩:∃a,w0.cell? ⟨a.block,a.off+1,cX⟩=cP (cS wA)/\∃c,u=cY (cP a) 2 c:=by
  obtain⟨p,c,rfl⟩:=hl.slice;obtain⟨a,rfl,e1⟩:=BQ hl (q:=0) (by decide);exact⟨a,e1,c,rfl⟩
 have hag:a.block<B:=A9 (World.block_lt_of_cell? _ ⟨a.block,a.off+1,cX⟩ d1) hB;have hBw:=hR.bw;have hM:=λw=>Ef w;have hN:=λw=>KU wA (by decide) w;have e1:=AA h0 d1;have c6:=hR.c6;go_enter func109,ntmps109;go_wp2_with fail;refine(hM _).mono ?_;rintro e w2 ⟨rfl,rfl⟩;go_wp2_with fail;refine(hM _).mono ?_;rintro e w2 ⟨rfl,rfl⟩;go_wp2_with fail;refine(hN _).mono ?_;rintro e w2 ⟨rfl,rfl⟩;go_wp2_with fail;have hb1:=AJ w (.cells #[cS wA,cY cX 0 0,cY cX 0 0,cI cJ 0,cI cJ 0,cS ⟨#[]⟩,cI cJ 0,cY cX 0 0,cI cJ 0] 82);have hxb:=Ae.alloc w [cS wA,cY cX 0 0,cY cX 0 0,cI cJ 0,cI cJ 0,cS ⟨#[]⟩,cI cJ 0,cY cX 0 0,cI cJ 0] 82;have AJP:=hR.own.sz;have hR2:=hR.kp hb1;generalize Cr:w.alloc _=w2 at*;obtain⟨FB,cap,Lr⟩:=hR2.f (f:=⟨wF,CG,[⟨wK,CG⟩],[],[]⟩) rfl;have hFu:=Mh Lr.lc;have WR:=Lr.lc;have hBz:B<=w2.heap.size:=AX hBw hb1.size;have J8:Dr B w w2:=Dr.of hb1 hBw;generalize hpe:w.heap.size=pb at*;refine hFu.mono ?_;rintro e w3 ⟨rfl,hb3⟩;obtain⟨wz,rfl⟩:=again w3;replace hR2:=hR2.kp hb3;replace hxb:=hxb.nx hb3;have Db:=J8.trans (Dr.of hb3 hBz);have Nr:=hR2.bw;replace WR:=AA hb3 WR;have BO:=hR2.kp (Below.refl wz.heap.size wz).drew;obtain⟨vo,cap2,Lr⟩:=BO.f (f:=⟨wF,CG,[⟨wK,CG⟩],[],[]⟩) rfl;obtain rfl:FB=vo:=by
  have e1:=Lr.lc;have e0:wz.cell? ⟨R,4,cX⟩=cP (cY (cP ⟨FB,0,cX⟩) 1 cap):=WR;rw[show wz.drew.cell? ⟨R,4,cX⟩=wz.cell? ⟨R,4,cX⟩from rfl,e0]at e1;injection e1 with e1;injection e1 with e1;injection e1 with e1;injection e1
 have LP:=Lr.lt;obtain⟨F,hs0,hF⟩:=Lr.sp;have hsp:=Aq.nth (l:=[dS wF,dS CG,.row 71 2 ([⟨wK,CG⟩].map IQ),.row 71 2 ([].map IQ),.row 82 9 ([].map Pb)]) hs0 4 rfl (n:=4) (by simp[Dt.DF,Dt.wd,dS]);rw[Nat.zero_add]at hsp;obtain⟨vc,xs,hc,hox,pc,cc,rfl⟩:=hsp.owns;rw[show(([]:List Bk).map Pb).length=0 from rfl]at hc hox;have hc0:wz.cell? ⟨FB,4,cX⟩=cP (cY pc 0 cc):=hc;have EK:(cY pc 0 cc).ownBlock≠cP FB:=own_ne hox LP (by decide);have IG:(cY pc 0 cc).ownBlock≠cP pb:=λh=>by have:=hsp.JI hc h;omega
 have pQ:=λw=>Hg 0 256 (by decide) w;obtain⟨xC,xB,h2p,h3p,h4p,h5p,h6p,h7p,h8p⟩:=hxb.c9;have hsz2:wz.drew.heap.size=wz.heap.size:=rfl;go_wp2_with fail;refine(pQ _).mono ?_;rintro e w2 ⟨rfl,rfl⟩;go_wp2;refine ALR (S:=Ad wz.drew B 82 9 6 7 10 [cS wA,cY cX 0 0,cY cX 0 0,cI cJ 0,cI cJ 0,cS ⟨#[]⟩,cI cJ 0,cY cX 0 0,cI cJ 0] 0 xs (cY pc 0 cc) ⟨FB,4,cX⟩) (Ad.start (AL)) ?_;iterate 6((refine AU.f (λz=>z.s.keep rfl rfl rfl) (λz=>have hs:=z.f 10;ALS (z.s.cellOf hs hc EK) (ALS (z.s.cellOf hs xC IG) (ALS (z.s.cellOf hs xB IG) (ALS (z.s.cellOf hs h2p IG) (ALS (z.s.cellOf hs h3p IG) (ALS (z.s.cellOf hs h4p IG) (ALS (z.s.cellOf hs h5p IG) (ALS (z.s.cellOf hs h6p IG) (ALS (z.s.cellOf hs h7p IG) (z.s.cellOf hs h8p IG)))))))))) ?_))
 (apply AU.w rfl;intro V L w1 _ _ _ z hK;go_simp;exact hK rfl (z.s.made (z.o 7) rfl _);(try simp only[pE]));(refine Ad.aq (ny) (underlying64) (hox) ?_;(try simp only[pE]));iterate 2((refine AU.f (λz=>z.s.keep rfl rfl rfl) (λz=>z.s.cellOf (z.f 10) hc EK) ?_))
 (refine Ad.sv (λhS hi=>ALS (hS.cellOf hi hc EK) (hS.EA hi (o:=4) LP.lt (LP.Bw _) EK)) ?_;simp only[Act.put]);refine AU.nil λV w1 hS=>?_;obtain⟨Dc,hb4⟩:=hS.sr (d:=Pb Yz) (q':=gX Yz) rfl rfl BO hsp hc hox rfl (by decide) (λw1 pb hlow hx=>⟨[]++([]++(([]++[])++[])),Af.of (AP.cc (hx.c 0 _ rfl) rfl (AP.cr (l:=[]) (hx.c 1 _ rfl) AZ.nil (AP.cr (l:=[]) (hx.c 2 _ rfl) AZ.nil (AP.ca (l:=[dN 0,Ls ⟨0,⟨#[]⟩,0⟩,.row 9 1 [],dN 0]) (Pz (x:=⟨0,⟨0,⟨#[]⟩,0⟩,[],0⟩) (hx.c 3 _ rfl) (hx.c 4 _ rfl) (hx.c 5 _ rfl) (hx.c 6 _ rfl) (hx.c 7 _ rfl) (hx.c 8 _ rfl) AZ.nil).l AP.cn)))),by simp⟩) rfl rfl LP (by decide) (by decide) (hF (WW Yz));have hb5:=(Db.trans (Dr.of (Below.refl wz.heap.size wz).drew Nr)).trans hb4;have c6:=Dc.c6;have f6:=Dc.Bw 6;have CS:=Dc.Wj 4;have hb6:=hb5.trans (Dc.Te (cI cJ 4) 6);go_wp2_with fail;go_end0;exact⟨⟨rfl,_,CS⟩,hb6⟩
end
section
open Word Num Dp
def AA1(BB:Nat)(e:Ending):Prop:=e=.returned (.pointer (cP ⟨BB,0,cX⟩))
theorem NC{cap2:Nat}(hc:w.cell? ⟨R,4,cX⟩=cP (cY (cP ⟨FB,0,cX⟩) 1 cap))(hc2:w.cell? ⟨FB,4,cX⟩=cP (cY (cP ⟨BB,0,cX⟩) 1 cap2)):Calls prog 119 #[.pointer (cP ⟨R,0,cX⟩)] w λe w'=>AA1 BB e/\AA6 w w':=by
 have hF:=Mh hc;go_enter func119,ntmps119;go_wp2_with fail;refine hF.mono ?_;rintro e w1 ⟨rfl,hb1⟩;have c2:=AA hb1 hc2;go_wp2;refine ALQ (S:=λ_ v=>AA6 w1 v) Ac ?_;iterate 12((refine Ab.f (λz=>z.s) (λz=>AA z.s c2) ?_))
 refine Ab.nil λw4 Bb=>?_;go_wp2;go_ret;exact⟨rfl,AB hb1 Bb⟩
def Sr.wC{w1:World}(h:Sr w B N R q ln wh fi lg)(hb:Below N w w1):Sr w1 B N R q ln wh fi lg:=by
 obtain⟨cur,ht⟩:=h.typ;exact⟨h.own.kp hb,cur,(hb.block R h.own.lt).trans ht⟩
def AAw(w:World)(R:Nat)(e:Ending)(w':World):Prop:=e=.returned (.tuple #[])/\w'=w.setCell ⟨R,8,cX⟩ (cI cJ 1)
def XZ(hR:Sr w B N R q ln wh fi 0):Calls prog 118 #[.pointer (cP ⟨R,0,cX⟩)] w λe w'=>AAw w R e w':=by
 have c8:=hR.c8;have f8:=hR.Bw 8;have pQ:=λw=>Hg 0 1024 (by decide) w;go_enter func118,ntmps118;go_wp2_with fail;refine(pQ _).mono ?_;rintro e w2 ⟨rfl,rfl⟩;go_wp2;go_end0;exact⟨rfl,rfl⟩
end
section
open Word Num Dp
abbrev is4:Is:=⟨33,⟨#[]⟩,⟨#[]⟩,[⟨1,wK,0⟩],[],[]⟩
abbrev gU:Bk:=⟨wA,[],[is4],tm0⟩
theorem Xf(h0:AA6 w0 w)(hR:Sr w B N R (gX Yz) ln 4 fi 0)(hB:w0.heap.size<=B)(hl:Row DL 1 w0 u [L6,wK]):Calls prog 62 #[.pointer (cP ⟨R,0,cX⟩),u] w λe w'=>K6 B R (gX gU) ln 5 fi 1 e w'/\Dr B w w':=by
 have hBw:=hR.bw;have Df:=hR.own.sz;obtain⟨a,d0,d1,c,rfl,hc2⟩:∃a,w0.cell? a=cP (cS L6)/\w0.cell? ⟨a.block,a.off+1,cX⟩=cP (cS wK)/\∃c,u=cY (cP a) 2 c/\2<=c:=by
  obtain⟨p,c,rfl,-,⟨-,hlc⟩,-⟩:=id hl;have ADw:2<=c:=hlc;obtain⟨a,rfl,e1⟩:=BQ hl (q:=0) (by decide);exact⟨a,Bg hl (by decide),e1,c,rfl,ADw⟩
 have htl:Row DL 1 w0 (cY (cP ⟨a.block,a.off+1,cX⟩) 1 (c-1)) [wK]:=hl.tail (k:=1) (m:=c-1) (b:=⟨a.block,a.off+1,cX⟩) (by decide) (by show 1<=c-1;omega) (λ_=>by simp[Addr.add]);have hM:=λw=>Ef w;have hO:=λw=>sK w;have hX:=Ae.alloc w [cI cJ 4,cI cJ 5,cI cJ 6,cI cJ 7] 3;have hb1:=AJ w (.cells #[cI cJ 4,cI cJ 5,cI cJ 6,cI cJ 7] 3);have Jc:=hR.kp hb1;have h1:=AB h0 hb1;have qC:=E5 (R:=R) (l:=[4,5,6,7]) hX 4 (by decide) (by decide) Jc.c6;go_enter func62,ntmps62;go_wp2_with fail;generalize hW1:w.alloc _=W1 at*;refine qC.mono ?_;rintro e w2 ⟨rfl,rfl⟩;have hI:=Ae.alloc W1 [cI cJ 0,cS ⟨#[]⟩,cS ⟨#[]⟩,cY cX 0 0,cY cX 0 0,cY cX 0 0] 133;have hb2:=AJ W1 (.cells #[cI cJ 0,cS ⟨#[]⟩,cS ⟨#[]⟩,cY cX 0 0,cY cX 0 0,cY cX 0 0] 133);have hNI:N<=W1.heap.size:=AX Df hb1.size;have hwp:w.heap.size<=W1.heap.size:=hb1.size;have hR2:=Jc.kp hb2;have h2:=AB h1 hb2;have hbb:=AB hb1 hb2;have e0:=AA h2 d0;go_wp2_with fail;refine(hO _).mono ?_;rintro e w3 ⟨rfl,hb3⟩;generalize Cr:W1.alloc _=W2 at*;generalize hpe:W1.heap.size=p1 at*;replace hI:=hI.nx hb3;replace hR2:=hR2.kp hb3;replace h2:=AB h2 hb3;replace hbb:=AB hbb hb3;have vO:=λw=>Vs 33 (by decide) w;go_wp2_with fail;refine(hM _).mono ?_;rintro e w4 ⟨rfl,rfl⟩;go_wp2_with fail;refine(vO _).mono ?_;rintro e w4 ⟨hb4,t,d,n,l,m,rfl,-,hdn⟩;obtain⟨rfl,rfl,rfl,rfl⟩:=hdn rfl;have hY:=Ae.alloc w4 [cS t,cE cA,cE cA,cI cJ 1,cI cJ 1] 182;have hb5:=AJ w4 (Obj.cells #[cS t,cE cA,cE cA,cI cJ 1,cI cJ 1] 182);have hpf:=(hI.nx hb4).lt;replace hI:=(hI.nx hb4).nx hb5;replace hR2:=(hR2.kp hb4).kp hb5;replace h2:=AB (AB h2 hb4) hb5;replace hbb:=AB (AB hbb hb4) hb5;have y0:=hY.c 0 _ rfl;obtain⟨i0,i1⟩:=hI.c2;have y1:=hY.c 1 _ rfl;have j0:=hI.f 0 (by decide);have hBN:B<=N:=AX hR2.own.ge (Nat.le_of_lt hR2.own.lt);go_wp2_with fail;generalize Cr:w4.alloc _=W5 at*;refine(hM _).mono ?_;rintro e w5 ⟨rfl,rfl⟩;have hs:=(Below.refl p1 W5).setCell (p:=⟨p1,0,cX⟩) (AQ) (cI cJ 33);have hI2:Ae (W5.setCell ⟨p1,0,cX⟩ (cI cJ 33)) p1 [cI cJ 33,cS ⟨#[]⟩,cS ⟨#[]⟩,cY cX 0 0,cY cX 0 0,cY cX 0 0]:=hI.set (i:=0) (by simp) _;have hY2:=hY.far (q:=⟨p1,0,cX⟩) (show p1≠w4.heap.size by omega) (cI cJ 33);have IK:=hR2.wC (hs.mono hNI);have h3:=h2.trans (hs.mono (show w0.heap.size<=p1 by omega));have Qq:=hbb.trans (hs.mono (AX hwp (AQ)));have AJL:(W5.setCell ⟨p1,0,cX⟩ (cI cJ 33)).heap.size=W5.heap.size:=by simp
 have hA:=jo h3 htl;have y2:=hY2.c 2 _ rfl;go_wp2_with fail;generalize hW6:W5.setCell ⟨p1,0,cX⟩ (cI cJ 33)=W6 at*;refine hA.mono ?_;rintro e w6 ⟨⟨v,F,rfl,hv,hF⟩,hb6⟩;obtain⟨px,cx,rfl⟩:=hv.slice;have PW:=hI2.nx hb6;have vH:=hY2.nx hb6;have Dc:=IK.kp hb6;have AEK:=AB Qq hb6;have hs:=(Below.refl p1 w6).setCell (p:=⟨p1,3,cX⟩) (AQ) (cY px 1 cx);have hI4:Ae (w6.setCell ⟨p1,3,cX⟩ (cY px 1 cx)) p1 [cI cJ 33,cS ⟨#[]⟩,cS ⟨#[]⟩,cY px 1 cx,cY cX 0 0,cY cX 0 0]:=PW.set (i:=3) (by simp) _;have hY4:=vH.far (q:=⟨p1,3,cX⟩) (show p1≠w4.heap.size by omega) (cY px 1 cx);have CS:=Dc.wC (hs.mono hNI);have AEJ:=AEK.trans (hs.mono hwp);have i3:=PW.c 3 _ rfl;have j3:=PW.f 3 (by decide);have ADt:=hI2.lt;have hv5:=hv.same (w':=w6.setCell ⟨p1,3,cX⟩ (cY px 1 cx)) λb hb=>Below.heap_setCell _ _ _ _ (show b≠p1 by have:=(hv.fp b hb).1;omega);have AJQ:p1<W6.heap.size:=ADt;have k3:=hI4.c 3 _ rfl;obtain⟨-,-,-,y3,y4⟩:=hY4.c5;have hmo:=XZ CS;rw[show([(⟨1,wK,0⟩:Ag)].map Ls).length=1 from rfl];go_wp2_with fail;generalize hW7:w6.setCell ⟨p1,3,cX⟩ (cY px 1 cx)=W7 at*;refine(hM _).mono ?_;rintro e w7 ⟨rfl,rfl⟩;go_wp2_with fail;refine hmo.mono ?_;rintro e w7 ⟨rfl,rfl⟩;have hRN:=CS.own.lt;have ES:=CS.iV 1;have TA:=hI4.far (q:=⟨R,8,cX⟩) (show R≠p1 by omega) (cI cJ 1);have yK:=(Dr.of AEJ hBw).trans (CS.Te (cI cJ 1) 8);have hv6:=hv5.same (w':=W7.setCell ⟨R,8,cX⟩ (cI cJ 1)) λb hb=>Below.heap_setCell _ _ _ _ (show b≠R by have:=(hv5.fp b hb).1;omega);generalize hW8:W7.setCell ⟨R,8,cX⟩ (cI cJ 1)=W8 at*;obtain⟨FB,cap,Lr⟩:=ES.f (f:=WW Yz) rfl;obtain⟨BB,cap2,TM⟩:=Lr.b (b:=Yz) rfl;have hBl:=NC Lr.lc TM.lc;have WR:=Lr.lc;have wZ:=TM.lc;go_wp2_with fail;refine hBl.mono ?_;rintro e w8 ⟨rfl,Bp⟩;obtain⟨wz,rfl⟩:=again w8;replace ES:=ES.kp Bp;have Yx:=TA.nx Bp;have hv7:=hv6.same (w':=wz) λb hb=>Bp.block b (hv6.fp b hb).2;have Db:=yK.trans (Dr.of Bp (AX hBw (yK.b.size)));have Nr:=ES.bw;replace WR:=AA Bp WR;replace wZ:=AA Bp wZ;have BO:=ES.kp (Below.refl wz.heap.size wz).drew;obtain⟨vo,Nv,Lr⟩:=BO.f (f:=WW Yz) rfl;obtain rfl:FB=vo:=by
  have e1:=Lr.lc;have e0:wz.cell? ⟨R,4,cX⟩=cP (cY (cP ⟨FB,0,cX⟩) 1 cap):=WR;rw[show wz.drew.cell? ⟨R,4,cX⟩=wz.cell? ⟨R,4,cX⟩from rfl,e0]at e1;injection e1 with e1;injection e1 with e1;injection e1 with e1;injection e1
 obtain⟨BB2,cap4,TM⟩:=Lr.b (b:=Yz) rfl;obtain rfl:BB=BB2:=by
  have e1:=TM.lc;have e0:wz.cell? ⟨FB,4,cX⟩=cP (cY (cP ⟨BB,0,cX⟩) 1 cap2):=wZ;rw[show wz.drew.cell? ⟨FB,4,cX⟩=wz.cell? ⟨FB,4,cX⟩from rfl,e0]at e1;injection e1 with e1;injection e1 with e1;injection e1 with e1;injection e1
 have TT:=TM.lt;obtain⟨F2,hs0,hF2⟩:=TM.sp;have hsp:=Aq.nth (l:=[dS wA,.row 211 2 ([].map PZ),.row 133 6 ([].map TD),TW tm0]) hs0 2 rfl (n:=2) (by simp[Dt.DF,Dt.wd,dS]);rw[Nat.zero_add]at hsp;obtain⟨vc,xs,hc,hox,pc,cc,rfl⟩:=hsp.owns;rw[show(([]:List Is).map TD).length=0 from rfl]at hc hox;have GY:(cY pc 0 cc).ownBlock≠cP BB:=own_ne hox TT (by decide);have FL:(cY pc 0 cc).ownBlock≠cP p1:=λe=>by have:=hsp.JI hc e;omega
 have hsz2:wz.drew.heap.size=wz.heap.size:=rfl;have kd:AZ wz.drew W6.heap.size 77 3 ([(⟨1,wK,0⟩:Ag)].map Ls) (cY px 1 cx) F:=hv7.same λ_ _=>rfl;have hN6:N<=W6.heap.size:=by omega
 obtain⟨z0,z1,z2,z3,z4,z5⟩:=Yx.c6;go_wp2;refine ALR (S:=Ad wz.drew B 133 6 6 7 10 [cI cJ 33,cS ⟨#[]⟩,cS ⟨#[]⟩,cY px 1 cx,cY cX 0 0,cY cX 0 0] 0 xs (cY pc 0 cc) ⟨BB,2,cX⟩) (Ad.start (AL)) ?_;iterate 6((refine AU.f (λz=>z.s.keep rfl rfl rfl) (λz=>have hs:=z.f 10;ALS (z.s.cellOf hs hc GY) (ALS (z.s.cellOf hs z0 FL) (ALS (z.s.cellOf hs z1 FL) (ALS (z.s.cellOf hs z2 FL) (ALS (z.s.cellOf hs z3 FL) (ALS (z.s.cellOf hs z4 FL) (z.s.cellOf hs z5 FL))))))) ?_))
 (apply AU.w rfl;intro V L w1 _ _ _ z hK;go_simp;exact hK rfl (z.s.made (z.o 7) rfl _);(try simp only[pE]));(refine Ad.aq (rowIs) (underlying75) (hox) ?_;(try simp only[pE]));iterate 2((refine AU.f (λz=>z.s.keep rfl rfl rfl) (λz=>z.s.cellOf (z.f 10) hc GY) ?_))
 (refine Ad.sv (λhS hi=>ALS (hS.cellOf hi hc GY) (hS.EA hi (o:=2) TT.lt (TT.Bw _) GY)) ?_;simp only[Act.put]);refine AU.nil λV w11 hS=>?_;obtain⟨Gy,hb4⟩:=hS.sr (d:=TD is4) (q':=gX gU) rfl rfl BO hsp hc hox rfl (by decide) (λw1 pb hlow hx=>⟨F++([]++([]++[])),Af.of (AP.cc (hx.c 0 _ rfl) rfl (AP.cc (hx.c 1 _ rfl) rfl (AP.cc (hx.c 2 _ rfl) rfl (AP.cr (hx.c 3 _ rfl) (AZ.mono hN6 (kd.same λb hb=>hlow.block b (kd.fp b hb).2)) (AP.cr (l:=[]) (hx.c 4 _ rfl) AZ.nil (AP.cr (l:=[]) (hx.c 5 _ rfl) AZ.nil AP.cn)))))),by simpa using hF⟩) rfl rfl TT (by decide) (by decide) (hF2 gU);have hb5:=(Db.trans (Dr.of (Below.refl wz.heap.size wz).drew Nr)).trans hb4;have c6:=Gy.c6;have f6:=Gy.Bw 6;have E8:=Gy.Wj 5;have hb6:=hb5.trans (Gy.Te (cI cJ 5) 6);go_wp2_with fail;go_end0;exact⟨⟨rfl,_,E8⟩,hb6⟩
end
section
open Word Num Dp
abbrev tm5:Tm:=⟨3,⟨1,wK,0⟩,[],0⟩
abbrev nU:Bk:=⟨wA,[],[is4],tm5⟩
abbrev Wh:ByteArray:=⟨#[114,101,116]⟩
abbrev Qf:List Value:=[cI cJ 3,cI cJ 1,cS wK,cI cJ 0,cY cX 0 0,cI cJ 0]
def nV.cells{f:Fn}{b:Bk}(h:nV w B N R q ln wh fi lg f FB b BB cap):∃v0 v1 v2 v3 v4 v5,w.cell? ⟨BB,3,cX⟩=cP v0/\w.cell? ⟨BB,4,cX⟩=cP v1/\w.cell? ⟨BB,5,cX⟩=cP v2/\w.cell? ⟨BB,6,cX⟩=cP v3/\w.cell? ⟨BB,7,cX⟩=cP v4/\w.cell? ⟨BB,8,cX⟩=cP v5:=by
 obtain⟨F,hs0,-⟩:=h.sp;have hs:=Aq.nth (l:=[dS b.n,.row 211 2 (b.ps.map PZ),.row 133 6 (b.cs.map TD),TW b.e]) hs0 3 rfl (n:=3) (by simp[Dt.DF,Dt.wd,dS]);rw[Nat.zero_add]at hs;obtain⟨-,-,fp,hl⟩:=hs.at;have hw:(TW b.e).wd=6:=rfl;have hc:=hl.cells;rw[hw]at hc;obtain⟨v0,h0,-⟩:=hc 0 (by decide);obtain⟨v1,h1,-⟩:=hc 1 (by decide);obtain⟨v2,h2,-⟩:=hc 2 (by decide);obtain⟨v3,h3,-⟩:=hc 3 (by decide);obtain⟨v4,h4,-⟩:=hc 4 (by decide);obtain⟨v5,h5,-⟩:=hc 5 (by decide);exact⟨v0,v1,v2,v3,v4,v5,h0,h1,h2,h3,h4,h5⟩
def nV.kp{w1:World}{f:Fn}{b:Bk}(h:nV w B N R q ln wh fi lg f FB b BB cap)(hR:Sr w B N R q ln wh fi lg)(hb:AA6 w w1):nV w1 B N R q ln wh fi lg f FB b BB cap:=by
 obtain⟨F,hs,hF⟩:=h.sp;exact⟨AA hb h.lc,DC.nx h.lt hb,F,hs.kp (hb.mono hR.own.sz),hF⟩
theorem nV.KH{f:Fn}(h:nV w B N R q ln wh fi lg f FB gU BB cap)(hR:Sr w B N R q ln wh fi lg):Sr (BZ w BB 3 Qf) B w.heap.size R {q with fs:=[{f with bs:=[nU]}]} ln wh fi lg/\Dr B w (BZ w BB 3 Qf):=by
 obtain⟨v0,v1,v2,v3,v4,v5,h0,h1,h2,h3,h4,h5⟩:=h.cells;obtain⟨F,hs0,hF⟩:=h.sp;have hsp:=Aq.nth (l:=[dS wA,.row 211 2 ([].map PZ),.row 133 6 ([is4].map TD),TW tm0]) hs0 3 rfl (n:=3) (by simp[Dt.DF,Dt.wd,dS]);rw[Nat.zero_add]at hsp
 have hc:=Mk (g:=BB) Qf 3 w (λj hj=>by
  have hj':j<6:=hj;obtain rfl|rfl|rfl|rfl|rfl|rfl:j=0\/j=1\/j=2\/j=3\/j=4\/j=5:=by omega
  ·exact⟨v0,h0⟩
  ·exact⟨v1,h1⟩
  ·exact⟨v2,h2⟩
  ·exact⟨v3,h3⟩
  ·exact⟨v4,h4⟩
  ·exact⟨v5,h5⟩)
 have hsz:=DK (p:=BB) Qf 3 w;have hne:=λr (hr:r≠BB)=>Bu hr Qf 3 w;have hsb:=Mj (o:=3) (n:=6) Qf 3 w h.lt (AQ) (AQ);have hbl:=Ay (B:=B) hsp.at.1 Qf 3 w;have hbR:BB≠R:=λe=>by
  obtain⟨c1,h1⟩:=h.lt;obtain⟨c2,h2⟩:=hR.typ;rw[e,h2]at h1;injection h1 with h1;injection h1 with _ h1 _;exact absurd h1 (by decide)
 generalize BZ w BB 3 Qf=w1 at*;have q9:Own w1 B w.heap.size (F (Pb nU)) R 0:=by
  refine hsp.fill (N':=w.heap.size) (d1:=TW tm5) hsp.sz rfl hsb (by rw[hsz];exact AQ) λFj _ _ _=>⟨λb _ hb _=>hne b hb,[]++[],?_,λb hb=>by simp at hb,by simp⟩;exact Pz (x:=tm5) (hc 0 _ rfl) (hc 1 _ rfl) (hc 2 _ rfl) (hc 3 _ rfl) (hc 4 _ rfl) (hc 5 _ rfl) AZ.nil
 obtain⟨cur,ht⟩:=hR.typ;exact⟨⟨hF nU▸q9,⟨cur,(hne R (λe=>hbR e.symm)).trans ht⟩⟩,hbl,λr hr=>hne r (T9 hr h.lt (by decide))⟩
theorem bV(h0:AA6 w0 w)(hR:Sr w B N R (gX gU) ln 5 fi 1)(hB:w0.heap.size<=B)(hl:Row DL 1 w0 u [Wh,wK]):Calls prog 113 #[.pointer (cP ⟨R,0,cX⟩),u] w λe w'=>K6 B R (gX nU) ln 0 fi 1 e w'/\Dr B w w':=by
 have hBw:=hR.bw;have Df:=hR.own.sz;obtain⟨a,d0,d1,c,rfl⟩:∃a,w0.cell? a=cP (cS Wh)/\w0.cell? ⟨a.block,a.off+1,cX⟩=cP (cS wK)/\∃c,u=cY (cP a) 2 c:=by
  obtain⟨p,c,rfl⟩:=hl.slice;obtain⟨a,rfl,e1⟩:=BQ hl (q:=0) (by decide);exact⟨a,Bg hl (by decide),e1,c,rfl⟩
 have hM:=λw=>Ef w;have hA:=λw=>aC w;have hX:=Ae.alloc w [cI cJ 4,cI cJ 5,cI cJ 6,cI cJ 7] 3;have hb1:=AJ w (.cells #[cI cJ 4,cI cJ 5,cI cJ 6,cI cJ 7] 3);have Jc:=hR.kp hb1;have h1:=AB h0 hb1;have qC:=E5 (R:=R) (l:=[4,5,6,7]) hX 5 (by decide) (by decide) Jc.c6;go_enter func113,ntmps113;go_wp2_with fail;generalize hW1:w.alloc _=W1 at*;refine qC.mono ?_;rintro e w2 ⟨rfl,rfl⟩;have hI:=Ae.alloc W1 [cI cJ 0,cI cJ 0,cS ⟨#[]⟩,cI cJ 0,cY cX 0 0,cI cJ 0] 80;have hb2:=AJ W1 (.cells #[cI cJ 0,cI cJ 0,cS ⟨#[]⟩,cI cJ 0,cY cX 0 0,cI cJ 0] 80);have hNI:N<=W1.heap.size:=AX Df hb1.size;have hwp:w.heap.size<=W1.heap.size:=hb1.size;have hR2:=Jc.kp hb2;have h2:=AB h1 hb2;have hbb:=AB hb1 hb2;have e0:=AA h2 d0;have e1:=AA h2 d1;go_wp2_with fail;refine(hM _).mono ?_;rintro e w3 ⟨rfl,rfl⟩;go_wp2_with fail;refine(hA _).mono ?_;rintro e w3 ⟨rfl,hb3⟩;generalize Cr:W1.alloc _=W2 at*;generalize hpe:W1.heap.size=p1 at*;replace hI:=hI.nx hb3;replace hR2:=hR2.kp hb3;replace hbb:=AB hbb hb3;have hs:=Ay (Nat.le_refl p1) Qf 0 w3;have hI2:Ae (BZ w3 p1 0 Qf) p1 Qf:=CK Qf _ 0 w3 hI rfl;have IK:=hR2.wC (hs.mono hNI);have Qq:=hbb.trans (hs.mono hwp);obtain⟨i0,i1,i2,i3,i4,i5⟩:=hI.c6;obtain⟨f0,f1,f2,f3,f4,f5⟩:=hI.f6;go_wp2_with fail;rw[show(((((w3.setCell ⟨p1,0,cX⟩ (cI cJ 3)).setCell ⟨p1,1,cX⟩ (cI cJ 1)).setCell ⟨p1,2,cX⟩ (cS wK)).setCell ⟨p1,3,cX⟩ (cI cJ 0)).setCell ⟨p1,4,cX⟩ (cY cX 0 0)).setCell ⟨p1,5,cX⟩ (cI cJ 0)=BZ w3 p1 0 Qf from rfl];generalize BZ w3 p1 0 Qf=W4 at*;obtain⟨FB,cap,Lr⟩:=IK.f (f:=WW gU) rfl;obtain⟨BB,cap2,TM⟩:=Lr.b (b:=gU) rfl;have WR:=Lr.lc;have wZ:=TM.lc;obtain⟨z0,z1,z2,z3,z4,z5⟩:=hI2.c6;obtain⟨v0,v1,v2,v3,v4,v5,c0,c1,c2,c3,c4,c5⟩:=TM.cells;have TT:=TM.lt;refine ALQ (S:=Ah 5 (λv=>AA6 W4 v) (λv=>∃v0,AA6 W4 v0/\v=BZ v0 BB 3 Qf)) (Ah.start Ac) ?_;(refine Ab.q (λz=>z.s.pass rfl) ?_);(apply Ab.y rfl;intro L w1 _ _ z hK;go_simp;go_wp2_with((have Fq:=z.s.1 (z.r 5 4 (by kernel_rfl) (z.r 4 3 (by kernel_rfl) (z.r 3 1 (by kernel_rfl) z.i)));refine(NC (AA Fq WR) (AA Fq wZ)).mono ?_;rintro e w4 ⟨rfl,hb⟩));(try simp only[pE]);exact hK.out _ (Ah.keep (z.r 5 4 (by kernel_rfl) (z.r 4 3 (by kernel_rfl) (z.r 3 1 (by kernel_rfl) z.i))) (AB (z.s.1 (z.r 5 4 (by kernel_rfl) (z.r 4 3 (by kernel_rfl) (z.r 3 1 (by kernel_rfl) z.i)))) hb) rfl);rfl);(refine Ab.f (λz=>z.s.pass rfl) (λz=>have Fq:=z.s.1 (z.o 5);ALS (AA Fq z0) (ALS (AA Fq z1) (ALS (AA Fq z2) (ALS (AA Fq z3) (ALS (AA Fq z4) (AA Fq z5)))))) ?_);iterate 2((refine Ab.q (λz=>z.s.pass rfl) ?_))
 (refine Ab.step (a1:=?_) rfl (λL w1 K' Q' hS hi hR hd hK=>?_) ?_ ?_;rotate_left)
 ·have Fq:=hS.1 hi;have q0:=AA Fq c0;have q1:=AA Fq c1;have q2:=AA Fq c2;have q3:=AA Fq c3;have q4:=AA Fq c4;have q5:=AA Fq c5;have hfz:∀o,w1.frozen? ⟨BB,o,cX⟩=cA:=λo=>by rw[Fq.frozen TT.lt];exact TT.Bw _
  have fz3:=hfz 3;have fz4:=hfz 4;have vW:=hfz 5;have fz6:=hfz 6;have fz7:=hfz 7;have fz8:=hfz 8;go_simp;exact hK.out _ (Ah.done ⟨w1,Fq,rfl⟩)
 ·rfl
 refine Ab.nil λw5 hS5=>?_;obtain⟨v0,Fq,rfl⟩:=hS5.2 rfl;have AEY:=TM.kp IK Fq;have Dc:=IK.kp Fq;obtain⟨CS,hb5⟩:=AEY.KH Dc;have Nf:=(Dr.of Qq hBw).trans ((Dr.of Fq IK.bw).trans hb5);replace CS:Sr (BZ v0 BB 3 Qf) B v0.heap.size R (gX nU) ln 5 fi 1:=CS;generalize BZ v0 BB 3 Qf=w5 at*;have c6:=CS.c6;have f6:=CS.Bw 6;have E8:=CS.Wj 0;have hb6:=Nf.trans (CS.Te (cI cJ 0) 6);go_wp2_with fail;go_end0;exact⟨⟨rfl,_,E8⟩,hb6⟩
end
section
open Word Num Dp
abbrev mZ(fs:List Fn):Pg:=⟨cA,[],[],[],fs⟩
def MW{F:Nat}{fn:Func}(hf:prog.funcs[F]? =cP fn)(h1:(fn.name== "runtime.NumGoroutine")=cA)(h2:fn.body.isNone=cA)(v:Array Value)(w:World):Sem.run prog (callFunc F v) w=.ok (.enter F v) w:=by
 have h3:¬(fn.name= "runtime.NumGoroutine"):=by simpa using h1
 have h4:¬(fn.body=cX):=λe=>by rw[e]at h2;exact absurd h2 (by decide)
 simp[callFunc,hf,h3,h4,Sem.run]
theorem Sr.lens{fs:List Fn}(h:Sr w B N R (mZ fs) ln wh fi lg):(∃p c,w.cell? ⟨R,1,cX⟩=cP (cY p 0 c))/\(∃p c,w.cell? ⟨R,2,cX⟩=cP (cY p 0 c))/\∃p c,w.cell? ⟨R,3,cX⟩=cP (cY p 0 c):=by
 obtain⟨v1,x1,h1,-,⟨p1,c1,rfl⟩,-⟩:=h.row (α:=Cl) (enc:=gP) (e:=153) (s:=2) (i:=1) (l:=[]) _ rfl rfl rfl;obtain⟨v2,x2,h2,-,⟨p2,c2,rfl⟩,-⟩:=h.row (α:=Vr) (enc:=IQ) (e:=71) (s:=2) (i:=2) (l:=[]) _ rfl rfl rfl;obtain⟨v3,x3,h3,-,⟨p3,c3,rfl⟩,-⟩:=h.row (α:=Ex) (enc:=nS) (e:=155) (s:=2) (i:=3) (l:=[]) _ rfl rfl rfl;exact⟨⟨p1,c1,h1⟩,⟨p2,c2,h2⟩,⟨p3,c3,h3⟩⟩
theorem Gs(h0:AA6 w0 w){fs fs':List Fn}{oZ o9:Int}(hR:Sr w B N R (mZ fs) ln wh fi lg)(hB:w0.heap.size<=B){s0 s1:ByteArray}{l:List ByteArray}(hl:Row DL 1 w0 u (s0::s1::l))(hne:(s1.toList==[61])=cA) (F:Nat) (hF:(∃j:Nat,ZI[j]? =cP (s0,F))\/((ZI.all λy=> !(decide (y.1=s0)))=cC/\F=62))(hE:∀(v:Array Value) (w:World),Sem.run prog (callFunc F v) w=.ok (.enter F v) w)(hcall:∀w1,AA6 w0 w1->Sr w1 B N R (mZ fs) ln wh fi lg->Calls prog F #[.pointer (cP ⟨R,0,cX⟩),u] w1 λe w'=>K6 B R (mZ fs') ln oZ fi o9 e w'/\Dr B w1 w'):Calls prog 38 #[.pointer (cP ⟨R,0,cX⟩),u] w λe w'=>K6 B R (mZ fs') ln oZ cA o9 e w'/\Dr B w w':=by
 have hBw:=hR.bw;obtain⟨p,c,rfl⟩:=hl.slice;obtain⟨a,rfl,d1⟩:=BQ hl (q:=0) (by simp);have d0:=Bg hl (by simp);have d1:w0.cell? ⟨a.block,a.off+1,cX⟩=cP (cS s1):=d1;have d0:w0.cell? a=cP (cS s0):=d0;obtain⟨n,hn,hn2⟩:∃n,(s0::s1::l).length=n/\2<=n:=⟨_,rfl,by simp⟩;rw[hn]at hcall⊢;have vR:(0:Int)<n:=by omega
 have Fw:(1:Int)<n:=by omega
 have h0N:0<n:=by omega
 have C8:1<n:=by omega
 have BO:=λw=>SL s0 F hF w;have e0:=AA h0 d0;replace hn:=Wx hn;go_enter func38,ntmps38;go_upto_region 1 with(refine(BO _).mono ?_;rintro e w1 ⟨rfl,hb1⟩)
 have e1:=AA (AB h0 hb1) d1;go_cut[18]from 10 to 18 (λv wx=>v=cE cA/\wx=w1)
 ·by_cases h2:2<n
  ·have Qj:(2:Int)<n:=(by omega);go_wp2;go_meet;exact⟨rfl,rfl⟩
  ·have Qj:¬(2:Int)<n:=(by omega);go_wp2;go_meet;exact⟨rfl,rfl⟩
 obtain⟨rfl,rfl⟩:=hcut;obtain⟨wz,rfl⟩:=again wc;have Jc:=hR.kp hb1;obtain⟨⟨p1,c1,k1⟩,⟨p2,c2,k2⟩,p3,c3,k3⟩:=Jc.lens;go_wp2;refine ALQ (S:=λ_ v=>AA6 wz v) Ac ?_;iterate 21((refine Ab.f (λz=>z.s) (λz=>ALS (AA z.s k1) (ALS (AA z.s k2) (AA z.s k3))) ?_))
 refine Ab.nil λw2 hS2=>?_;have hb2:=AB hb1 hS2;have hcl:=hcall w2 (AB h0 hb2) (hR.kp hb2);have Db:=Dr.of hb2 hBw;go_wp2_with fail;refine hcl.mono ?_;rintro e w3 ⟨⟨rfl,N',IK⟩,hb3⟩;replace Db:=Db.trans hb3;obtain⟨⟨p1,c1,k1⟩,⟨p2,c2,k2⟩,p3,c3,k3⟩:=IK.lens;go_wp2;refine ALQ (S:=λ_ v=>AA6 w3 v) Ac ?_;iterate 22((refine Ab.f (λz=>z.s) (λz=>ALS (AA z.s k1) (ALS (AA z.s k2) (AA z.s k3))) ?_))
 refine Ab.nil λw4 Bb=>?_;have Dc:=IK.kp Bb;have c7:=Dc.c7;have f7:=Dc.Bw 7;have CS:=Dc.qI cA;have hb5:=(Db.trans (Dr.of Bb IK.bw)).trans (Dc.Te (cE cA) 7);go_wp2;go_end0;exact⟨⟨rfl,_,CS⟩,hb5⟩
end
section
open Word Num Dp
def OM(w0:World)(B R:Nat)(l:List ByteArray)(ln:Int)(q q':List Fn)(wh lg oZ o9:Int):Prop:=
 ∀{w:World} {N:Nat} {fi:Bool} {u:Value},AA6 w0 w->Sr w B N R (mZ q) ln wh fi lg->Row DL 1 w0 u l->
  Calls prog 38 #[.pointer (cP ⟨R,0,cX⟩),u] w λe w'=>K6 B R (mZ q') ln oZ cA o9 e w'/\Dr B w w'
def AAR(hB:w0.heap.size<=B)(ln:Int):OM w0 B R [Q7,wF,CG] ln [] [⟨wF,CG,[],[],[]⟩] 0 (-1) 2 0:=λh0 hR hl=>
 Gs h0 hR hB hl (by rw[ByteArray.toList_eq];decide) 106 (.inl ⟨5,rfl⟩) (MW func106 (by kernel_rfl) (by kernel_rfl)) (λ_ h1 h2=>Xa h1 h2 hB hl)
def AAQ(hB:w0.heap.size<=B)(ln:Int):OM w0 B R [ML,wK,CG] ln [⟨wF,CG,[],[],[]⟩] [⟨wF,CG,[⟨wK,CG⟩],[],[]⟩] 2 0 2 0:=λh0 hR hl=>
 Gs h0 hR hB hl (by rw[ByteArray.toList_eq];decide) 107 (.inl ⟨6,rfl⟩) (MW func107 (by kernel_rfl) (by kernel_rfl)) (λ_ h1 h2=>UR h1 h2 hB hl)
def AAP(hB:w0.heap.size<=B)(ln:Int):OM w0 B R [MN,wA] ln [⟨wF,CG,[⟨wK,CG⟩],[],[]⟩] [WW Yz] 2 0 4 0:=λh0 hR hl=>
 Gs h0 hR hB hl (by rw[ByteArray.toList_eq];decide) 109 (.inl ⟨8,rfl⟩) (MW func109 (by kernel_rfl) (by kernel_rfl)) (λ_ h1 h2=>UO h1 h2 hB hl)
def AAO(hB:w0.heap.size<=B)(ln:Int):OM w0 B R [L6,wK] ln [WW Yz] [WW gU] 4 0 5 1:=λh0 hR hl=>
 Gs h0 hR hB hl (by rw[ByteArray.toList_eq];decide) 62 (.inr ⟨by decide,rfl⟩) (MW func62 (by kernel_rfl) (by kernel_rfl)) (λ_ h1 h2=>Xf h1 h2 hB hl)
def AAN(hB:w0.heap.size<=B)(ln:Int):OM w0 B R [Wh,wK] ln [WW gU] [WW nU] 5 1 0 1:=λh0 hR hl=>
 Gs h0 hR hB hl (by rw[ByteArray.toList_eq];decide) 113 (.inl ⟨14,rfl⟩) (MW func113 (by kernel_rfl) (by kernel_rfl)) (λ_ h1 h2=>bV h1 h2 hB hl)
end
section
open Word Num Dp
def eP(p1 p2 p3 p4:Value)(w:World):CallsD prog 37 #[p1,p2,p3,p4] .returning w λe u' w'=>e=.returned (.tuple #[])/\u'=.returning/\w'=w:=by
 refine callsD_of_wpS func37 rfl λc₀ cs hu=>?_;apply wpS_seq;apply wpS_region;simp[wpOpsS,go_sem,recoverD,hu,ntmps37,Exit.thenS];apply wpS_seq;apply wpS_region;simp[wpOpsS,go_sem,Exit.thenS];refine wpS_cond (t:=cA) (by simp[Act.eval,Array.replicate]) ?_;simp only[Bool.false_eq_true,if_false];refine wpS_of_wp (wp_skip ?_);cases c₀;simp_all[bodyPostS,results,Tryz.results37]
end
namespace OB
abbrev By:=List UInt8
def Tf(c:UInt8):Bool:=c==32||c==9
def isBad(c:UInt8):Bool:=decide (c.toNat<33)||decide (126<c.toNat)
def fl(l:List By)(w:By):List By:=if w=[]then l else l++[w]
def LM(x:List By×By×Bool)(c:UInt8):List By×By×Bool:=if Tf c then(fl x.1 x.2.1,[],x.2.2)else(x.1,x.2.1++[c],x.2.2||isBad c)
def Et(p:By):List By×By×Bool:=p.foldl LM ([],[],cA)
def CZ(p:By):Option (List By):=if(Et p).2.2 then cX else cP (fl (Et p).1 (Et p).2.1)
def Dj(p:By):By:=p.takeWhile (· !=59)
def Au:By->List By
 | []=> [[]]
 |c::r=>if c==10 then[]::Au r else match Au r with
  | []=> [[c]]
  |p::q=>(c::p)::q
abbrev Ln:=Nat×List By
def Qb:Nat->List By->List Ln⊕Nat
 |_,[]=> .inl []
 |n,p::r=>match CZ (Dj p)with
  |none=> .inr n
  |some ws=>match Qb (n+1) r with
   |.inr k=> .inr k
   |.inl l=> .inl (if ws=[]then l else(n,ws)::l)
def Jm(s:By):List Ln⊕Nat:=Qb 1 (Au s)
theorem Xg(p:By)(c:UInt8):Et (p++[c])=LM (Et p) c:=by grind [Et,LM]
def M8(s:By):Au s≠ []:=by
 cases s with
 |nil=>simp[Au]
 |cons c r=>
  unfold Au;split
  ·simp
  ·split<;>simp
theorem ug(s t:By):Au (s++10::t)=Au s++Au t:=by
 induction s with
 |nil=>simp[Au]
 |cons c r ih=>
  by_cases hc:c=10
  ·subst hc;simp[Au,ih]
  ·have hc:(c==10)=cA:=(by simpa using hc);rw[List.cons_append];simp only[Au,hc,Bool.false_eq_true,if_false,ih];have:=M8 r
   match h:Au r with
   | []=>exact absurd h this
   |p::q=>rfl
theorem SG(s:By):(Au s).length=s.count 10+1:=by
 induction s with
 |nil=>rfl
 |cons c r ih=>
  by_cases hc:c=10
  ·subst hc;simp[Au,ih]
  ·have hc':(c==10)=cA:=(by simpa using hc);have:=M8 r
   match h:Au r with
   | []=>exact absurd h this
   |p::q=>
    rw[h]at ih;simp only[Au,hc',Bool.false_eq_true,if_false,h];rw[List.count_cons_of_ne (by exact λe=>hc e)];simpa using ih
theorem Jz(n:Nat)(p:By)(r:List By):Qb n (p::r)=match CZ (Dj p)with
  |none=> .inr n
  |some ws=>match Qb (n+1) r with
   |.inr k=> .inr k
   |.inl l=> .inl (if ws=[]then l else(n,ws)::l):=by
 rw[Qb]
theorem V5(a b:List By)(n:Nat):Qb n (a++b)=match Qb n a with
  |.inr k=> .inr k
  |.inl l=>match Qb (n+a.length) b with
   |.inr k=> .inr k
   |.inl m=> .inl (l++m):=by
 induction a generalizing n with
 |nil=>
  simp only[List.nil_append,Qb,List.length_nil,Nat.add_zero]
  cases Qb n b<;>rfl
 |cons p r ih=>
  rw[List.cons_append,Jz n p (r++b),Jz n p r]
  cases CZ (Dj p)with
  |none=>rfl
  |some ws=>
   dsimp only;rw[ih (n+1)]
   cases Qb (n+1) r with
   |inr k=>rfl
   |inl l=>
    dsimp only;have e:n+1+r.length=n+(p::r).length:=(by simp;omega);rw[e]
    cases Qb (n+(p::r).length) b with
    |inr k=>rfl
    |inl m=>
     dsimp only;split<;>rfl
end OB
namespace OB
theorem aO(l:List By):fl l []=l:=if_pos rfl
theorem lT(l:List By){w:By}(h:w≠ []):fl l w=l++[w]:=if_neg h
def good(c:UInt8):Prop:=isBad c=cA/\c≠59
def wo(l:List Ln):List (List By):=l.map (·.2)
theorem Sn(c:UInt8)(r:By):Dj (c::r)=if c=59 then[]else c::Dj r:=by
 unfold Dj;rw[List.takeWhile_cons];grind
end OB
namespace OB
theorem index_hit(c:UInt8)(l:By):Lib.index (c::l) [c]=0:=by
 rw[Lib.index];grind
theorem Oz{b c:UInt8}(l:By)(h:b≠c):Lib.index (b::l) [c]=if Lib.index l [c]== -1 then-1 else Lib.index l [c]+1:=by
 rw[Lib.index];grind
theorem XY(l:By):Lib.splitK [10] 0 (l.count 10) l=Au l:=by
 induction l with
 |nil=>rfl
 |cons b r ih=>
  by_cases hb:b=10
  ·subst hb;rw[List.count_cons_self,Lib.splitK,index_hit];simp only[Au];have:((0:Int)== -1)=cA:=(by decide);rw[this];simp only[Bool.false_eq_true,if_false];show _::Lib.splitK [10] 0 (r.count 10) r=_;rw[ih];simp
  ·rw[List.count_cons_of_ne hb];have hc:(b==10)=cA:=by simpa using hb
   have e2:Au (b::r)=match Au r with
    | []=> [[b]]
    |p::q=>(b::p)::q:=by simp[Au,hc]<;>rfl
   rw[e2,<-ih]
   cases hk:r.count 10 with
   |zero=>rfl
   |succ k=>
    have hne:¬Lib.index r [10]= -1:=λe=>by
     have h1:=Lib.count_miss e;rw[Lib.count_one]at h1;omega
    have hge:=Lib.index_ge r [10];obtain⟨i,hi⟩:∃i:Nat,Lib.index r [10]=i:=⟨(Lib.index r [10]).toNat,by omega⟩;have h1:((i:Int)== -1)=cA:=(by rw[beq_eq_false_iff_ne];omega);have h2:((i:Int)+1== -1)=cA:=(by rw[beq_eq_false_iff_ne];omega);rw[Lib.splitK,Lib.splitK,Oz r hb,hi,h1];simp only[Bool.false_eq_true,if_false];rw[h2];simp only[Bool.false_eq_true,if_false];have t1:((i:Int)+1).toNat=i+1:=(by omega);have t2:(i:Int).toNat=i:=(by omega);rw[t1,t2];show List.take (i+1) (b::r)::Lib.splitK [10] 0 k (List.drop (i+1+1) (b::r))=(b::List.take i r)::Lib.splitK [10] 0 k (List.drop (i+1) r);rfl
def mJ(l:By):(Lib.cut l [59]).1=Dj l:=by
 have key:∀l:By,(if 0<=Lib.index l [59]then l.take (Lib.index l [59]).toNat else l)=Dj l:=by
  intro l
  induction l with
  |nil=>rfl
  |cons b r ih=>
   rw[Sn];by_cases hb:b=59
   ·subst hb;rw[index_hit];simp
   ·rw[if_neg hb,Oz r hb,<-ih];have hge:=Lib.index_ge r [59];by_cases h:Lib.index r [59]= -1
    ·rw[h];simp
    ·have h1:(Lib.index r [59]== -1)=cA:=(by simpa using h);rw[h1];simp only[Bool.false_eq_true,if_false];rw[if_pos (by omega),if_pos (by omega)];have:(Lib.index r [59]+1).toNat=(Lib.index r [59]).toNat+1:=(by omega);rw[this];rfl
 rw[<-key];unfold Lib.cut;split<;>rfl
def mg:ByteArray:=⟨#[10]⟩
def pieces(s:ByteArray):List ByteArray:=Lib.splitB mg 0 (Lib.countB s mg) s
theorem PI(s:ByteArray):Lib.countB s mg=s.data.toList.count 10:=Lib.count_one 10 s.data.toList
theorem K8(s:ByteArray):(pieces s).map (·.data.toList)=Au s.data.toList:=by
 unfold pieces;rw[Lib.splitB_data,PI];exact XY _
theorem NI(s:ByteArray):(pieces s).length=s.data.toList.count 10+1:=by grind [K8,SG]
end OB
section
namespace OB
def AAU:(prog.info? 9).map (λi=>(i.zero,i.size,i.bytes))=cP (cP (cS .empty),1,16):=by kernel_rfl
def AAV:(prog.info? 109).map (λi=>(i.zero,i.size,i.bytes))=cP (cP (.agg #[cI cJ 0,cY cX 0 0]),2,32):=by kernel_rfl
def iT(ss:Nat->ByteArray)(i:Nat)(_:Nat):Value:=cS (ss i)
def Reads(ws:List By)(ss:Nat->ByteArray):Prop:=∀j x,ws[j]? =cP x->(ss j).data.toList=x
def BF(w:World)(B:Nat)(v:Value)(ws:List By):Prop:=∃ss,EM w B 9 1 v ws.length (iT ss)/\Reads ws ss
theorem Reads.push{ws:List By}{ss:Nat->ByteArray}(h:Reads ws ss){s:ByteArray}{x:By}(hx:s.data.toList=x):Reads (ws++[x]) (λj=>if j=ws.length then s else ss j):=by grind [Reads]
section
variable {w w' : World} {B : Nat} {v v' : Value} {ws : List By}
def BF.nil:BF w B (cY cX 0 0) []:=⟨λ_=> .empty,EM.nil,λj x h=>by cases h⟩
theorem BF.slice(h:BF w B v ws):∃pu cu,v=cY pu ws.length cu:=by
 obtain⟨_,h,_⟩:=h;exact h.slice
def BF.next{C:Nat}(h:BF w B v ws)(hb:Below C w w')(hC:w.heap.size<=C):BF w' B v ws:=by
 obtain⟨ss,h,hr⟩:=h;exact⟨ss,h.next hb hC,hr⟩
def BF.kept{row:Option Nat}(h:BF w B v ws)(hg:w.grownBy w' row)(hne:v.ownBlock=cX\/v.ownBlock≠row):BF w' B v ws:=by
 obtain⟨ss,h,hr⟩:=h;exact⟨ss,h.kept hg hne,hr⟩
theorem BF.mono{B':Nat}(h:BF w B v ws)(hB:B'<=B):BF w B' v ws:=by
 obtain⟨ss,⟨h1,h2⟩,hr⟩:=h;refine⟨ss,⟨h1,?_⟩,hr⟩;rcases h2 with h2|⟨g',cap,cur,y1,y2,y3⟩
 ·exact .inl h2
 ·exact .inr ⟨g',cap,cur,y1,by omega,y3⟩
def bM(w:World)(s:ByteArray):∀j u,([cS s])[j]? =cP u->(w.alloc (Obj.cells #[cS s] 9)).cell? ((⟨w.heap.size,0,cX⟩:Addr).add j)=cP u:=by
 intro j u hu;rw[Dk,Nat.zero_add,World.cell?_alloc_mark];simpa using hu
def Ve(s:ByteArray):∀u∈ [cS s],u.oneCell'=cC:=by
 intro u hu;simp only[List.mem_cons,List.not_mem_nil,or_false]at hu;subst hu;rfl
theorem BF.row(h:BF w B v ws):∃xs,w.ownsRow B 9 1 v ws.length xs/\∀(w2:World) (v':Value) (s:ByteArray) (x:By),s.data.toList=x->w2.ownsRow B 9 1 v' (ws.length+1) (xs++[cS s])->BF w2 B v' (ws++[x]):=by
 obtain⟨ss,h,hr⟩:=h;refine⟨_,h,λw2 v' s x hx hown=>⟨_,?_,hr.push hx⟩⟩;have e:(ws++[x]).length=ws.length+1:=by simp
 grind [BF,iT,EM.push]
end
end OB
end
namespace OB
def FU(c:UInt8)(w:World):Calls prog 100 #[cI .u8 (c.toNat:Int)] w λe w'=>e=.returned (cE (Tf c))/\w=w':=by
 have e1:Tf c=(((c.toNat:Int)==32)||((c.toNat:Int)==9)):=by
  unfold Tf;congr 1
  ·rw[Bool.eq_iff_iff];simp only[beq_iff_eq];exact⟨λh=>by subst h;rfl,λh=>UInt8.toNat_inj.1 (by show c.toNat=32;omega)⟩
  ·rw[Bool.eq_iff_iff];simp only[beq_iff_eq];exact⟨λh=>by subst h;rfl,λh=>UInt8.toNat_inj.1 (by show c.toNat=9;omega)⟩
 rw[e1];generalize(c.toNat:Int)=n;cases h1:(n==32)<;>cases h2:(n==9);all_goals
  go_enter func100,ntmps100;go_wp2;go_ret;exact⟨rfl,rfl⟩
def bf(p:By):∃a,p=a++(Et p).2.1:=by
 have key:∀(p:By) (x:List By×By×Bool),∃a,x.2.1++p=a++(p.foldl LM x).2.1:=by
  intro p
  induction p with
  |nil=>intro x;exact⟨[],by simp⟩
  |cons c r ih=>
   intro x;rw[List.foldl_cons];obtain⟨a,ha⟩:=ih (LM x c);by_cases hb:Tf c=cC
   ·have e:LM x c=(fl x.1 x.2.1,[],x.2.2):=(by simp[LM,hb]);rw[e]at ha⊢;exact⟨x.2.1++[c]++a,by simp at ha⊢;exact ha⟩
   ·have e:LM x c=(x.1,x.2.1++[c],x.2.2||isBad c):=(by simp[LM,hb]);rw[e]at ha⊢;exact⟨a,by simpa using ha⟩
 obtain⟨a,ha⟩:=key p ([],[],cA);exact⟨a,by simpa[Et]using ha⟩
def PS:∀(p:By) (x:List By×By×Bool),x.2.2=cC->(p.foldl LM x).2.2=cC
 | [],_,h=>h
 |c::r,x,h=>by
  rw[List.foldl_cons];refine PS r _ ?_;unfold LM;split
  ·exact h
  ·simp[h]
def gD{a b:By}(h:(Et a).2.2=cC):CZ (a++b)=cX:=by
 unfold CZ Et;rw[List.foldl_append];exact if_pos (PS b (a.foldl LM ([],[],cA)) h)
def one(w:By):Nat:=if w=[]then 0 else 1
theorem aP(l:List By)(w:By):(fl l w).length=l.length+one w:=by grind [fl,one]
theorem Rc(p:By):(Et p).1.length+one (Et p).2.1<=p.length:=by
 have key:∀(p:By) (x:List By×By×Bool),(p.foldl LM x).1.length+one (p.foldl LM x).2.1<=x.1.length+one x.2.1+p.length:=by
  intro p
  induction p with
  |nil=>intro x;simp
  |cons c r ih=>
   intro x;rw[List.foldl_cons];refine AX (ih (LM x c)) ?_;by_cases hb:Tf c=cC
   ·have e:LM x c=(fl x.1 x.2.1,[],x.2.2):=(by simp[LM,hb]);rw[e];dsimp only;rw[aP];have:one []=0:=rfl;simp only[List.length_cons];omega
   ·have e:LM x c=(x.1,x.2.1++[c],x.2.2||isBad c):=(by simp[LM,hb]);rw[e];have:one (x.2.1++[c])=1:=(by simp[one]);dsimp only;rw[this];simp only[List.length_cons];omega
 grind [Et,one,LM,Tf,fl,isBad,aP]
def XP(s:ByteArray)(k:Nat)(h:k<s.size):s.data.toList.take (k+1)=s.data.toList.take k++[s[k]]:=by
 rw[List.take_succ_eq_append_getElem (by simpa using h)];rfl
def nP(q:Nat)(w:By):Int:=if w=[]then-1 else(q:Int)-w.length
structure WSt(w wr:World)(s:ByteArray)(q:Nat)(v:Value)(f:Int):Prop where
 bad:(Et (s.data.toList.take q)).2.2=cA
 b:AA6 w wr
 o:q<=s.size->BF wr w.heap.size v (Et (s.data.toList.take q)).1/\f=nP q (Et (s.data.toList.take q)).2.1
 z:q=s.size+1->BF wr w.heap.size v (fl (Et s.data.toList).1 (Et s.data.toList).2.1)
def Kl(w:World)(s:ByteArray)(e:Ending)(w':World):Prop:=
 AA6 w w'/\((CZ s.data.toList=cX/\e=.returned (.tuple #[cY cX 0 0,cE cA]))\/∃ws v,CZ s.data.toList=cP ws/\e=.returned (.tuple #[v,cE cC])/\BF w' w.heap.size v ws)
theorem QT(s:ByteArray)(a q:Nat)(x y:By)(h:s.data.toList.take q=x++y)(ha:x.length=a):(s.extract a q).data.toList=y:=by
 have:(s.extract a q).data.toList=(s.data.toList.take q).drop a:=by
  simp[ByteArray.data_extract,List.extract_eq_take_drop,List.drop_take]
 grind
theorem OP(s:ByteArray)(hs:s.size<=4194304)(w:World):Calls prog 60 #[cS s] w (Kl w s):=by
 obtain⟨i0,hi,hz0,hz1,hz2⟩:=info_parts AAU;go_enter func60,ntmps60;go_wp2;go_loopw[4,5,6] (λv f i wr=>∃q:Nat,q<=s.size+1/\i=cI cJ (q:Int)/\∃fi:Int,f=cI cJ fi/\WSt w wr s q v fi) (λ_ _ i _=>s.size+1-(intOf i).toNat);exact⟨0,AY,rfl,-1,rfl,⟨rfl,AL,λ_=>⟨BF.nil,rfl⟩,λh=>by omega⟩⟩;obtain⟨q,hq,rfl,fi,rfl,hW⟩:=hrel;have hB:=hW.b;by_cases hend:q=s.size+1
 ·have hz:=hW.z hend;obtain⟨pu,cu,rfl⟩:=hz.slice;have hbad:=hW.bad;have e:s.data.toList.take q=s.data.toList:=List.take_of_length_le (by simp;omega);rw[e]at hbad;have hP:Kl w s (.returned (.tuple #[.slice pu (fl (Et s.data.toList).1 (Et s.data.toList).2.1).length cu,cE cC])) wr:=
   ⟨hB,.inr ⟨_,_,by unfold CZ;rw[if_neg (by rw[hbad];simp)],rfl,hz⟩⟩
  have hlt:(s.size:Int)<q:=by omega
  go_wp2;go_ret2;exact hP
 ·obtain⟨hrow,rfl⟩:=hW.o (by omega);have hbad:=hW.bad;have qN:=bf (s.data.toList.take q);have hlen:=Rc (s.data.toList.take q);have hl2:=List.length_take_le q s.data.toList;have hl3:(s.data.toList.take q).length=q:=by
   rw[List.length_take];have:s.data.toList.length=s.size:=(by simp);omega
  rcases hrun:Et (s.data.toList.take q)with⟨lw,ww,bb⟩;rw[hrun]at hrow hbad qN hlen;dsimp only at hrow hbad qN hlen;subst hbad;obtain⟨x,hx⟩:=qN;have hxl:x.length+ww.length=q:=by
   have:=congrArg List.length hx;rw[hl3,List.length_append]at this;omega
  have Sy:lw.length<=4194304:=by omega
  obtain⟨pu,cu,rfl⟩:=hrow.slice;obtain⟨xs,hown,hput⟩:=hrow.row;have hsz:=hB.size;have HF:∀w2 v',ww≠ []->w2.ownsRow w.heap.size 9 1 v' (lw.length+1) (xs++[cS (s.extract x.length q)])->BF w2 w.heap.size v' (fl lw ww):=λw2 v' hw ho=>by
   rw[lT _ hw];exact hput w2 v' _ _ (QT s x.length q x _ hx rfl) ho
  have HG:∀w2,(wr.alloc (Obj.cells #[cS (s.extract x.length q)] 9)).grownBy w2 (cY pu lw.length cu).ownBlock->AA6 w w2:=λw2 hg=>
   (hB.alloc hsz _).grown hg (by simp;omega) λg e=>(hown.lt g e).1
  have hnews:=bM wr (s.extract x.length q);have hfr:(ww=[]/\nP q ww= -1)\/(ww≠ []/\nP q ww=(x.length:Int)):=by
   unfold nP;by_cases hw:ww=[]
   ·exact .inl ⟨hw,if_pos hw⟩
   ·exact .inr ⟨hw,by rw[if_neg hw];omega⟩
  have hxq:x.length<=q:=by omega
  have AJH:(4194305:Nat)<=maxLen:=by unfold maxLen;omega
  by_cases hqs:q=s.size
  ·have e:s.data.toList.take q=s.data.toList:=List.take_of_length_le (by simp;omega);have hall:Et s.data.toList=(lw,ww,cA):=(by rw[<-e];exact hrun);have hfin:∀v2 w2 f,BF w2 w.heap.size v2 (fl lw ww)->AA6 w w2->WSt w w2 s (q+1) v2 f:=λv2 w2 f h1 h2=>
    ⟨by rw[List.take_of_length_le (by simp;omega),hall],h2,λh=>by omega,λ_=>by rw[hall];exact h1⟩
   subst hqs;rcases hfr with⟨hw,hf⟩|⟨hw,hf⟩
   ·rw[hf];have h2:=hfin _ wr (-1) (by rw[hw,aO];exact hrow) hB;go_wp2;go_roundw;exact⟨s.size+1,by omega,by go_num,-1,rfl,h2⟩;simp[intOf]
   ·rw[hf];go_wp2_with(at_builtin;refine wpList_append_own _ rfl _ _ 78 rfl w.heap.size 9 i0 _ 1 16 underlying78 hi hz0 hz1 hz2 rfl (by decide) _ _ _ rfl (hown.alloc _) ⟨wr.heap.size,0,cX⟩ 1 1 [cS (s.extract x.length s.size)] rfl rfl hnews (Ve _) ?d1 ?d2 ?d3 ?_)
    case d1=>omega
    case d2=>omega
    case d3=>simp;omega
    intro v2 w2 hown2 hg2 _;have h2:=hfin v2 w2 (-1) (HF _ _ hw hown2) (HG _ hg2);obtain⟨pu2,cu2,rfl⟩:=Bf hown2;go_wp2;go_roundw;exact⟨s.size+1,by omega,by go_num,-1,rfl,h2⟩;simp[intOf]
  ·have hlt:q<s.size:=(by omega);have hc:=XP s q hlt;generalize hcc:s[q]=c at hc;have hcell:s[q]=c:=hcc;have hnx:Et (s.data.toList.take (q+1))=LM (lw,ww,cA) c:=(by rw[hc,Xg,hrun]);cases hbl:Tf c
   ·have hnx2:Et (s.data.toList.take (q+1))=(lw,ww++[c],isBad c):=(by rw[hnx];simp[LM,hbl]);cases hbd:isBad c
    ·rw[hbd]at hnx2;have h32:¬(c.toNat:Int)<=32:=(by simp[isBad]at hbd;omega);have AEj:¬(126:Int)<c.toNat:=(by simp[isBad]at hbd;omega);have hfin:∀f,f=nP (q+1) (ww++[c])->WSt w wr s (q+1) (cY pu lw.length cu) f:=λf h=>
      ⟨by rw[hnx2],hB,λ_=>by rw[hnx2];exact⟨hrow,h⟩,λh=>by omega⟩
     have hfr2:nP (q+1) (ww++[c])=(x.length:Int):=by
      unfold nP;rw[if_neg (by simp),List.length_append,List.length_singleton];omega
     rw[hfr2]at hfin;rcases hfr with⟨hw,hf⟩|⟨hw,hf⟩
     ·rw[hf];have iq:(q:Int)=x.length:=(by rw[hw]at hxl;simp at hxl;omega);have h2:=hfin (q:Int) iq;clear iq hxl;(go_wp2_with(go_at_call 100;refine(FU c _).mono ?_;rintro e w2 ⟨rfl,rfl⟩;try rw[hbl]));go_roundw;exact⟨q+1,by omega,by go_num,(q:Int),rfl,h2⟩;simp[intOf];omega
     ·rw[hf];have h2:=hfin _ rfl;have hx0:¬(x.length:Int)<0:=(by omega);generalize(x.length:Int)=fx at h2 hx0⊢;(go_wp2_with(go_at_call 100;refine(FU c _).mono ?_;rintro e w2 ⟨rfl,rfl⟩;try rw[hbl]));go_roundw;exact⟨q+1,by omega,by go_num,_,rfl,h2⟩;simp[intOf];omega
    ·have hno:CZ s.data.toList=cX:=by
      have:=gD (b:=s.data.toList.drop (q+1)) (by rw[hnx2];exact hbd:(Et (s.data.toList.take (q+1))).2.2=cC);rwa[List.take_append_drop]at this
     have hP:Kl w s (.returned (.tuple #[cY cX 0 0,cE cA])) wr:=⟨hB,.inl ⟨hno,rfl⟩⟩;have K3:(c.toNat:Int)<=32\/¬(c.toNat:Int)<=32/\(126:Int)<c.toNat:=(by simp[isBad]at hbd;omega);generalize nP q ww=fw;rcases K3 with h32|⟨h32,AEj⟩
     ·(go_wp2_with(go_at_call 100;refine(FU c _).mono ?_;rintro e w2 ⟨rfl,rfl⟩;try rw[hbl]));go_ret2;exact hP
     ·(go_wp2_with(go_at_call 100;refine(FU c _).mono ?_;rintro e w2 ⟨rfl,rfl⟩;try rw[hbl]));go_ret2;exact hP
   ·have hnx2:Et (s.data.toList.take (q+1))=(fl lw ww,[],cA):=(by rw[hnx];simp[LM,hbl]);have hfin:∀v2 w2,BF w2 w.heap.size v2 (fl lw ww)->AA6 w w2->WSt w w2 s (q+1) v2 (-1):=λv2 w2 h1 h2=>
     ⟨by rw[hnx2],h2,λ_=>by rw[hnx2];exact⟨h1,rfl⟩,λh=>by omega⟩
    rcases hfr with⟨hw,hf⟩|⟨hw,hf⟩
    ·rw[hf];have h2:=hfin _ wr (by rw[hw,aO];exact hrow) hB;(go_wp2_with(go_at_call 100;refine(FU c _).mono ?_;rintro e w2 ⟨rfl,rfl⟩;try rw[hbl]));go_roundw;exact⟨q+1,by omega,by go_num,-1,rfl,h2⟩;simp[intOf];omega
    ·rw[hf];go_wp2_with(first|(go_at_call 100;refine(FU c _).mono ?_;rintro e w2 ⟨rfl,rfl⟩;try rw[hbl])|(at_builtin;refine wpList_append_own _ rfl _ _ 78 rfl w.heap.size 9 i0 _ 1 16 underlying78 hi hz0 hz1 hz2 rfl (by decide) _ _ _ rfl (hown.alloc _) ⟨wr.heap.size,0,cX⟩ 1 1 [cS (s.extract x.length q)] rfl rfl hnews (Ve _) ?d1 ?d2 ?d3 ?_))
     case d1=>omega
     case d2=>omega
     case d3=>simp;omega
     intro v2 w2 hown2 hg2 _;have h2:=hfin v2 w2 (HF _ _ hw hown2) (HG _ hg2);obtain⟨pu2,cu2,rfl⟩:=Bf hown2;go_wp2;go_roundw;exact⟨q+1,by omega,by go_num,-1,rfl,h2⟩;simp[intOf];omega
end OB
end Go.Proofs.YtlffomedflegdaaGreatDoor
