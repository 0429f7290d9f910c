/- Part 22 of the proof: LinB, Tn, To, Tq, Tr, Viq, Tv, Ts. -/
import Derived.Test.YtlffomedflegdaaGreatDoorPd10
import Derived.Test.YtlffomedflegdaaGreatDoorPd20
import Derived.Test.YtlffomedflegdaaGreatDoorPd21
set_option linter.all false
set_option maxHeartbeats 16000000
set_option maxRecDepth 100000
namespace Go.Proofs.YtlffomedflegdaaGreatDoor
open Go.Proofs.Tryz
open Go.RowKit
open Go.Value renaming int→cI,string→cS,slice→cY,bool→cE
open Go.IntKind renaming i64→cJ
open Option renaming some→cP,none→cX
open Bool renaming false→cA,true→cC
variable {B i k n:Nat}{cs:List Value}{fr gl hp mk tr v:Value}{p:Pg}{q:Q6}{s:St}{t:TypeId}{w:World}{α:Type}
section
namespace OB
def RF(ns:Nat->Nat)(vs:Nat->Value)(i k:Nat):Value:=if k=0 then cI cJ (ns i:Int)else vs i
def Cb(T:TypeId)(w:World)(B:Nat)(v:Value)(l:List Ln):Prop:=
 ∃ns vs,EM w B T 2 v l.length (RF ns vs)/\∀(j:Nat) x,l[j]? =cP x->ns j=x.1/\BF w B (vs j) x.2
section
variable {T : TypeId} {w w' : World} {B : Nat} {v v' : Value} {l : List Ln}
def Cb.nil:Cb T w B (cY cX 0 0) []:=⟨λ_=>0,λ_=> cY cX 0 0,EM.nil,λj x h=>by cases h⟩
theorem Cb.slice(h:Cb T w B v l):∃pu cu,v=cY pu l.length cu:=by
 obtain⟨_,_,h,_⟩:=h;exact h.slice
def Cb.next{C:Nat}(h:Cb T w B v l)(hb:Below C w w')(hC:w.heap.size<=C):Cb T w' B v l:=by
 obtain⟨ns,vs,h,hr⟩:=h;exact⟨ns,vs,h.next hb hC,λj x hx=>⟨(hr j x hx).1,(hr j x hx).2.next hb hC⟩⟩
def Cb.mono{B':Nat}(h:Cb T w B v l)(hB:B'<=B):Cb T w B' v l:=by
 obtain⟨ns,vs,⟨h1,h2⟩,hr⟩:=h;refine⟨ns,vs,⟨h1,?_⟩,λj x hx=>⟨(hr j x hx).1,(hr j x hx).2.mono hB⟩⟩;rcases h2 with h2|⟨g',cap,cur,y1,y2,y3⟩
 ·exact .inl h2
 ·exact .inr ⟨g',cap,cur,y1,by omega,y3⟩
def BF.grown{u:Value}{ws:List By}{s:Nat}{f:Nat->Nat->Value}(h:BF w B u ws)(hT:9≠T)(ho:EM w B T s v n f)(hg:w.grownBy w' v.ownBlock):BF w' B u ws:=by
 refine h.kept hg ?_
 cases hu:u.ownBlock with
 |none=>exact .inl rfl
 |some g=>
  obtain⟨ss,h,_⟩:=h;exact .inr λe=>h.unlike ho hT hu e.symm
theorem Cb.row(h:Cb T w B v l)(hT:9≠T):∃xs,w.ownsRow B T 2 v l.length xs/\∀(w2:World) (v' u:Value) (n:Nat) (ws:List By) (o:Obj),BF w B u ws->(w.alloc o).grownBy w2 v.ownBlock->w2.ownsRow B T 2 v' (l.length+1) (xs++[cI cJ (n:Int),u])->Cb T w2 B v' (l++[(n,ws)]):=by
 obtain⟨ns,vs,h,hr⟩:=h;refine⟨_,h,λw2 v' u n ws o hu hg hown=>?_⟩;have keep:∀{u ws},BF w B u ws->BF w2 B u ws:=λhu=>
  (hu.next (AJ w o) (AQ)).grown hT (h.alloc o) hg
 refine⟨λj=>if j=l.length then n else ns j,λj=>if j=l.length then u else vs j,?_,λj x hx=>?_⟩
 ·have e:(l++[(n,ws)]).length=l.length+1:=by simp
  rw[e];refine EM.push hown (λi k hi _=>?_) ?_
  ·simp only[RF,if_neg (by omega:i≠l.length)]
  ·simp[List.range_succ,RF]
 grind
def YD(w:World)(n:Int)(u:Value):∀j x,([cI cJ n,u])[j]? =cP x->(w.alloc (Obj.cells #[cI cJ n,u] T)).cell? ((⟨w.heap.size,0,cX⟩:Addr).add j)=cP x:=by
 intro j x hx;rw[Dk,Nat.zero_add,World.cell?_alloc_mark];simpa using hx
def dn(n:Int){p:Option Addr}{a b:Nat}:∀x∈ [cI cJ n,cY p a b],x.oneCell'=cC:=by
 intro x hx;simp only[List.mem_cons,List.not_mem_nil,or_false]at hx;rcases hx with rfl|rfl<;>rfl
end
def SF:∀(s:By) (p:By),p∈Au s->p.length<=s.length:=by
 intro s
 induction s with
 |nil=>intro p h;simp[Au]at h;subst h;simp
 |cons c r ih=>
  intro p h;unfold Au at h;split at h
  ·rcases List.mem_cons.1 h with rfl|h
   ·simp
   ·have:=ih p h;simp;omega
  ·split at h
   ·simp at h;subst h;simp
   ·rename_i p0 a e
    rcases List.mem_cons.1 h with rfl|h
    ·have:=ih p0 (by rw[e];simp);simp;omega
    ·have:=ih p (by rw[e];simp[h]);simp;omega
def NQ(p:By):(Dj p).length<=p.length:=by
 unfold Dj;exact(List.takeWhile_prefix _).length_le
def QI(p:ByteArray)(hp:p.size<=4194304)(m:Int)(w:World)(hm:w.cell? ⟨1,0,cX⟩=cP (cI cJ m)):Calls prog 59 #[cS p,cS ⟨#[59]⟩] w λe w'=> ∃(c:ByteArray) (b:ByteArray) (d:Bool),e=.returned (.tuple #[cS c,cS b,cE d])/\c.data.toList=Dj p.data.toList/\c.size<=p.size/\∃n,w'=w.drewN n:=by
 refine(Tryz.strings_Cut p ⟨#[59]⟩ m w (by omega) hm).mono ?_;rintro e w' ⟨rfl,hn⟩;have h:(Lib.cut p.data.toList (⟨#[59]⟩:ByteArray).data.toList).1=Dj p.data.toList:=mJ p.data.toList;refine⟨_,_,_,rfl,?_,?_,hn⟩
 ·rw[h]
 ·rw[h];have h2:=NQ p.data.toList;have e1:p.data.toList.length=p.size:=by simp
  have e2:(⟨(Dj p.data.toList).toArray⟩:ByteArray).size=(Dj p.data.toList).length:=by simp[ByteArray.size]
  omega
theorem ay(s:ByteArray)(hs:s.size<=4194304)(p:By)(hp:s.data.toList=p)(h:CZ p=cX)(w:World):Calls prog 60 #[cS s] w λe w'=>e=.returned (.tuple #[cY cX 0 0,cE cA])/\AA6 w w':=by
 subst hp;refine(OP s hs w).mono ?_;rintro e w' ⟨hb,⟨_,rfl⟩|⟨ws,v,h2,_⟩⟩
 ·exact⟨rfl,hb⟩
 grind
theorem OO(s:ByteArray)(hs:s.size<=4194304)(p:By)(hp:s.data.toList=p){ws:List By}(h:CZ p=cP ws)(w:World):Calls prog 60 #[cS s] w λe w'=> ∃pu cu,e=.returned (.tuple #[cY pu ws.length cu,cE cC])/\AA6 w w'/\BF w' w.heap.size (cY pu ws.length cu) ws:=by
 subst hp;refine(OP s hs w).mono ?_;rintro e w' ⟨hb,⟨h2,rfl⟩|⟨ws2,v,h2,rfl,hr⟩⟩
 ·rw[h]at h2;cases h2
 ·rw[h]at h2;cases h2;obtain⟨pu,cu,rfl⟩:=hr.slice;exact⟨pu,cu,rfl,hb,hr⟩
theorem XE{p:By}{ws:List By}(h:CZ p=cP ws):ws.length<=p.length:=by grind [CZ,Rc,aP]
def Km(T:TypeId)(w:World)(s:ByteArray)(e:Ending)(w':World):Prop:=
 AA6 w w'/\match Jm s.data.toList with
  |.inl l=>∃v,e=.returned (.tuple #[v,cI cJ 0,cI cJ 0])/\Cb T w' w.heap.size v l
  |.inr k=>e=.returned (.tuple #[cY cX 0 0,cI cJ (k:Int),cI cJ 3])
structure rH(T:TypeId)(w1 wr:World)(ps:List By)(q:Nat)(v:Value)(l:List Ln):Prop where
 b:AA6 w1 wr
 o:Cb T wr w1.heap.size v l
 g:Qb 1 (ps.take q)=.inl l
 n:l.length<=q
structure Pcs(s:ByteArray)(N:Nat)(p:Nat->ByteArray):Prop where
 le:N<=4194305
 sz:∀q,q<N->(p q).size<=4194304
 all:(Au s.data.toList).take N=Au s.data.toList
 err:∀q l,q<N->Qb 1 ((Au s.data.toList).take q)=.inl l->CZ (Dj (p q).data.toList)=cX->Jm s.data.toList=.inr (q+1)
 go:∀q l ws,q<N->Qb 1 ((Au s.data.toList).take q)=.inl l->CZ (Dj (p q).data.toList)=cP ws->Qb 1 ((Au s.data.toList).take (q+1))=.inl (if ws=[]then l else l++[(q+1,ws)])
theorem pcs(s:ByteArray)(hs:s.size<=4194304):Pcs s (pieces s).length (λq=>(pieces s).getD q .empty):=by
 have hps:=K8 s;have hpl:=NI s;have e0:s.data.toList.length=s.size:=by simp
 have hd:∀q,q<(pieces s).length->(Au s.data.toList)[q]? =cP ((pieces s).getD q .empty).data.toList:=λq h=>by
  rw[<-hps];simp[h]
 have hll:(Au s.data.toList).length=(pieces s).length:=by rw[<-hps];simp
 have hstep:∀q,q<(pieces s).length->(Au s.data.toList).take (q+1)=(Au s.data.toList).take q++[((pieces s).getD q .empty).data.toList]:=λq h=>by
  rw[List.take_add_one,hd q h];rfl
 have hlen:∀q,q<=(pieces s).length->((Au s.data.toList).take q).length=q:=λq h=>by
  rw[List.length_take];omega
 refine⟨?_,λq h=>?_,?_,λq l h h1 h2=>?_,λq l ws h h1 h2=>?_⟩
 ·rw[hpl];have:=List.count_le_length (a:=(10:UInt8)) (l:=s.data.toList);omega
 ·have h1:=List.mem_of_getElem? (hd q h);have h2:=SF _ _ h1;have e2:((pieces s).getD q .empty).data.toList.length=((pieces s).getD q .empty).size:=by simp
  show((pieces s).getD q .empty).size<=_;omega
 ·rw[List.take_of_length_le (by omega)]
 ·have e:Au s.data.toList=(Au s.data.toList).take q++((pieces s).getD q .empty).data.toList::(Au s.data.toList).drop (q+1):=by
   have h3:=hstep q h;have h4:=(List.take_append_drop (q+1) (Au s.data.toList)).symm;rw[h3,List.append_assoc]at h4;exact h4
  unfold Jm;rw[e,V5,h1];dsimp only;rw[hlen q (by omega),Jz,h2];rw[Nat.add_comm]
 ·rw[hstep q h,V5,h1];dsimp only;rw[hlen q (by omega),Jz,h2];dsimp only;rw[Qb];dsimp only;split
  ·rw[List.append_nil]
  ·rw[Nat.add_comm]
def SN(s:ByteArray)(hs:s.size<=4194304):∃N p,Pcs s N p/\∀m w,w.cell? ⟨1,0,cX⟩=cP (cI cJ m)->Calls prog 58 #[cS s,cS mg] w λe w'=> e=.returned (cY (cP ⟨w.heap.size,0,cX⟩) N N)/\AA6 w w'/\w'.heap.size=w.heap.size+1/\w'.cell? ⟨1,0,cX⟩=cP (cI cJ m)/\∀q,q<N->w'.cell? ⟨w.heap.size,q,cX⟩=cP (cS (p q)):=by
 refine⟨_,_,pcs s hs,λm w hm=>?_⟩;have hwz:1<w.heap.size:=World.block_lt_of_cell? w _ hm;have hcall:=Tryz.strings_Split s mg m w (by omega) hm (by decide);have hcount:Lib.countB s mg+1=(pieces s).length:=by rw[NI,PI]
 have hpe:(Lib.splitB mg 0 (Lib.countB s mg) s)=pieces s:=rfl;rw[hcount,hpe]at hcall;refine hcall.mono ?_;rintro e w' ⟨rfl,rfl⟩;refine⟨rfl,AJ w _,by simp,by rw[World.cell?_alloc_lt _ _ _ hwz];exact hm,λq h=>?_⟩;simp_all
theorem XV(s:ByteArray)(hs:s.size<=4194304)(m:Int)(w:World)(hm:w.cell? ⟨1,0,cX⟩=cP (cI cJ m)):Calls prog 36 #[cS s] w (Km 109 w s):=by
 obtain⟨i0,hi,hz0,hz1,hz2⟩:=info_parts AAV;have hle:¬(4194304:Int)<s.size:=by omega
 have hwz:1<w.heap.size:=World.block_lt_of_cell? w _ hm;obtain⟨N,p,hp,hcall⟩:=SN s hs;have hNn:=hp.le;go_enter func36,ntmps36;go_wp2_with(go_at_call 58;refine(hcall m _ hm).mono ?_;rintro e w1 ⟨rfl,hW0,hW1,hm1,hread⟩)
 go_loopw[5,6,7,8,9,16] (λv _ _ _ _ i wr=>∃q:Nat,q<=N/\i=cI cJ (q:Int)/\∃l,rH 109 w1 wr (Au s.data.toList) q v l) (λ_ _ _ _ _ i _=>N-(intOf i).toNat);exact⟨0,AY,rfl,[],⟨AL,Cb.nil,rfl,AQ⟩⟩;obtain⟨q,hq,rfl,l,hW⟩:=hrel;have hB:=hW.b;have hrow:=hW.o;obtain⟨pu,cu,rfl⟩:=hrow.slice;have hg:=hW.g;have hln:=hW.n;have hBB:AA6 w wr:=hW0.trans (hB.mono (by omega));by_cases hend:q=N
 ·subst hend;have hP:Km 109 w s (.returned (.tuple #[cY pu l.length cu,cI cJ 0,cI cJ 0])) wr:=by
   refine⟨hBB,?_⟩;unfold Jm;rw[<-hp.all,hg];exact⟨_,rfl,hrow.mono (by omega)⟩
  go_wp2;go_ret3;exact hP
 ·have hlt:q<N:=by omega
  have A8:(q:Int)<N:=by omega
  have hm2:wr.cell? ⟨1,0,cX⟩=cP (cI cJ m):=by rw[hB.cell (by show 1<w1.heap.size;omega)];exact hm1
  have hr2:wr.cell? ⟨w.heap.size,q,cX⟩=cP (cS (p q)):=by rw[hB.cell (by show w.heap.size<w1.heap.size;omega)];exact hread q hlt
  have hpz:=hp.sz q hlt;have AD9:=hp.err q l hlt hg;have hgo:=hp.go q l;have AD7:∀ws,CZ (Dj (p q).data.toList)=cP ws->Qb 1 ((Au s.data.toList).take (q+1))=.inl (if ws=[]then l else l++[(q+1,ws)]):=λws h=>hgo ws hlt hg h;generalize hpq:p q=pc at*
  cases hwo:CZ (Dj pc.data.toList)with
  |none=>
   have hout:=AD9 hwo;(go_wp2_with(first|(go_at_call 59;refine(QI pc hpz m _ hm2).mono ?_;rintro e w2 ⟨c,b,d,rfl,hc1,hc2,n,rfl⟩)|(go_at_call 60;refine(ay c (AX hc2 hpz) _ hc1 hwo _).mono ?_;rintro e w3 ⟨rfl,hb3⟩)));have hP:Km 109 w s (.returned (.tuple #[cY cX 0 0,cI cJ ((q:Int)+1),cI cJ 3])) w3:=by
    refine⟨hBB.trans ((below_drewN (Below.refl wr.heap.size wr) n).trans hb3|>.mono hBB.size),?_⟩;rw[hout];rfl
   go_wp2;go_ret3
   exact hP
  |some ws=>
   have hg2:=AD7 ws hwo;have hwl:=XE hwo;have hcl:=NQ pc.data.toList;have hpl:pc.data.toList.length=pc.size:=(by simp);have AJG:ws.length<=4194304:=(by omega);have hBs:=hB.size;by_cases hws:ws=[]
   ·rw[if_pos hws]at hg2;have hl0:ws.length=0:=(by rw[hws];rfl);(go_wp2_with(first|(go_at_call 59;refine(QI pc hpz m _ hm2).mono ?_;rintro e w2 ⟨c,b,d,rfl,hc1,hc2,n,rfl⟩)|(go_at_call 60;refine(OO c (AX hc2 hpz) _ hc1 hwo _).mono ?_;rintro e w3 ⟨pw,cw,rfl,hb3,hwr⟩;have hb4:=(below_drewN (Below.refl wr.heap.size wr) n).trans hb3;have hr3:=hrow.next hb4 (AQ);obtain⟨xs,hown,hput⟩:=hr3.row (by decide);clear hrow hm2 hr2)));have hW:rH 109 w1 w3 (Au s.data.toList) (q+1) (cY pu l.length cu) l:=⟨hB.trans (hb4.mono hBs),hr3,hg2,by omega⟩;go_wp2;go_roundw;exact⟨q+1,by omega,by go_num,_,hW⟩;simp[intOf];omega
   ·rw[if_neg hws]at hg2;have hl0:0<(ws.length:Int):=(by have:=List.length_pos_iff.2 hws;omega);go_wp2_with(first|(go_at_call 59;refine(QI pc hpz m _ hm2).mono ?_;rintro e w2 ⟨c,b,d,rfl,hc1,hc2,n,rfl⟩)|(go_at_call 60;refine(OO c (AX hc2 hpz) _ hc1 hwo _).mono ?_;rintro e w3 ⟨pw,cw,rfl,hb3,hwr⟩;have hb4:=(below_drewN (Below.refl wr.heap.size wr) n).trans hb3;have hr3:=hrow.next hb4 (AQ);obtain⟨xs,hown,hput⟩:=hr3.row (by decide);clear hrow hm2 hr2)|(at_builtin;refine wpList_append_own _ rfl _ _ 99 rfl w1.heap.size 109 i0 _ 2 32 underlying99 hi hz0 hz1 hz2 rfl (by decide) _ _ _ rfl (hown.alloc _) ⟨w3.heap.size,0,cX⟩ 1 1 [cI cJ ((q:Int)+1),cY pw ws.length cw] rfl rfl (YD _ _ _) (dn _) ?d1 ?d2 ?d3 ?_))
    case d1=>
     have:(4194307:Nat)<=maxLen:=(by unfold maxLen;omega);omega
    case d2=>omega
    case d3=>
     have h1:=hb4.size;simp;omega
    intro v2 w4 hown2 hg4 _;rw[<-hW1]at hown2;have hr4:=hput w4 v2 _ (q+1) ws _ (hwr.mono hBs) hg4 hown2;have hB4:AA6 w1 w4:=((hB.trans (hb4.mono hBs)).alloc (by have:=hb4.size;omega) _).grown hg4 (by have:=hb4.size;simp;omega) λg e=>(hown.lt g e).1;obtain⟨pu2,cu2,rfl⟩:=Bf hown2;have hW:rH 109 w1 w4 (Au s.data.toList) (q+1) (cY pu2 (l.length+1) cu2) (l++[(q+1,ws)]):=⟨hB4,hr4,hg2,by simp;omega⟩;go_wp2;go_roundw;exact⟨q+1,by omega,by go_num,_,hW⟩;simp[intOf];omega
end OB
end
section
open Word Num Dp
abbrev awS:ByteArray:=⟨#[102,117,110,99,32,102,32,105,110,116,10,112,97,114,97,109,32,107,32,105,110,116,10,98,108,111,99,107,32,97,10,111,117,116,32,107,10,114,101,116,32,107,10]⟩
theorem bA{ws:List (List UInt8)}{bs:List ByteArray}(h:OB.BF w B v ws)(hb:bs.map (λs=>s.data.toList)=ws)(hl:bs.length<=100)(hz:∀s∈bs,Sz s):Row DL 1 w v bs:=by
 obtain⟨ss,h,hr⟩:=h;have hn:ws.length=bs.length:=by rw[<-hb,List.length_map]
 rw[hn]at h;rcases Nat.eq_zero_or_pos bs.length with h0|h0
 ·rw[h0]at h;rcases h.2 with⟨rfl,-⟩|⟨g,cap,cur,rfl,-,-,h1,-⟩
  ·exact⟨cX,0,by rw[h0],λ_=>⟨h0,rfl⟩,⟨by omega,by omega⟩,λi x hx=>by rw[List.getElem?_eq_none (by omega)]at hx;cases hx⟩
  ·exact⟨cP ⟨g,0,cX⟩,cap,by rw[h0],(λh=>by cases h),⟨by omega,by omega⟩,λi x hx=>by rw[List.getElem?_eq_none (by omega)]at hx;cases hx⟩
 ·obtain⟨g,cu,rfl,-,-,hle,hc,-⟩:=h.at h0;refine⟨cP ⟨g,0,cX⟩,cu,rfl,(λh=>by cases h),⟨by omega,hle⟩,λi x hx=>⟨_,rfl,?_,hz x (List.mem_of_getElem? hx)⟩⟩;obtain⟨hi,-⟩:=List.getElem?_eq_some_iff.1 hx;have h1:=hc i 0 hi (by omega);have h2:=hr i x.data.toList (by rw[<-hb,List.getElem?_map,hx];rfl);have h3:ss i=x:=by
   apply ByteArray.ext;apply Array.ext';exact h2
  have h4:w.cell? ⟨g,i,cX⟩=cP (cS x):=by simpa[OB.iT,h3]using h1
  cases i<;>simpa[Addr.add]using h4
theorem dZ:OB.Jm awS.data.toList=.inl [(1,[Q7.data.toList,wF.data.toList,CG.data.toList]),(2,[ML.data.toList,wK.data.toList,CG.data.toList]),(3,[MN.data.toList,wA.data.toList]),(4,[L6.data.toList,wK.data.toList]),(5,[Wh.data.toList,wK.data.toList])]:=by decide
def kV{T:TypeId}{l:List (Nat×List (List UInt8))}(h:OB.Cb T w B v l)(h0:0<l.length):∃g cu,v=cY (cP ⟨g,0,cX⟩) l.length cu/\B<=g/\∀(j:Nat) x,l[j]? =cP x->w.cell? ⟨g,j*2,cX⟩=cP (cI cJ (x.1:Int))/\∃u,w.cell? ⟨g,j*2+1,cX⟩=cP u/\OB.BF w B u x.2:=by
 obtain⟨ns,vs,h,hr⟩:=h;obtain⟨g,cu,rfl,hg,-,-,hc,-⟩:=h.at h0;refine⟨g,cu,rfl,hg,λj x hx=>?_⟩;obtain⟨hi,-⟩:=List.getElem?_eq_some_iff.1 hx;have h1:=hc j 0 hi (by omega);have h2:=hc j 1 hi (by omega);obtain⟨e1,e2⟩:=hr j x hx;refine⟨?_,vs j,?_,e2⟩
 ·rw[Nat.add_zero]at h1;rw[h1];simp[OB.RF,e1]
 ·rw[h2];simp[OB.RF]
end
section
open Word Num Dp
abbrev gH:Pg:=gX nU
abbrev zP:List Value:=[cE cA,cY cX 0 0,cY cX 0 0,cY cX 0 0,cY cX 0 0]
abbrev zR:List Value:=[cE cA,cY cX 0 0,cY cX 0 0,cY cX 0 0,cY cX 0 0,cI cJ 0,cI cJ 0,cE cC,cI cJ (-1)]
def AA2(w':World)(e:Ending):Prop:=∃u1 u2 u3 u4,e=.returned (.tuple #[.agg #[cE cA,u1,u2,u3,u4],cI cJ 0,cI cJ 0])/\Cj w' (.agg #[cE cA,u1,u2,u3,u4]) gH u1 u2 u3 u4
def rF:Nat->List Fn
 |0=> []
 |1=> [⟨wF,CG,[],[],[]⟩]
 |2=> [⟨wF,CG,[⟨wK,CG⟩],[],[]⟩]
 |3=> [WW Yz]
 |4=> [WW gU]
 |_=> [WW nU]
def qG:Nat->Int
 |0=>0
 |1=>2
 |2=>2
 |3=>4
 |4=>5
 |_=>0
def qJ:Nat->Int
 |0=> -1
 |1=>0
 |2=>0
 |3=>0
 |_=>1
def JQ:Nat->List ByteArray
 |0=> [Q7,wF,CG]
 |1=> [ML,wK,CG]
 |2=> [MN,wA]
 |3=> [L6,wK]
 |_=> [Wh,wK]
abbrev ig:List (Nat×List (List UInt8)):=[(1,[Q7.data.toList,wF.data.toList,CG.data.toList]),(2,[ML.data.toList,wK.data.toList,CG.data.toList]),(3,[MN.data.toList,wA.data.toList]),(4,[L6.data.toList,wK.data.toList]),(5,[Wh.data.toList,wK.data.toList])]
def dw{w0:World}{R:Nat}(hB:w0.heap.size<=B)(q:Nat)(hq:q<5)(ln:Int):OM w0 B R (JQ q) ln (rF q) (rF (q+1)) (qG q) (qJ q) (qG (q+1)) (qJ (q+1)):=by
 obtain rfl|rfl|rfl|rfl|rfl:q=0\/q=1\/q=2\/q=3\/q=4:=by omega
 ·exact AAR hB ln
 ·exact AAQ hB ln
 ·exact AAP hB ln
 ·exact AAO hB ln
 ·exact AAN hB ln
def bJ{s:ByteArray}(h:s.size<=5):Sz s:=by unfold Sz;omega
theorem bB(q:Nat)(hq:q<5){x:Nat×List (List UInt8)}(hx:ig[q]? =cP x)(h:OB.BF w B v x.2):x.1=q+1/\Row DL 1 w v (JQ q):=by
 obtain rfl|rfl|rfl|rfl|rfl:q=0\/q=1\/q=2\/q=3\/q=4:=by omega
 all_goals
  obtain rfl:_=x:=Option.some.inj hx;refine⟨rfl,bA h rfl (by decide) λs hs=>?_⟩;simp only[JQ,List.mem_cons,List.mem_nil_iff,or_false]at hs;rcases hs with rfl|rfl|rfl<;>exact bJ (by decide)
def SK{fn:Func}{p t u:Tmp}{ty1 oo ty3:TypeId}(h:fn.results=#[.cell p ty1,.cell t oo,.cell u ty3])(tmps:Array Value)(P:Program)(w:World):(results fn tmps).run P w=((asAddr (tmps.getD p undef)).run P w).andThen λa w₁=>((loadVar ty1 a).run P w₁).andThen λv w₂=>((asAddr (tmps.getD t undef)).run P w₂).andThen λa2 w₃=>((loadVar oo a2).run P w₃).andThen λv2 w₄=>((asAddr (tmps.getD u undef)).run P w₄).andThen λa3 w₅=>((loadVar ty3 a3).run P w₅).andThen λv3 w₆=> .ok (.tuple #[v,v2,v3]) w₆:=by
 simp only[results,h];simp[Sem.run_bind,Result.andThen]
theorem ru(w:World):Sr (w.alloc (Obj.cells #[cE cA,cY cX 0 0,cY cX 0 0,cY cX 0 0,cY cX 0 0,cI cJ 0,cI cJ 0,cE cC,cI cJ (-1)] 104)) w.heap.size (w.alloc (Obj.cells #[cE cA,cY cX 0 0,cY cX 0 0,cY cX 0 0,cY cX 0 0,cI cJ 0,cI cJ 0,cE cC,cI cJ (-1)] 104)).heap.size w.heap.size q0P 0 0 cC (-1):=
 have hx:=Ae.alloc w zR 104
 ⟨⟨AQ,by simp,AQ,_,Af.of (AP.ca (l:=[.cell (cE cA),.row 153 2 [],.row 71 2 [],.row 155 2 [],.row 66 5 []]) (AP.cc (hx.c 0 _ rfl) rfl (AP.cr (l:=[]) (hx.c 1 _ rfl) AZ.nil (AP.cr (l:=[]) (hx.c 2 _ rfl) AZ.nil (AP.cr (l:=[]) (hx.c 3 _ rfl) AZ.nil (AP.cr (l:=[]) (hx.c 4 _ rfl) AZ.nil AP.cn))))) (AP.cc (hx.c 5 _ rfl) rfl (AP.cc (hx.c 6 _ rfl) rfl (AP.cc (hx.c 7 _ rfl) rfl (AP.cc (hx.c 8 _ rfl) rfl AP.cn))))),by simp,by simp⟩,⟨_,heap_alloc_new w _⟩⟩
def o5:oPg gH:=by
 refine⟨⟨by decide,by simp⟩,⟨by decide,by simp⟩,⟨by decide,by simp⟩,by decide,?_⟩;simp only[List.mem_singleton,forall_eq,oFn,oBk,oIs,oTm,oq,VJ,List.not_mem_nil,false_implies,implies_true];decide
theorem Sr.prog{w':World}{N R:Nat}{ln wh lg:Int}{fi:Bool}(h:Sr w B N R gH ln wh fi lg)(hk:∀b,B<=b->w'.heap[b]? =w.heap[b]?):∃u1 u2 u3 u4,w.cell? ⟨R,0,cX⟩=cP (cE cA)/\w.cell? ⟨R,1,cX⟩=cP u1/\w.cell? ⟨R,2,cX⟩=cP u2/\w.cell? ⟨R,3,cX⟩=cP u3/\w.cell? ⟨R,4,cX⟩=cP u4/\Cj w' (.agg #[cE cA,u1,u2,u3,u4]) gH u1 u2 u3 u4:=by
 obtain⟨fp,hL,-,-⟩:=h.own.t
 have hL':=hL.far (w1:=w') λb hb=>hk b (by
  rcases hb with rfl|hb
  ·exact h.own.ge
  ·exact(hL.fp b hb).1)
 unfold PY at hL';obtain⟨_,_,h1,-⟩:=hL'.l.hd;obtain⟨u1,u2,u3,u4,c0,c1,c2,c3,c4,hv⟩:=vP o5 h1;simp only[Nat.zero_add]at c1 c2 c3 c4;have e:∀i,w'.cell? ⟨R,i,cX⟩=w.cell? ⟨R,i,cX⟩:=λi=>World.cell?_of_block (w:=w) (w':=w') (a:=⟨R,i,cX⟩) (hk R h.own.ge);exact⟨u1,u2,u3,u4,(e 0).symm.trans c0,(e 1).symm.trans c1,(e 2).symm.trans c2,(e 3).symm.trans c3,(e 4).symm.trans c4,hv⟩
structure AwR(Wb:World)(R q:Nat)(wr:World):Prop where
 s:∃(N:Nat) (fi:Bool) (ln:Int),Sr wr R N R (mZ (rF q)) ln (qG q) fi (qJ q)
 x:Ae wr (R+1) [.pointer (cP ⟨R,0,cX⟩)]
 t:DC wr (R+1) 102
 b:Below R Wb wr
theorem UQ(m:Int)(hm:w.cell? ⟨1,0,cX⟩=cP (cI cJ m)):Calls prog 20 #[cS awS] w λe w'=>AA2 w' e/\AA6 w w':=by
 have hmf:∀(fn:Go.Fn) (first cap:Array Value) (w:World),(Instr.makeFunc fn first cap).run prog w=.ok (.func fn first cap) w:=λ_ _ _ _=>rfl;obtain⟨x4,hz4⟩:=BR (w:=(w.alloc (.cells #[cE cA,cY cX 0 0,cY cX 0 0,cY cX 0 0,cY cX 0 0] 27)).alloc (.cells #[cI cJ 0] 3)) (c1:=[cI cJ 0]) (t1:=41) (AL);obtain⟨x2,x3,hb1⟩:=Ch (w:=w) (c1:=zP) (c2:=[cI cJ 0]) (t1:=27) (t2:=3) hz4;have qM:((w.alloc (.cells #[cE cA,cY cX 0 0,cY cX 0 0,cY cX 0 0,cY cX 0 0] 27)).alloc (.cells #[cI cJ 0] 3)).heap.size=w.heap.size+1+1:=by simp
 rw[qM]at x4;go_enter_defers func20,ntmps20;go_wp2_with fail;generalize Cr:World.alloc (World.alloc (World.alloc _ _) _) _=W at*;have hSp:=OB.XV awS (by decide) m W (AA hb1 hm);refine hSp.mono ?_;rintro e w1 ⟨hb2,hx⟩;rw[dZ]at hx;obtain⟨v,rfl,hrow⟩:=hx;obtain⟨rb,hrb⟩:∃rb,w.heap.size=rb:=⟨_,rfl⟩;replace hb1:=ABE hrb hb1;rw[hrb]at x2 x3 x4⊢;have hrl:=x4.lt;replace x2:=x2.nx hb2;replace x3:=x3.nx hb2;replace x4:=x4.nx hb2;obtain⟨g,cu,rfl,hg,hat⟩:=kV hrow (by decide);rw[show(ig:List (Nat×List (List UInt8))).length=5 from rfl];have a3:=x3.c 0 _ rfl;have a4:=x4.c 0 _ rfl;have f3:=x3.f 0 (by decide);have f4:=x4.f 0 (by decide);have b2:Ae ((w1.setCell ⟨rb+1,0,cX⟩ (cI cJ 0)).setCell ⟨rb+1+1,0,cX⟩ (cI cJ 0)) rb zP:=(x2.far (q:=⟨rb+1,0,cX⟩) (show rb+1≠rb by omega) _).far (q:=⟨rb+1+1,0,cX⟩) (show rb+1+1≠rb by omega) _;have b3:Ae ((w1.setCell ⟨rb+1,0,cX⟩ (cI cJ 0)).setCell ⟨rb+1+1,0,cX⟩ (cI cJ 0)) (rb+1) [cI cJ 0]:=(x3.set (i:=0) (by simp) _).far (q:=⟨rb+1+1,0,cX⟩) (show rb+1+1≠rb+1 by omega) _;have b4:Ae ((w1.setCell ⟨rb+1,0,cX⟩ (cI cJ 0)).setCell ⟨rb+1+1,0,cX⟩ (cI cJ 0)) (rb+1+1) [cI cJ 0]:=(x4.far (q:=⟨rb+1,0,cX⟩) (show rb+1≠rb+1+1 by omega) _).set (i:=0) (by simp) _;have hbb:Below rb w ((w1.setCell ⟨rb+1,0,cX⟩ (cI cJ 0)).setCell ⟨rb+1+1,0,cX⟩ (cI cJ 0)):=((hb1.trans (hb2.mono (by omega))).setCell (p:=⟨rb+1,0,cX⟩) (show rb<=rb+1 by omega) _).setCell (p:=⟨rb+1+1,0,cX⟩) (show rb<=rb+1+1 by omega) _;have AAT:∀(a:Addr) (s:ByteArray),w1.cell? a=cP (cS s)->((w1.setCell ⟨rb+1,0,cX⟩ (cI cJ 0)).setCell ⟨rb+1+1,0,cX⟩ (cI cJ 0)).cell? a=cP (cS s):=λa s h=>by
  rw[World.cell?_setCell_other _ _ _ _ (λe=>by rw[<-e,a4]at h;cases h),World.cell?_setCell_other _ _ _ _ (λe=>by rw[<-e,a3]at h;cases h)];exact h
 have oI:∀(i:Nat) (v:Value),w1.cell? ⟨g,i,cX⟩=cP v->((w1.setCell ⟨rb+1,0,cX⟩ (cI cJ 0)).setCell ⟨rb+1+1,0,cX⟩ (cI cJ 0)).cell? ⟨g,i,cX⟩=cP v:=λi v h=>by
  rw[World.cell?_setCell_other _ _ _ _ (λe=>by have:=congrArg Addr.block e;have h:rb+1+1=g:=this;omega),World.cell?_setCell_other _ _ _ _ (λe=>by have:=congrArg Addr.block e;have h:rb+1=g:=this;omega)];exact h
 have pR:∀q,q<5->((w1.setCell ⟨rb+1,0,cX⟩ (cI cJ 0)).setCell ⟨rb+1+1,0,cX⟩ (cI cJ 0)).cell? ⟨g,q*2,cX⟩=cP (cI cJ ((q+1:Nat):Int))/\∃u,((w1.setCell ⟨rb+1,0,cX⟩ (cI cJ 0)).setCell ⟨rb+1+1,0,cX⟩ (cI cJ 0)).cell? ⟨g,q*2+1,cX⟩=cP u/\Row DL 1 ((w1.setCell ⟨rb+1,0,cX⟩ (cI cJ 0)).setCell ⟨rb+1+1,0,cX⟩ (cI cJ 0)) u (JQ q):=λq hq=>by
  have hx:ig[q]? =cP (ig[q]'hq):=List.getElem?_eq_getElem hq;obtain⟨h1,u,h2,h3⟩:=hat q _ hx;obtain⟨e1,h4⟩:=bB q hq hx h3;rw[e1]at h1;exact⟨oI _ _ h1,u,oI _ _ h2,Row.map h4 λa x h=>⟨AAT _ _ h.1,h.2⟩⟩
 go_wp2_with fail;have Wm:((w1.setCell ⟨rb+1,0,cX⟩ (cI cJ 0)).setCell ⟨rb+1+1,0,cX⟩ (cI cJ 0)).heap.size=w1.heap.size:=by simp
 have hrR:rb+1+1<w1.heap.size:=x4.lt;generalize(w1.setCell ⟨rb+1,0,cX⟩ (cI cJ 0)).setCell ⟨rb+1+1,0,cX⟩ (cI cJ 0)=Wb at*;generalize hRe:w1.heap.size=R at*;have hS0:=ru Wb;have hl0:=AJ Wb (.cells #[cE cA,cY cX 0 0,cY cX 0 0,cY cX 0 0,cY cX 0 0,cI cJ 0,cI cJ 0,cE cC,cI cJ (-1)] 104);rw[Wm]at hS0 hl0;have hsz1:(Wb.alloc (.cells #[cE cA,cY cX 0 0,cY cX 0 0,cY cX 0 0,cY cX 0 0,cI cJ 0,cI cJ 0,cE cC,cI cJ (-1)] 104)).heap.size=R+1:=by simp[Wm]
 generalize Wb.alloc (.cells #[cE cA,cY cX 0 0,cY cX 0 0,cY cX 0 0,cY cX 0 0,cI cJ 0,cI cJ 0,cE cC,cI cJ (-1)] 104)=Wc at*;have hxP:=Ae.alloc Wc [.pointer (cP ⟨R,0,cX⟩)] 102;have htP:DC (Wc.alloc (.cells #[.pointer (cP ⟨R,0,cX⟩)] 102)) Wc.heap.size 102:=⟨_,heap_alloc_new Wc _⟩;have hl1:=AJ Wc (.cells #[.pointer (cP ⟨R,0,cX⟩)] 102);have hS1:=hS0.kp hl1;rw[hsz1]at hxP htP hl1;replace hl1:=hl0.trans (hl1.mono (show R<=R+1 by omega));generalize Wc.alloc (.cells #[.pointer (cP ⟨R,0,cX⟩)] 102)=Wd at*;have hA:AwR Wb R 0 Wd:=⟨⟨_,_,_,hS1⟩,hxP,htP,hl1⟩;go_loopw[25] (λi wr=>∃q:Nat,q<=5/\i=cI cJ (q:Int)/\AwR Wb R q wr) (λi _=>5-(intOf i).toNat);exact⟨0,by omega,rfl,hA⟩;obtain⟨q,hq,rfl,⟨N,fi,ln,hS⟩,hx,ht,hb⟩:=hrel;have p0:=hx.c 0 _ rfl;by_cases hend:q=5
 ·subst hend;replace hS:Sr wr R N R gH ln 0 fi 1:=hS;have CS:=hS.iW 0;have c5:=hS.c5;have f5:=hS.Bw 5;have hxb:=hx.far (q:=⟨R,5,cX⟩) (show R≠R+1 by omega) (cI cJ 0);have pb:=hxb.c 0 _ rfl;have hal:=(Below.refl (wr.setCell ⟨R,5,cX⟩ (cI cJ 0)).heap.size (wr.setCell ⟨R,5,cX⟩ (cI cJ 0))).alloc (AQ) (.cells #[cI cJ 0,cI cJ 1] 3);have hX:=Ae.alloc (wr.setCell ⟨R,5,cX⟩ (cI cJ 0)) [cI cJ 0,cI cJ 1] 3;have hSe:=CS.kp hal;have hbt:=E5 (R:=R) (l:=[0,1]) hX 0 (by decide) (by decide) hSe.c6;have hbE:=(hb.setCell (p:=⟨R,5,cX⟩) (Nat.le_refl R) (cI cJ 0)).trans (hal.mono CS.bw);have pe:=AA hal pb;go_wp2_with fail;have ADi:(wr.setCell ⟨R,5,cX⟩ (cI cJ 0)).heap.size=wr.heap.size:=by simp
  rw[ADi]at hbt;refine hbt.mono ?_;rintro e w5 ⟨rfl,rfl⟩;generalize(wr.setCell ⟨R,5,cX⟩ (cI cJ 0)).alloc _=we at*;have B2:=b2.below (show rb<R by omega) hbE;have B3:=b3.below (show rb+1<R by omega) hbE;have B4:=b4.below (show rb+1+1<R by omega) hbE;obtain⟨v1,v2,v3,v4,c0,c1,c2,c3,c4,hv⟩:=hSe.prog (w':=we) λ_ _=>rfl;obtain⟨_,hv1,hv2,hv3,hv4⟩:=hv;obtain⟨p1,k1,rfl⟩:=hv1.slice;obtain⟨p2,k2,rfl⟩:=hv2.slice;obtain⟨p3,k3,rfl⟩:=hv3.slice;obtain⟨p4,k4,rfl⟩:=hv4.slice;rw[show gH.cs.length=0 from rfl]at c1;rw[show gH.gs.length=0 from rfl]at c2;rw[show gH.xs.length=0 from rfl]at c3;rw[show gH.fs.length=1 from rfl]at c4;obtain⟨t0,t1,t2,t3,t4⟩:=B2.c5;have t5:=B3.c 0 _ rfl;have t6:=B4.c 0 _ rfl;obtain⟨g0,g1,g2,g3,g4⟩:=B2.f5;have g5:=B3.f 0 (by decide);have g6:=B4.f 0 (by decide);go_wp2_with fail;have Pn:∀b,R<=b->(((((((we.setCell ⟨rb,0,cX⟩ (cE cA)).setCell ⟨rb,1,cX⟩ (cY p1 0 k1)).setCell ⟨rb,2,cX⟩ (cY p2 0 k2)).setCell ⟨rb,3,cX⟩ (cY p3 0 k3)).setCell ⟨rb,4,cX⟩ (cY p4 1 k4)).setCell ⟨rb+1,0,cX⟩ (cI cJ 0)).setCell ⟨rb+1+1,0,cX⟩ (cI cJ 0)).heap[b]? =we.heap[b]? :=λb hb=>
   (Below.heap_setCell _ _ _ _ (show b≠rb+1+1 by omega)).trans ((Below.heap_setCell _ _ _ _ (show b≠rb+1 by omega)).trans (Bu (p:=rb) (show b≠rb by omega) [cE cA,cY p1 0 k1,cY p2 0 k2,cY p3 0 k3,cY p4 1 k4] 0 we))
  have hZ2:Ae (((((((we.setCell ⟨rb,0,cX⟩ (cE cA)).setCell ⟨rb,1,cX⟩ (cY p1 0 k1)).setCell ⟨rb,2,cX⟩ (cY p2 0 k2)).setCell ⟨rb,3,cX⟩ (cY p3 0 k3)).setCell ⟨rb,4,cX⟩ (cY p4 1 k4)).setCell ⟨rb+1,0,cX⟩ (cI cJ 0)).setCell ⟨rb+1+1,0,cX⟩ (cI cJ 0)) rb [cE cA,cY p1 0 k1,cY p2 0 k2,cY p3 0 k3,cY p4 1 k4]:=
   (Ae.far (CK [cE cA,cY p1 0 k1,cY p2 0 k2,cY p3 0 k3,cY p4 1 k4] _ 0 we B2 rfl) (q:=⟨rb+1,0,cX⟩) (show rb+1≠rb by omega) _).far (q:=⟨rb+1+1,0,cX⟩) (show rb+1+1≠rb by omega) _
  have B3':Ae (BZ we rb 0 [cE cA,cY p1 0 k1,cY p2 0 k2,cY p3 0 k3,cY p4 1 k4]) (rb+1) [cI cJ 0]:=B3.same (Bu (by omega) _ _ _);have B4':Ae (BZ we rb 0 [cE cA,cY p1 0 k1,cY p2 0 k2,cY p3 0 k3,cY p4 1 k4]) (rb+1+1) [cI cJ 0]:=B4.same (Bu (by omega) _ _ _);have hZ3:Ae (((((((we.setCell ⟨rb,0,cX⟩ (cE cA)).setCell ⟨rb,1,cX⟩ (cY p1 0 k1)).setCell ⟨rb,2,cX⟩ (cY p2 0 k2)).setCell ⟨rb,3,cX⟩ (cY p3 0 k3)).setCell ⟨rb,4,cX⟩ (cY p4 1 k4)).setCell ⟨rb+1,0,cX⟩ (cI cJ 0)).setCell ⟨rb+1+1,0,cX⟩ (cI cJ 0)) (rb+1) [cI cJ 0]:=(B3'.set (i:=0) (by simp) _).far (q:=⟨rb+1+1,0,cX⟩) (show rb+1+1≠rb+1 by omega) _;have hZ4:Ae (((((((we.setCell ⟨rb,0,cX⟩ (cE cA)).setCell ⟨rb,1,cX⟩ (cY p1 0 k1)).setCell ⟨rb,2,cX⟩ (cY p2 0 k2)).setCell ⟨rb,3,cX⟩ (cY p3 0 k3)).setCell ⟨rb,4,cX⟩ (cY p4 1 k4)).setCell ⟨rb+1,0,cX⟩ (cI cJ 0)).setCell ⟨rb+1+1,0,cX⟩ (cI cJ 0)) (rb+1+1) [cI cJ 0]:=(B4'.far (q:=⟨rb+1,0,cX⟩) (show rb+1≠rb+1+1 by omega) _).set (i:=0) (by simp) _;have Nf:=(((hbb.trans (hbE.mono (by omega))).trans (Ay (Nat.le_refl rb) [cE cA,cY p1 0 k1,cY p2 0 k2,cY p3 0 k3,cY p4 1 k4] 0 we)).setCell (p:=⟨rb+1,0,cX⟩) (show rb<=rb+1 by omega) (cI cJ 0)).setCell (p:=⟨rb+1+1,0,cX⟩) (show rb<=rb+1+1 by omega) (cI cJ 0);obtain⟨u1,u2,u3,u4,d0,d1,d2,d3,d4,hu⟩:=hSe.prog Pn;obtain rfl:u1=cY p1 0 k1:=by rw[c1]at d1;exact(Option.some.inj d1).symm
  obtain rfl:u2=cY p2 0 k2:=by rw[c2]at d2;exact(Option.some.inj d2).symm
  obtain rfl:u3=cY p3 0 k3:=by rw[c3]at d3;exact(Option.some.inj d3).symm
  obtain rfl:u4=cY p4 1 k4:=by rw[c4]at d4;exact(Option.some.inj d4).symm
  replace Nf:Below rb w (((((((we.setCell ⟨rb,0,cX⟩ (cE cA)).setCell ⟨rb,1,cX⟩ (cY p1 0 k1)).setCell ⟨rb,2,cX⟩ (cY p2 0 k2)).setCell ⟨rb,3,cX⟩ (cY p3 0 k3)).setCell ⟨rb,4,cX⟩ (cY p4 1 k4)).setCell ⟨rb+1,0,cX⟩ (cI cJ 0)).setCell ⟨rb+1+1,0,cX⟩ (cI cJ 0)):=Nf;generalize((((((we.setCell ⟨rb,0,cX⟩ (cE cA)).setCell ⟨rb,1,cX⟩ (cY p1 0 k1)).setCell ⟨rb,2,cX⟩ (cY p2 0 k2)).setCell ⟨rb,3,cX⟩ (cY p3 0 k3)).setCell ⟨rb,4,cX⟩ (cY p4 1 k4)).setCell ⟨rb+1,0,cX⟩ (cI cJ 0)).setCell ⟨rb+1+1,0,cX⟩ (cI cJ 0)=wf at*;refine leaves_cons (f:=37) (args:=#[.pointer (cP ⟨R+1,0,cX⟩),.pointer (cP ⟨rb,0,cX⟩),.pointer (cP ⟨rb+1,0,cX⟩),.pointer (cP ⟨rb+1+1,0,cX⟩)]) (by simp) (by simp[go_sem]) ?_;refine(eP _ _ _ _ _).mono ?_;rintro e u' w'' ⟨rfl,rfl,rfl⟩;obtain⟨t0,t1,t2,t3,t4⟩:=hZ2.c5;have t5:=hZ3.c 0 _ rfl;have t6:=hZ4.c 0 _ rfl;exact⟨_,(SK rfl _ _ _).trans (by go_simp;try rfl),⟨_,_,_,_,rfl,hu⟩,ABD hrb Nf⟩
 ·have hlt:q<5:=by omega
  have A8:(q:Int)<5:=by omega
  have AGi:(0:Int)<=q:=by omega
  obtain⟨e0,u,e1,hrw⟩:=pR q hlt;have z0:=AA (Wm▸hb) e0;have z1:=AA (Wm▸hb) e1;obtain⟨pu,ku,rfl⟩:=hrw.slice;have hq1:((q+1:Nat):Int)=(q:Int)+1:=by omega
  rw[hq1]at z0;have hal:=AJ wr (.cells #[cI cJ ((q:Int)+1),.slice pu (JQ q).length ku] 109);have hxl:=Ae.alloc wr [cI cJ ((q:Int)+1),.slice pu (JQ q).length ku] 109;have hSa:=hS.kp hal;have hxa:=hx.nx hal;have yS:=hS.lt;have ADg:=ht.nx hal;have AEG:=hb.trans (hal.mono (Nat.le_of_lt yS));go_upto_region 9 with fail;obtain⟨lb,hlb⟩:∃lb,wr.heap.size=lb:=⟨_,rfl⟩;rw[hlb]at hxl yS⊢;generalize(wr.alloc (.cells #[cI cJ ((q:Int)+1),.slice pu (JQ q).length ku] 109))=wa at*;have CS:=hSa.iW ((q:Int)+1);have c5:=hSa.c5;have f5:=hSa.Bw 5;have pa:=hxa.c 0 _ rfl;have l0:=hxl.c 0 _ rfl;have iq:=hxl.far (q:=⟨R,5,cX⟩) (show R≠lb by omega) (cI cJ ((q:Int)+1));have l1:=iq.c 1 _ rfl;have hxb:=hxa.far (q:=⟨R,5,cX⟩) (show R≠R+1 by omega) (cI cJ ((q:Int)+1));have pb:=hxb.c 0 _ rfl;have u7:DC (wa.setCell ⟨R,5,cX⟩ (cI cJ ((q:Int)+1))) (R+1) 102:=by
   obtain⟨cur,e⟩:=ADg;exact⟨cur,(Below.heap_setCell _ _ _ _ (show R+1≠R by omega)).trans e⟩
  have hbl:=AEG.setCell (p:=⟨R,5,cX⟩) (Nat.le_refl R) (cI cJ ((q:Int)+1));have AEH:AA6 Wb (wa.setCell ⟨R,5,cX⟩ (cI cJ ((q:Int)+1))):=ABD Wm hbl;have hL:=dw (Nat.le_of_eq Wm) q hlt ((q:Int)+1) AEH CS hrw;go_wp2_with fail;refine hL.mono ?_;rintro e w5 ⟨⟨rfl,N',hS5⟩,hK⟩;have hx5:=hxb.same (hK.k _ u7);have ht5:DC w5 (R+1) 102:=by
   obtain⟨cur,e⟩:=u7;exact⟨cur,(hK.k _ ⟨cur,e⟩).trans e⟩
  have xA:AwR Wb R (q+1) w5:=⟨⟨_,_,_,hS5⟩,hx5,ht5,hbl.trans hK.b⟩;go_wp2;go_roundw;exact⟨q+1,by omega,by go_num,xA⟩;simp[intOf];omega
end
section
open Word Num Dp
theorem AAj:gH=FN:=rfl
def AAi:KO FN:=λe he=>by cases he
theorem tQ:Zp FN:=λf hf b hb=>by
 obtain rfl:f=Nu:=by simpa[FN]using hf
 obtain rfl:b=Pp:=by simpa[Nu]using hb
 refine⟨λi hi a ha=>?_,⟨by decide,by decide⟩⟩;obtain rfl:i=RI:=by simpa[Pp]using hi
 obtain rfl:a=⟨1,kS,0⟩:=by simpa[RI]using ha
 exact⟨by decide,by decide⟩
theorem aR(fuel:Int)(h:fuel<=100000):Way FN IY fuel/\jW IY:=KT V9 (by decide) (x:=fS) (args:=[5]) (λn hn=>by
 obtain rfl:n=5:=by simpa using hn
 exact⟨by decide,by decide⟩) fG h
def oQ(e:Ending):Prop:=e=.returned (cE cC)
theorem xP(w:World):Row Nj 1 w (cY cX 0 0) []:=⟨cX,0,rfl,(λ_=>⟨rfl,rfl⟩),⟨by simp,by simp⟩,λi x h=>by cases h⟩
theorem ADW{p:Nat}(h:Ae w p [cI cJ 5]):Row Nj 1 w (cY (cP ⟨p,0,cX⟩) 1 1) [5]:=⟨_,1,rfl,(λh=>by cases h),⟨by simp,by simp⟩,λi x hx=>by
 cases i with
 |zero=>
  obtain rfl:5=x:=by simpa using hx
  exact⟨_,rfl,h.c 0 _ rfl⟩
 |succ i=>simp at hx⟩
theorem aT{W2:World}{p1 p2 p3 p4:Option Addr}{k1 k2 k3 k4:Nat}(hv:Cj W2 (.agg #[cE cA,cY p1 0 k1,cY p2 0 k2,cY p3 0 k3,cY p4 1 k4]) FN (cY p1 0 k1) (cY p2 0 k2) (cY p3 0 k3) (cY p4 1 k4))(h:AA6 W2 w)(hS:Qx w IY fr hp gl tr mk){fuel:Int}(hf:fuel<=100000){T:St}(hT:Runs FN [] [] fuel IY 0 T):Calls prog 12 #[.agg #[cE cA,cY p1 0 k1,cY p2 0 k2,cY p3 0 k3,cY p4 1 k4],Ko IY fr hp gl tr mk,cI cJ fuel,cY cX 0 0,cY cX 0 0] w λe w'=>(∃fr' hp' TV TI mk',e=.returned (Ko T fr' hp' TV TI mk')/\Bt w' w.heap.size T fr' hp' TV TI mk')/\AA6 w w':=by
 have hE:Env W2 w.heap.size ⟨cE cA,cY p1 0 k1,cY p2 0 k2,cY p3 0 k3,cY p4 1 k4,cY cX 0 0,cY cX 0 0⟩ FN [] []:=
  ⟨hv,xP _,xP _,h.size,V9,AAi,tQ,(λn hn=>by cases hn),(λc hc=>by cases hc),by decide,λf hf b hb=>by
   obtain rfl:f=Nu:=(by simpa[FN]using hf);obtain rfl:b=Pp:=by simpa[Nu]using hb
   decide⟩
 refine(Vi hE h ⟨rfl,rfl,rfl,rfl,rfl,rfl,rfl⟩ rfl hS (aR fuel hf).2 fuel (aR fuel hf).1).mono ?_;rintro e w' ⟨t,fr',hp',TV,TI,mk',he,hO,hr,-,hb⟩;obtain rfl:t=T:=hr.det hT;exact⟨⟨_,_,_,_,_,he,hO⟩,hb⟩
theorem Sq(m:Int)(hm:w.cell? ⟨1,0,cX⟩=cP (cI cJ m)):Calls prog 8 #[] w λe w'=>oQ e/\AA6 w w':=by
 have hP:=UQ m hm;go_enter func8,ntmps8;go_wp2_with fail;refine hP.mono ?_;rintro e w1 ⟨⟨u1,u2,u3,u4,rfl,hv⟩,hb1⟩;rw[AAj]at hv;obtain⟨p1,k1,rfl⟩:=hv.c.slice;obtain⟨p2,k2,rfl⟩:=hv.g.slice;obtain⟨p3,k3,rfl⟩:=hv.xt.slice;obtain⟨p4,k4,rfl⟩:=hv.f.slice;rw[show FN.cs.length=0 from rfl,show FN.gs.length=0 from rfl,show FN.xs.length=0 from rfl,show FN.fs.length=1 from rfl]at*;have hX:=Ae.alloc w1 [cE cA,cY p1 0 k1,cY p2 0 k2,cY p3 0 k3,cY p4 1 k4] 27;have hb2:=AJ w1 (.cells #[cE cA,cY p1 0 k1,cY p2 0 k2,cY p3 0 k3,cY p4 1 k4] 27);obtain⟨x0,x1,x2,x3,x4⟩:=hX.c5;have hY:=Ae.alloc (w1.alloc (.cells #[cE cA,cY p1 0 k1,cY p2 0 k2,cY p3 0 k3,cY p4 1 k4] 27)) [cI cJ 5] 2;have hb3:=(Below.refl (w1.alloc (.cells #[cE cA,cY p1 0 k1,cY p2 0 k2,cY p3 0 k3,cY p4 1 k4] 27)).heap.size (w1.alloc (.cells #[cE cA,cY p1 0 k1,cY p2 0 k2,cY p3 0 k3,cY p4 1 k4] 27))).alloc (AQ) (.cells #[cI cJ 5] 2);have hsz:(w1.alloc (.cells #[cE cA,cY p1 0 k1,cY p2 0 k2,cY p3 0 k3,cY p4 1 k4] 27)).heap.size=w1.heap.size+1:=by simp
 rw[hsz]at hY;go_wp2_with fail;have hv2:=hv.kp (AB hb2 hb3);have hx3:=hX.nx hb3;have hbb:=AB (AB hb1 hb2) hb3;generalize(w1.alloc (.cells #[cE cA,cY p1 0 k1,cY p2 0 k2,cY p3 0 k3,cY p4 1 k4] 27)).alloc (.cells #[cI cJ 5] 2)=W2 at*;generalize w1.heap.size=px at*;have hSt:=OW (Below.refl W2.heap.size W2) (p:=FN) hv2 fS (f:=Nu) rfl (b0:=Pp) (br:=[]) rfl (ADW hY) (by decide) (by decide);refine hSt.mono ?_;rintro e w3 ⟨fr,hp,gl,tr,mk,he,hO,hb4⟩;obtain rfl:e=.returned (.tuple #[.agg #[cI cJ 0,cS ⟨#[]⟩,cI cJ 0,cI cJ 0,fr,hp,gl,tr,mk,cI cJ 0,cI cJ 0,cI cJ 0,cI cJ 0],cI cJ 0]):=he;replace hO:Bt w3 W2.heap.size IY fr hp gl tr mk:=hO;have hI:=hO.in;obtain⟨_,l1⟩:=hI.fr;obtain⟨_,l2⟩:=hI.hp;obtain⟨_,l3⟩:=hI.gl;obtain⟨_,l4⟩:=hI.tr;obtain⟨_,l5⟩:=hI.mk';obtain⟨q1,d1,rfl⟩:=l1.slice;obtain⟨q2,d2,rfl⟩:=l2.slice;obtain⟨q3,d3,rfl⟩:=l3.slice;obtain⟨q4,d4,rfl⟩:=l4.slice;obtain⟨q5,d5,rfl⟩:=l5.slice;rw[show(IY.frames.map Kw).length=1 from rfl,show(IY.heap.map Ld).length=0 from rfl,show(IY.globals.map C9).length=0 from rfl,show(IY.trace.map Qc).length=0 from rfl,show(IY.marks.map dN).length=0 from rfl]at*;have hx4:=hx3.nx hb4;have hZ:=Ae.alloc w3 [cI cJ 0,cS ⟨#[]⟩,cI cJ 0,cI cJ 0,cY q1 1 d1,cY q2 0 d2,cY q3 0 d3,cY q4 0 d4,cY q5 0 d5,cI cJ 0,cI cJ 0,cI cJ 0,cI cJ 0] 40;have hb5:=AJ w3 (.cells #[cI cJ 0,cS ⟨#[]⟩,cI cJ 0,cI cJ 0,cY q1 1 d1,cY q2 0 d2,cY q3 0 d3,cY q4 0 d4,cY q5 0 d5,cI cJ 0,cI cJ 0,cI cJ 0,cI cJ 0] 40);have hx5:=hx4.nx hb5;obtain⟨x0,x1,x2,x3,x4⟩:=hx5.c5;obtain⟨z0,z1,z2,z3,z4,z5,z6,z7,z8,z9,z10,z11,z12⟩:=hZ.c13;go_wp2_with fail;have hv5:AA6 W2 (w3.alloc (.cells #[cI cJ 0,cS ⟨#[]⟩,cI cJ 0,cI cJ 0,cY q1 1 d1,cY q2 0 d2,cY q3 0 d3,cY q4 0 d4,cY q5 0 d5,cI cJ 0,cI cJ 0,cI cJ 0,cI cJ 0] 40)):=AB hb4 hb5;have TA:=hI.kp hb5;replace hbb:=AB hbb hv5;generalize w3.alloc (.cells #[cI cJ 0,cS ⟨#[]⟩,cI cJ 0,cI cJ 0,cY q1 1 d1,cY q2 0 d2,cY q3 0 d3,cY q4 0 d4,cY q5 0 d5,cI cJ 0,cI cJ 0,cI cJ 0,cI cJ 0] 40)=W3 at*;generalize w3.heap.size=pz at*;refine(aT hv2 hv5 TA (by decide) lW).mono ?_;rintro e w4 ⟨⟨fr,hp,gl,tr,mk,he,hO⟩,hb6⟩;have hJ:=hO.in;obtain⟨_,l1⟩:=hJ.fr;obtain⟨_,l2⟩:=hJ.hp;obtain⟨_,l3⟩:=hJ.gl;obtain⟨_,l4⟩:=hJ.tr;obtain⟨_,l5⟩:=hJ.mk';obtain⟨r1,g1,rfl⟩:=l1.slice;obtain⟨r2,g2,rfl⟩:=l2.slice;obtain⟨r3,g3,rfl⟩:=l3.slice;obtain⟨r4,g4,rfl⟩:=l4.slice;obtain⟨r5,g5,rfl⟩:=l5.slice;obtain rfl:e=.returned (.agg #[cI cJ 1,cS ⟨#[105,110,116]⟩,cI cJ 5,cI cJ 0,cY r1 0 g1,cY r2 0 g2,cY r3 0 g3,cY r4 1 g4,cY r5 1 g5,cI cJ 0,cI cJ 2,cI cJ 0,cI cJ 0]):=he;have hx6:=hx5.nx hb6;have hz6:=hZ.nx hb6;have Yx:=TA.kp hb6;have hS:=Ae.alloc w4 [cI cJ 1,cS ⟨#[105,110,116]⟩,cI cJ 5,cI cJ 0,cY r1 0 g1,cY r2 0 g2,cY r3 0 g3,cY r4 1 g4,cY r5 1 g5,cI cJ 0,cI cJ 2,cI cJ 0,cI cJ 0] 40;have BJ:=AJ w4 (.cells #[cI cJ 1,cS ⟨#[105,110,116]⟩,cI cJ 5,cI cJ 0,cY r1 0 g1,cY r2 0 g2,cY r3 0 g3,cY r4 1 g4,cY r5 1 g5,cI cJ 0,cI cJ 2,cI cJ 0,cI cJ 0] 40);have hx7:=hx6.nx BJ;have hz7:=hz6.nx BJ;have hI7:=Yx.kp BJ;have hv7:=AB (AB hv5 hb6) BJ;replace hbb:=AB (AB hbb hb6) BJ;obtain⟨x0,x1,x2,x3,x4⟩:=hx7.c5;obtain⟨z0,z1,z2,z3,z4,z5,z6,z7,z8,z9,z10,z11,z12⟩:=hz7.c13;go_wp2_with fail;generalize w4.alloc (.cells #[cI cJ 1,cS ⟨#[105,110,116]⟩,cI cJ 5,cI cJ 0,cY r1 0 g1,cY r2 0 g2,cY r3 0 g3,cY r4 1 g4,cY r5 1 g5,cI cJ 0,cI cJ 2,cI cJ 0,cI cJ 0] 40)=W4 at*;generalize w4.heap.size=py at*;refine(aT hv2 hv7 hI7 (by decide) tT).mono ?_;rintro e w5 ⟨⟨fr,hp,gl,tr,mk,he,hO⟩,Bp⟩;have hJ:=hO.in;obtain⟨_,l1⟩:=hJ.fr;obtain⟨_,l2⟩:=hJ.hp;obtain⟨_,l3⟩:=hJ.gl;obtain⟨_,l4⟩:=hJ.tr;obtain⟨_,l5⟩:=hJ.mk';obtain⟨m1,n1,rfl⟩:=l1.slice;obtain⟨m2,n2,rfl⟩:=l2.slice;obtain⟨m3,n3,rfl⟩:=l3.slice;obtain⟨m4,n4,rfl⟩:=l4.slice;obtain⟨m5,n5,rfl⟩:=l5.slice;obtain rfl:e=.returned (.agg #[cI cJ 3,cS ⟨#[]⟩,cI cJ 0,cI cJ 0,cY m1 1 n1,cY m2 0 n2,cY m3 0 n3,cY m4 1 n4,cY m5 1 n5,cI cJ 0,cI cJ 1,cI cJ 0,cI cJ 0]):=he;have hz8:=hz7.nx Bp;have hs8:=hS.nx Bp;have hT:=Ae.alloc w5 [cI cJ 3,cS ⟨#[]⟩,cI cJ 0,cI cJ 0,cY m1 1 n1,cY m2 0 n2,cY m3 0 n3,cY m4 1 n4,cY m5 1 n5,cI cJ 0,cI cJ 1,cI cJ 0,cI cJ 0] 40;have J9:=AJ w5 (.cells #[cI cJ 3,cS ⟨#[]⟩,cI cJ 0,cI cJ 0,cY m1 1 n1,cY m2 0 n2,cY m3 0 n3,cY m4 1 n4,cY m5 1 n5,cI cJ 0,cI cJ 1,cI cJ 0,cI cJ 0] 40);have hz9:=hz8.nx J9;have hs9:=hs8.nx J9;replace hbb:=AB (AB hbb Bp) J9;have z0:=hz9.c 0 _ rfl;obtain⟨s0,s1,s2,-,-,-,s6,s7,s8,s9,s10⟩:=hs9.c11;obtain⟨t0,-,-,-,-,-,t6,t7,t8⟩:=hT.c9;go_wp2;go_ret;exact⟨rfl,hbb⟩
end
section
open Num Dp
def Jo(f:α->Nat){x:α}:∀{l:List α},x∈l->f x<=Aj f l
 | [],h=>by cases h
 |y::r,h=>by
  unfold Aj;rcases List.mem_cons.1 h with rfl|h
  ·omega
  ·have:=Jo f h;omega
def RX(f:α->Nat):∀{l:List α},(∀x∈l,1<=f x)->l.length<=Aj f l
 | [],_=>by simp
 |y::r,h=>by
  have h1:=h y (by simp);have h2:=RX f (l:=r) λx hx=>h x (by simp[hx]);unfold Aj;simp only[List.length_cons];omega
def M4{nm:α->ByteArray}{x:ByteArray}:∀{l:List α} {k:Nat},Cu nm x l=cP k->∃b,Ai nm x l=cP b
 | [],k,h=>by cases h
 |y::r,k,h=>by
  unfold Ai;by_cases e:nm y=x
  ·exact⟨y,by rw[if_pos e]⟩
  ·rw[if_neg e];unfold Cu at h;rw[if_neg e]at h
   cases h2:Cu nm x r with
   |none=>rw[h2]at h;cases h
   |some j=>exact M4 h2
theorem J4(h:Qz p q):DJ p where
 names:=λc hc=>by
  obtain⟨a,b,d,-⟩:=Vv (h.s.q.1.2 c hc).1;exact⟨a,b,d⟩
 heads:=h.s.h
 fs:=λf hf=>by
  obtain⟨j,hj,e⟩:=List.mem_iff_getElem.1 hf;have hjf:p.fs[j]? =cP f:=by rw[List.getElem?_eq_getElem hj,e]
  obtain⟨⟨hs1,hs2⟩,ho⟩:=h.s.o j f hjf;have hn:=h.s.n j f hjf;refine⟨hs1,λb hb=>?_⟩;obtain⟨i,hi,e2⟩:=List.mem_iff_getElem.1 hb;have hib:f.bs[i]? =cP b:=by rw[List.getElem?_eq_getElem hi,e2]
  have hq:=((h.s.q.2.2.2.2 f hf).2.2.2.2.2 b hb)
  exact⟨(hn i b hib).1,λx hx=>⟨(ho i b hib).1 x hx,(hq.2.2.1.2 x hx).1⟩,(ho i b hib).2,hq.2.2.2.1,hq.2.2.2.2.1,λy hy=>by
   obtain⟨k,hk⟩:=(hs2 i b hib).2 y hy
   exact M4 hk⟩
theorem aQ(h:Qz p q):KO p:=λe he=>(Vv (h.s.q.2.2.1.2 e he).1).2.2.2
theorem lV(h:Ky p):Zp p:=λf hf b hb=>by
 obtain⟨-,h2,h3,-⟩:=h.2 f hf b hb;exact⟨λi hi=>(h2 i hi).1,h3⟩
theorem P7(h:Qz p q):p.gs.length<=4000:=by
 have:=h.w.n;unfold Ww CY at this;omega
theorem tL(h:Qz p q):∀c∈p.cs,c.fs.length<=4000:=λc hc=>by
 have h1:=h.w.n;have h2:=Jo DV hc;unfold Ww at h1;have h3:c.fs.length<=DV c:=by unfold DV CY;omega
 omega
theorem tN(h:Qz p q):∀f∈p.fs,∀b∈f.bs,b.cs.length<=100000:=λf hf b hb=>by
 have h1:=h.w.n;have h2:=Jo cntF hf;have h3:=Jo G5 hb;have h4:=RX IJ (l:=b.cs) λx _=>by unfold IJ;omega
 unfold Ww at h1;have h5:Aj G5 f.bs<=cntF f:=by unfold cntF;omega
 have h6:Aj IJ b.cs<=G5 b:=by unfold G5;omega
 omega
end
section
open Go.ChangeShapes Go.WideShapes Go.Deep
def nX{H:Type}{P:Program}{ts:List TypeId}{ds:List (DataW H)}(hk:(DataW.weightsEach P ts ds).all (· <=reachBytes)=cC){j:Nat}{d:DataW H}(ht:ts[j]? =cP t)(hd:ds[j]? =cP d):∀k∈DataW.weights P t d,k<=140737488351232:=λk hm=>by
 have:=List.all_eq_true.1 hk k (DataW.weights_mem_each ht hd k hm);exact BK this
section
variable {H : Type} {enc : TypeId × Value -> H} {w : World} {base : Nat} {spare : Nat -> Bool} {held : Bool}
theorem Iw(h:(cs.drop k).take 1=[v]):cs[k]? =cP v:=by
 have h2:((cs.drop k).take 1)[0]? =cP v:=by rw[h];rfl
 grind
def Dy(h:Rd enc prog w base spare held 9 ((cs.drop k).take 1)):∃s:ByteArray,cs[k]? =cP (cS s)/\Sz s:=by
 obtain⟨s,e,hz⟩:=h.str underlying9;exact⟨s,Iw e,hz⟩
theorem KJ(h:Rd enc prog w base spare held 3 ((cs.drop k).take 1)):∃n:Int,cs[k]? =cP (cI cJ n)/\(Lit.int .i64 n).wf=cC:=by
 obtain⟨s,e,hz⟩:=h.int underlying3;exact⟨s,Iw e,hz⟩
theorem P6(h:Rd enc prog w base spare held 2 ((cs.drop k).take 1)):∃n:Int,cs[k]? =cP (cI cJ n)/\(Lit.int .i64 n).wf=cC:=by
 obtain⟨s,e,hz⟩:=h.int underlying2;exact⟨s,Iw e,hz⟩
theorem zW{a:Addr}(h:Rd enc prog w base spare held 9 cs)(_:cs.length=1)(hc:∀j,j<1->w.cell? (a.add j)=cs[j]?):∃x,DL w a x:=by
 obtain⟨s,rfl,hz⟩:=h.str underlying9;exact⟨s,hc 0 (by decide),hz⟩
theorem VR{a:Addr}(h:Rd enc prog w base spare held 71 cs)(_:cs.length=2)(hc:∀j,j<2->w.cell? (a.add j)=cs[j]?):∃x,IU w a x:=by
 have hs:=(h.struct underlying71).2;obtain⟨n,e0,z0⟩:=Dy (k:=0) (hs 0 _ rfl);obtain⟨t,e1,z1⟩:=Dy (k:=1) (hs 1 _ rfl);exact⟨⟨n,t⟩,⟨(hc 0 (by decide)).trans e0,z0⟩,(hc 1 (by decide)).trans e1,z1⟩
theorem Cw{E:World->Addr->α->Prop}{sz:Nat}{e:TypeId}(ht:prog.underlying t=cP (.slice e))(hby:1<=prog.bytesOf e)(hsz:prog.cellsOf e=sz)(h:Rd enc prog w base spare held t ((cs.drop k).take 1))(hE:∀(a:Addr) (cs:List Value),Rd enc prog w base spare held e cs->cs.length=sz->(∀j,j<sz->w.cell? (a.add j)=cs[j]?)->∃x,E w a x):∃v l,cs[k]? =cP v/\Row E sz w v l:=by
 obtain⟨p,len,cap,hv,-⟩:=h.slice ht hby;rw[hv]at h;obtain⟨l,hl⟩:=h.row ht hby hsz hE;exact⟨_,l,Iw hv,hl⟩
theorem zX{a:Addr}(h:Rd enc prog w base spare held 153 cs)(_:cs.length=2)(hc:∀j,j<2->w.cell? (a.add j)=cs[j]?):∃x,Y0 w a x:=by
 have hs:=(h.struct underlying153).2;obtain⟨n,e0,z0⟩:=Dy (k:=0) (hs 0 _ rfl);obtain⟨u,l,e1,hl⟩:=Cw (k:=1) (E:=IU) (sz:=2) underlying23 (BK (by kernel_rfl)) (by kernel_rfl) (hs 1 _ rfl) λ_ _=>VR;exact⟨⟨n,l⟩,⟨(hc 0 (by decide)).trans e0,z0⟩,u,(hc 1 (by decide)).trans e1,hl⟩
theorem DW{a:Addr}(h:w.cell? (a.add k)=cP v):At w a k v:=by
 by_cases hk:k=0
 ·subst hk;replace h:w.cell? a=cP v:=h;obtain⟨b,o,sp⟩:=a
  cases sp with
  |none=>exact h
  |some s=>
   exfalso;unfold World.cell? at h;split at h
   ·cases h
   ·cases h
 ·unfold Addr.add at h;rw[if_neg hk]at h;exact h
theorem KN{j:Nat}(hj:j<n)(h:((cs.drop k).take n)[j]? =cP v):cs[k+j]? =cP v:=by grind
theorem mK{cs':List Value}{m:Nat}(h:cs'=(cs.drop k).take n)(hm:i+m<=n):(cs'.drop i).take m=(cs.drop (k+i)).take m:=by
 subst h;rw[List.drop_take,List.take_take,List.drop_drop,Nat.min_eq_left (by omega)]
def oG{a b c d e:Value}(hl:cs.length=5)(h0:cs[0]? =cP a)(h1:cs[1]? =cP b)(h2:cs[2]? =cP c)(h3:cs[3]? =cP d)(h4:cs[4]? =cP e):cs=[a,b,c,d,e]:=by
 match cs,hl with
 | [x0,x1,x2,x3,x4],_=>simp_all
def oC{P:Program}{fs:Array Field}{r:Go.Reach}{b0:Nat}{d:DataW H}{p:List MemPlace}(hs:P.underlying t=cP (.struct fs))(hv:Value.okWide P w r b0 t v)(h:DataW.Trod enc P w base spare held t v d p) (hk:∀k∈DataW.weights P t d,k<=140737488351232):∃cs:List Value,v=.agg cs.toArray/\Rd enc P w base spare held t cs:=by
 obtain⟨cs,rfl,hsz⟩:=okWide_struct hs hv;obtain⟨fuel,hf⟩:=h;exact⟨cs.toList,by simp,fuel,(d,p),hf,hk⟩
theorem kE(h:Rd enc prog w base spare held 4 ((cs.drop k).take 1)):∃b:Bool,cs[k]? =cP (cE b):=by
 obtain⟨s,e⟩:=h.bool underlying4;exact⟨s,Iw e⟩
end
end
section
open Go.ChangeShapes Go.WideShapes Go.Deep
theorem ME{n:Int}(h:(Lit.int .i64 n).wf=cC):Bo n:=by
 have h1:IntKind.i64.min= -9223372036854775808:=rfl;have h2:IntKind.i64.max=9223372036854775807:=rfl;simp only[Lit.wf,Bool.and_eq_true,decide_eq_true_eq]at h;grind
theorem Row.split{E:World->Addr->α->Prop}{R:α->Prop}{sz:Nat}{l:List α}(h:Row (λw a x=>E w a x/\R x) sz w v l):Row E sz w v l/\∀x∈l,R x:=by
 obtain⟨p,cu,h1,h2,h3,h4⟩:=h;refine⟨⟨p,cu,h1,h2,h3,λi x hx=>?_⟩,λx hx=>?_⟩
 ·obtain⟨a,e,he,-⟩:=h4 i x hx;exact⟨a,e,he⟩
 ·obtain⟨i,hi,e⟩:=List.mem_iff_getElem.1 hx;obtain⟨a,-,-,he⟩:=h4 i x (by rw[List.getElem?_eq_getElem hi,e]);exact he
section
variable {H : Type} {enc : TypeId × Value -> H} {w : World} {base : Nat} {spare : Nat -> Bool} {held : Bool}
theorem ADN{a:Addr}(h:Rd enc prog w base spare held 155 cs)(_:cs.length=2)(hc:∀j,j<2->w.cell? (a.add j)=cs[j]?):∃x,gV w a x/\Bo x.k:=by
 have hs:=(h.struct underlying155).2;obtain⟨n,e0,z0⟩:=Dy (k:=0) (hs 0 _ rfl);obtain⟨k,e1,z1⟩:=KJ (k:=1) (hs 1 _ rfl);exact⟨⟨n,k⟩,⟨⟨(hc 0 (by decide)).trans e0,z0⟩,(hc 1 (by decide)).trans e1⟩,ME z1⟩
theorem xO{a:Addr}(h:Rd enc prog w base spare held 77 cs)(_:cs.length=3)(hc:∀j,j<3->w.cell? (a.add j)=cs[j]?):∃x,Lg w a x/\Bo x.n:=by
 have hs:=(h.struct underlying77).2;obtain⟨k,e0,z0⟩:=KJ (k:=0) (hs 0 _ rfl);obtain⟨s,e1,z1⟩:=Dy (k:=1) (hs 1 _ rfl);obtain⟨n,e2,z2⟩:=P6 (k:=2) (hs 2 _ rfl);exact⟨⟨k,s,n⟩,⟨(hc 0 (by decide)).trans e0,⟨(hc 1 (by decide)).trans e1,z1⟩,(hc 2 (by decide)).trans e2⟩,ME z2⟩
theorem Zr{a:Addr}(h:Rd enc prog w base spare held 77 ((cs.drop k).take 3))(hn:k+3<=n)(hc:∀j,j<n->w.cell? (a.add j)=cs[j]?):∃x,Q5 w a k x/\Bo x.n:=by
 have hs:=(h.struct underlying77).2;obtain⟨q,e0,z0⟩:=KJ (k:=0) (hs 0 _ rfl);obtain⟨s,e1,z1⟩:=Dy (k:=1) (hs 1 _ rfl);obtain⟨m,e2,z2⟩:=P6 (k:=2) (hs 2 _ rfl);exact⟨⟨q,s,m⟩,⟨DW ((hc k (by omega)).trans (KN (j:=0) (by decide) e0)),⟨DW ((hc (k+1) (by omega)).trans (KN (j:=1) (by decide) e1)),z1⟩,DW ((hc (k+2) (by omega)).trans (KN (j:=2) (by decide) e2))⟩,ME z2⟩
theorem ADQ{a:Addr}(h:Rd enc prog w base spare held 234 cs)(_:cs.length=4)(hc:∀j,j<4->w.cell? (a.add j)=cs[j]?):∃x,iQ w a x/\Bo x.a.n:=by
 have hs:=(h.struct underlying234).2;obtain⟨n,e0,z0⟩:=Dy (k:=0) (hs 0 _ rfl);obtain⟨x,hx,hy⟩:=Zr (k:=1) (n:=4) (a:=a) (hs 1 _ rfl) (by decide) hc;exact⟨⟨n,x⟩,⟨⟨(hc 0 (by decide)).trans e0,z0⟩,hx⟩,hy⟩
theorem zS{a:Addr}(h:Rd enc prog w base spare held 232 cs)(_:cs.length=4)(hc:∀j,j<4->w.cell? (a.add j)=cs[j]?):∃x,Py w a x/\(Bo x.i/\∀b∈x.vs,Bo b.a.n):=by
 have hs:=(h.struct underlying232).2;obtain⟨n,e0,z0⟩:=Dy (k:=0) (hs 0 _ rfl);obtain⟨b,e1,z1⟩:=Dy (k:=1) (hs 1 _ rfl);obtain⟨q,e2,z2⟩:=KJ (k:=2) (hs 2 _ rfl);obtain⟨u,l,e3,hl⟩:=Cw (k:=3) (E:=λw a x=>iQ w a x/\Bo (Bd.a x).n) (sz:=4) underlying230 (BK (by kernel_rfl)) (by kernel_rfl) (hs 3 _ rfl) λ_ _=>ADQ;obtain⟨hl,r3⟩:=hl.split;exact⟨⟨n,b,q,l⟩,⟨⟨(hc 0 (by decide)).trans e0,z0⟩,⟨DW ((hc 1 (by decide)).trans e1),z1⟩,DW ((hc 2 (by decide)).trans e2),u,DW ((hc 3 (by decide)).trans e3),hl⟩,⟨ME z2,r3⟩⟩
theorem zM{a:Addr}(h:Rd enc prog w base spare held 238 cs)(_:cs.length=2)(hc:∀j,j<2->w.cell? (a.add j)=cs[j]?):∃x,Pw w a x/\(∀a∈x.vs,Bo a.n):=by
 have hs:=(h.struct underlying238).2;obtain⟨n,e0,z0⟩:=Dy (k:=0) (hs 0 _ rfl);obtain⟨u,l,e1,hl⟩:=Cw (k:=1) (E:=λw a x=>Lg w a x/\Bo (Ag.n x)) (sz:=3) underlying129 (BK (by kernel_rfl)) (by kernel_rfl) (hs 1 _ rfl) λ_ _=>xO;obtain⟨hl,r1⟩:=hl.split;exact⟨⟨n,l⟩,⟨⟨(hc 0 (by decide)).trans e0,z0⟩,u,DW ((hc 1 (by decide)).trans e1),hl⟩,r1⟩
theorem ADO{a:Addr}(h:Rd enc prog w base spare held 133 cs)(_:cs.length=6)(hc:∀j,j<6->w.cell? (a.add j)=cs[j]?):∃x,WZ w a x/\VT x:=by
 have hs:=(h.struct underlying133).2;obtain⟨q,e0,z0⟩:=KJ (k:=0) (hs 0 _ rfl);obtain⟨d,e1,z1⟩:=Dy (k:=1) (hs 1 _ rfl);obtain⟨n,e2,z2⟩:=Dy (k:=2) (hs 2 _ rfl);obtain⟨u3,l3,e3,h3⟩:=Cw (k:=3) (E:=λw a x=>Lg w a x/\Bo (Ag.n x)) (sz:=3) underlying129 (BK (by kernel_rfl)) (by kernel_rfl) (hs 3 _ rfl) λ_ _=>xO;obtain⟨h3,r3⟩:=h3.split;obtain⟨u4,l4,e4,h4⟩:=Cw (k:=4) (E:=λw a x=>Py w a x/\(Bo (Fr.i x)/\∀b∈Fr.vs x,Bo b.a.n)) (sz:=4) underlying130 (BK (by kernel_rfl)) (by kernel_rfl) (hs 4 _ rfl) λ_ _=>zS;obtain⟨h4,r4⟩:=h4.split;obtain⟨u5,l5,e5,h5⟩:=Cw (k:=5) (E:=λw a x=>Pw w a x/\(∀a∈Vt.vs x,Bo a.n)) (sz:=2) underlying131 (BK (by kernel_rfl)) (by kernel_rfl) (hs 5 _ rfl) λ_ _=>zM;obtain⟨h5,r5⟩:=h5.split;exact⟨⟨q,d,n,l3,l4,l5⟩,⟨(hc 0 (by decide)).trans e0,⟨DW ((hc 1 (by decide)).trans e1),z1⟩,⟨DW ((hc 2 (by decide)).trans e2),z2⟩,⟨u3,DW ((hc 3 (by decide)).trans e3),h3⟩,⟨u4,DW ((hc 4 (by decide)).trans e4),h4⟩,u5,DW ((hc 5 (by decide)).trans e5),h5⟩,⟨r3,r4,r5⟩⟩
theorem zQ{a:Addr}(h:Rd enc prog w base spare held 213 cs)(_:cs.length=4)(hc:∀j,j<4->w.cell? (a.add j)=cs[j]?):∃x,AtIn w a x/\Bo x.a.n:=by
 have hs:=(h.struct underlying213).2;obtain⟨n,e0,z0⟩:=Dy (k:=0) (hs 0 _ rfl);obtain⟨x,hx,hy⟩:=Zr (k:=1) (n:=4) (a:=a) (hs 1 _ rfl) (by decide) hc;exact⟨⟨n,x⟩,⟨⟨(hc 0 (by decide)).trans e0,z0⟩,hx⟩,hy⟩
theorem zO{a:Addr}(h:Rd enc prog w base spare held 211 cs)(_:cs.length=2)(hc:∀j,j<2->w.cell? (a.add j)=cs[j]?):∃x,Px w a x/\(∀j∈x.is,Bo j.a.n):=by
 have hs:=(h.struct underlying211).2;obtain⟨n,e0,z0⟩:=Dy (k:=0) (hs 0 _ rfl);obtain⟨u,l,e1,hl⟩:=Cw (k:=1) (E:=λw a x=>AtIn w a x/\Bo (TH.a x).n) (sz:=4) underlying209 (BK (by kernel_rfl)) (by kernel_rfl) (hs 1 _ rfl) λ_ _=>zQ;obtain⟨hl,r1⟩:=hl.split;exact⟨⟨n,l⟩,⟨⟨(hc 0 (by decide)).trans e0,z0⟩,u,DW ((hc 1 (by decide)).trans e1),hl⟩,r1⟩
theorem zN{a:Addr}(h:Rd enc prog w base spare held 80 ((cs.drop k).take 6))(hn:k+6<=n)(hc:∀j,j<n->w.cell? (a.add j)=cs[j]?):∃x,XD w a k x/\(Bo x.a.n/\Bo x.n):=by
 have hs:=(h.struct underlying80).2;obtain⟨q,e0,z0⟩:=KJ (k:=0) (hs 0 _ rfl);have ha:Rd enc prog w base spare held 77 ((((cs.drop k).take 6).drop 1).take 3):=hs 1 _ rfl;rw[mK rfl (by decide)]at ha;obtain⟨x,hx,hy⟩:=Zr (k:=k+1) (n:=n) (a:=a) ha (by omega) hc;obtain⟨u,l,e4,h4⟩:=Cw (k:=4) (E:=DL) (sz:=1) underlying78 (BK (by kernel_rfl)) (by kernel_rfl) (hs 2 _ rfl) λ_ _=>zW;obtain⟨m,e5,z5⟩:=P6 (k:=5) (hs 3 _ rfl);exact⟨⟨q,x,l,m⟩,⟨DW ((hc k (by omega)).trans (KN (j:=0) (by decide) e0)),hx,⟨u,DW ((hc (k+4) (by omega)).trans (KN (j:=4) (by decide) e4)),h4⟩,DW ((hc (k+5) (by omega)).trans (KN (j:=5) (by decide) e5))⟩,⟨hy,ME z5⟩⟩
theorem zT{a:Addr}(h:Rd enc prog w base spare held 82 cs)(_:cs.length=9)(hc:∀j,j<9->w.cell? (a.add j)=cs[j]?):∃x,Jf w a x/\RA x:=by
 have hs:=(h.struct underlying82).2;obtain⟨n,e0,z0⟩:=Dy (k:=0) (hs 0 _ rfl);obtain⟨u1,l1,e1,h1⟩:=Cw (k:=1) (E:=λw a x=>Px w a x/\(∀j∈Ph.is x,Bo j.a.n)) (sz:=2) underlying74 (BK (by kernel_rfl)) (by kernel_rfl) (hs 1 _ rfl) λ_ _=>zO;obtain⟨h1,r1⟩:=h1.split;obtain⟨u2,l2,e2,h2⟩:=Cw (k:=2) (E:=λw a x=>WZ w a x/\VT x) (sz:=6) underlying75 (BK (by kernel_rfl)) (by kernel_rfl) (hs 2 _ rfl) λ_ _=>ADO;obtain⟨h2,r2⟩:=h2.split;obtain⟨x,hx,hy⟩:=zN (k:=3) (n:=9) (a:=a) (hs 3 _ rfl) (by decide) hc;exact⟨⟨n,l1,l2,x⟩,⟨⟨(hc 0 (by decide)).trans e0,z0⟩,⟨u1,DW ((hc 1 (by decide)).trans e1),h1⟩,⟨u2,DW ((hc 2 (by decide)).trans e2),h2⟩,hx⟩,⟨r1,r2,hy.1,hy.2⟩⟩
theorem ADP{a:Addr}(h:Rd enc prog w base spare held 66 cs)(_:cs.length=5)(hc:∀j,j<5->w.cell? (a.add j)=cs[j]?):∃x,VP w a x/\(∀b∈x.bs,RA b):=by
 have hs:=(h.struct underlying66).2;obtain⟨n,e0,z0⟩:=Dy (k:=0) (hs 0 _ rfl);obtain⟨r,e1,z1⟩:=Dy (k:=1) (hs 1 _ rfl);obtain⟨u2,l2,e2,h2⟩:=Cw (k:=2) (E:=IU) (sz:=2) underlying23 (BK (by kernel_rfl)) (by kernel_rfl) (hs 2 _ rfl) λ_ _=>VR;obtain⟨u3,l3,e3,h3⟩:=Cw (k:=3) (E:=IU) (sz:=2) underlying23 (BK (by kernel_rfl)) (by kernel_rfl) (hs 3 _ rfl) λ_ _=>VR;obtain⟨u4,l4,e4,h4⟩:=Cw (k:=4) (E:=λw a x=>Jf w a x/\RA x) (sz:=9) underlying64 (BK (by kernel_rfl)) (by kernel_rfl) (hs 4 _ rfl) λ_ _=>zT;obtain⟨h4,r4⟩:=h4.split;exact⟨⟨n,r,l2,l3,l4⟩,⟨⟨(hc 0 (by decide)).trans e0,z0⟩,⟨DW ((hc 1 (by decide)).trans e1),z1⟩,⟨u2,DW ((hc 2 (by decide)).trans e2),h2⟩,⟨u3,DW ((hc 3 (by decide)).trans e3),h3⟩,u4,DW ((hc 4 (by decide)).trans e4),h4⟩,r4⟩
theorem AAX(h:Rd enc prog w base spare held 27 cs):∃(p:Pg) (u1 u2 u3 u4:Value),Cj w (.agg cs.toArray) p u1 u2 u3 u4/\Ky p:=by
 obtain⟨hl,hs⟩:=h.struct underlying27;obtain⟨b,e0⟩:=kE (k:=0) (hs 0 _ rfl);obtain⟨u1,l1,e1,h1⟩:=Cw (k:=1) (E:=Y0) (sz:=2) underlying22 (BK (by kernel_rfl)) (by kernel_rfl) (hs 1 _ rfl) λ_ _=>zX;obtain⟨u2,l2,e2,h2⟩:=Cw (k:=2) (E:=IU) (sz:=2) underlying23 (BK (by kernel_rfl)) (by kernel_rfl) (hs 2 _ rfl) λ_ _=>VR;obtain⟨u3,l3,e3,h3⟩:=Cw (k:=3) (E:=λw a x=>gV w a x/\Bo (Ex.k x)) (sz:=2) underlying24 (BK (by kernel_rfl)) (by kernel_rfl) (hs 3 _ rfl) λ_ _=>ADN;obtain⟨u4,l4,e4,h4⟩:=Cw (k:=4) (E:=λw a x=>VP w a x/\∀b∈Fn.bs x,RA b) (sz:=5) underlying25 (BK (by kernel_rfl)) (by kernel_rfl) (hs 4 _ rfl) λ_ _=>ADP;obtain⟨h3,r3⟩:=h3.split;obtain⟨h4,r4⟩:=h4.split;have:=oG (hl.trans (by kernel_rfl)) e0 e1 e2 e3 e4;exact⟨⟨b,l1,l2,l3,l4⟩,u1,u2,u3,u4,⟨by rw[this],h1,h2,h3,h4⟩,r3,r4⟩
theorem Zt{a:Addr}(h:Rd enc prog w base spare held 2 cs)(_:cs.length=1)(hc:∀j,j<1->w.cell? (a.add j)=cs[j]?):∃x,Nj w a x/\Bo x:=by
 obtain⟨s,rfl,hz⟩:=h.int underlying2;exact⟨s,hc 0 (by decide),ME hz⟩
theorem AAJ(h:Rd enc prog w base spare held 5 ((cs.drop k).take 1)):∃n:Int,cs[k]? =cP (cI .u8 n)/\(Lit.int .u8 n).wf=cC:=by
 obtain⟨s,e,hz⟩:=h.int underlying5;exact⟨s,Iw e,hz⟩
structure oM(w:World)(v:Value)(f:Nat)(l1:List Int)(fuel:Int)(l2 l3:List Int)(u1 u2 u3:Value):Prop where
 e:v=.agg #[cI .u8 (f:Int),u1,cI cJ fuel,u2,u3]
 f:f<256
 r1:Row Nj 1 w u1 l1
 r2:Row Nj 1 w u2 l2
 r3:Row Nj 1 w u3 l3
 g1:∀n∈l1,Bo n
 g2:∀n∈l2,Bo n
 g3:∀n∈l3,Bo n
 fu:Bo fuel
theorem ADX(h:Rd enc prog w base spare held 30 cs):∃(f:Nat) (l1:List Int) (fuel:Int) (l2 l3:List Int) (u1 u2 u3:Value),oM w (.agg cs.toArray) f l1 fuel l2 l3 u1 u2 u3:=by
 obtain⟨hl,hs⟩:=h.struct underlying30;obtain⟨f,e0,z0⟩:=AAJ (k:=0) (hs 0 _ rfl);obtain⟨u1,l1,e1,h1⟩:=Cw (k:=1) (E:=λw a x=>Nj w a x/\Bo x) (sz:=1) underlying28 (BK (by kernel_rfl)) (by kernel_rfl) (hs 1 _ rfl) λ_ _=>Zt;obtain⟨fu,e2,z2⟩:=P6 (k:=2) (hs 2 _ rfl);obtain⟨u2,l2,e3,h2⟩:=Cw (k:=3) (E:=λw a x=>Nj w a x/\Bo x) (sz:=1) underlying28 (BK (by kernel_rfl)) (by kernel_rfl) (hs 3 _ rfl) λ_ _=>Zt;obtain⟨u3,l3,e4,h3⟩:=Cw (k:=4) (E:=λw a x=>Nj w a x/\Bo x) (sz:=1) underlying28 (BK (by kernel_rfl)) (by kernel_rfl) (hs 4 _ rfl) λ_ _=>Zt;obtain⟨h1,r1⟩:=h1.split;obtain⟨h2,r2⟩:=h2.split;obtain⟨h3,r3⟩:=h3.split;have:=oG (hl.trans (by kernel_rfl)) e0 e1 e2 e3 e4;have hf:0<=f/\f<256:=by
  have h1:IntKind.u8.min=0:=rfl;have h2:IntKind.u8.max=255:=rfl;simp only[Lit.wf,Bool.and_eq_true,decide_eq_true_eq]at z0;exact⟨by omega,by omega⟩
 obtain⟨n,rfl⟩:=Int.eq_ofNat_of_zero_le hf.1;exact⟨n,l1,fu,l2,l3,u1,u2,u3,by rw[this],by omega,h1,h2,h3,r1,r2,r3,ME z2⟩
end
end
section
def Lu(w:World)(s:St)(fr hp gl tr mk:Value)(P:Nat->Prop):Prop:=
 ∃F1 F2 F3 F4 F5,AZ w 0 84 4 (s.frames.map Kw) fr F1/\AZ w 0 119 2 (s.heap.map Ld) hp F2/\AZ w 0 34 2 (s.globals.map C9) gl F3/\AZ w 0 59 4 (s.trace.map Qc) tr F4/\AZ w 0 2 1 (s.marks.map dN) mk F5/\
  ∀b∈F1++(F2++(F3++(F4++F5))),b<w.heap.size/\P b
def Lu.in{P:Nat->Prop}(h:Lu w s fr hp gl tr mk P):Qx w s fr hp gl tr mk:=by
 obtain⟨F1,F2,F3,F4,F5,h1,h2,h3,h4,h5,-⟩:=h;exact⟨⟨_,h1⟩,⟨_,h2⟩,⟨_,h3⟩,⟨_,h4⟩,⟨_,h5⟩⟩
theorem Lu.same{w1:World}{P Q:Nat->Prop}(h:Lu w s fr hp gl tr mk P)(hh:∀b,b<w.heap.size->P b->w1.heap[b]? =w.heap[b]?)(hz:w.heap.size<=w1.heap.size)(hQ:∀b,b<w.heap.size->P b->Q b):Lu w1 s fr hp gl tr mk Q:=by
 obtain⟨F1,F2,F3,F4,F5,h1,h2,h3,h4,h5,h6⟩:=h;have k:∀b∈F1++(F2++(F3++(F4++F5))),w1.heap[b]? =w.heap[b]? :=λb hb=>hh b (h6 b hb).1 (h6 b hb).2;refine⟨F1,F2,F3,F4,F5,h1.same λb hb=>k b (by simp[hb]),h2.same λb hb=>k b (by simp[hb]),h3.same λb hb=>k b (by simp[hb]),h4.same λb hb=>k b (by simp[hb]),h5.same λb hb=>k b (by simp[hb]),λb hb=>⟨A9 (h6 b hb).1 hz,hQ b (h6 b hb).1 (h6 b hb).2⟩⟩
theorem Bt.a(h:Bt w B s fr hp gl tr mk):Lu w s fr hp gl tr mk λb=>B<=b:=by
 obtain⟨F1,F2,F3,F4,F5,h1,h2,h3,h4,h5,-⟩:=h;refine⟨F1,F2,F3,F4,F5,AZ.mono (AY) h1,AZ.mono (AY) h2,AZ.mono (AY) h3,AZ.mono (AY) h4,AZ.mono (AY) h5,λb hb=>?_⟩;simp only[List.mem_append]at hb;rcases hb with hb|hb|hb|hb|hb
 ·exact⟨(h1.fp b hb).2,(h1.fp b hb).1⟩
 ·exact⟨(h2.fp b hb).2,(h2.fp b hb).1⟩
 ·exact⟨(h3.fp b hb).2,(h3.fp b hb).1⟩
 ·exact⟨(h4.fp b hb).2,(h4.fp b hb).1⟩
 ·exact⟨(h5.fp b hb).2,(h5.fp b hb).1⟩
abbrev gY(p:Nat):Value:=.pointer (cP ⟨p,0,cX⟩)
def Wi(s:St)(fr hp gl tr mk:Value):List Value:=[cI cJ s.status,cS s.result.1,cI cJ s.result.2,cI cJ s.code,fr,hp,gl,tr,mk,cI cJ s.allocs,cI cJ s.steps,cI cJ s.guards,cI cJ s.asked]
def Off(V:Nat->Value)(L:Nat->Bool)(b:Nat):Prop:=L 10=cC->V 10≠gY b
structure Fv(W:World)(s:St)(V:Nat->Value)(L:Nat->Bool)(w:World):Prop where
 b:AA6 W w
 v6:L 6=cC->∃fr hp gl tr mk,V 6=.tuple #[Ko s fr hp gl tr mk,cI cJ 0]/\Lu w s fr hp gl tr mk (Off V L)
 v7:L 7=cC->∃fr hp gl tr mk,V 7=.tuple #[Ko s fr hp gl tr mk,cI cJ 0]/\Lu w s fr hp gl tr mk (Off V L)
 v8:L 8=cC->∃fr hp gl tr mk,V 8=Ko s fr hp gl tr mk/\Lu w s fr hp gl tr mk (Off V L)
 v9:L 9=cC->V 9=cI cJ 0
 vb:L 10=cC->∃p,V 10=gY p/\W.heap.size<=p/\p<w.heap.size/\(L 11=cA->Ae w p gF)/\(L 11=cC->∃fr hp gl tr mk,Ae w p (Wi s fr hp gl tr mk)/\Lu w s fr hp gl tr mk (Off V L))
section
variable {W w w2 : World} {s : St} {V : Nat -> Value} {L : Nat -> Bool}
def Fv.start(h:AA6 W w):Fv W s V (λ_=>cA) w:=⟨h,(λe=>Bool.noConfusion e),(λe=>Bool.noConfusion e),(λe=>Bool.noConfusion e),(λe=>Bool.noConfusion e),(λe=>Bool.noConfusion e)⟩
theorem Off.upd(h:((10:Nat)==i)=cA):Off V (upd L i)=Off V L:=by
 unfold Off;rw[upd_ne h]
def Fv.keep(h:Fv W s V L w)(h6:((6:Nat)==i)=cA)(h7:((7:Nat)==i)=cA)(h8:((8:Nat)==i)=cA)(h9:((9:Nat)==i)=cA)(ha:((10:Nat)==i)=cA)(hb:((11:Nat)==i)=cA):Fv W s V (upd L i) w:=by
 refine⟨h.b,?_,?_,?_,?_,?_⟩
 ·rw[upd_ne h6,Off.upd ha];exact h.v6
 ·rw[upd_ne h7,Off.upd ha];exact h.v7
 ·rw[upd_ne h8,Off.upd ha];exact h.v8
 ·rw[upd_ne h9];exact h.v9
 ·rw[upd_ne ha,upd_ne hb,Off.upd ha];exact h.vb
theorem Fv.kp(h:Fv W s V L w)(hb:AA6 w w2):Fv W s V L w2:=by
 have k:∀{fr hp gl tr mk:Value},Lu w s fr hp gl tr mk (Off V L)->Lu w2 s fr hp gl tr mk (Off V L):=λh=>h.same (λb h1 _=>hb.block b h1) hb.size λ_ _ h=>h;refine⟨AB h.b hb,λe=>?_,λe=>?_,λe=>?_,h.v9,λe=>?_⟩
 ·obtain⟨_,_,_,_,_,e1,e2⟩:=h.v6 e;exact⟨_,_,_,_,_,e1,k e2⟩
 ·obtain⟨_,_,_,_,_,e1,e2⟩:=h.v7 e;exact⟨_,_,_,_,_,e1,k e2⟩
 ·obtain⟨_,_,_,_,_,e1,e2⟩:=h.v8 e;exact⟨_,_,_,_,_,e1,k e2⟩
 ·obtain⟨p,e1,e2,e3,e4,e5⟩:=h.vb e;refine⟨p,e1,e2,A9 e3 hb.size,λe=>(e4 e).same (hb.block p e3),λe=>?_⟩;obtain⟨_,_,_,_,_,x1,x2⟩:=e5 e;exact⟨_,_,_,_,_,x1.same (hb.block p e3),k x2⟩
theorem iY(h:((10:Nat)==i)=cA):Off (EB V i v) (upd L i)=Off V L:=by
 unfold Off;rw[upd_ne h,Br V v (by simpa using h)]
theorem Fv.set(h:Fv W s V L w)(v:Value)(ha:((10:Nat)==i)=cA)(hb:((11:Nat)==i)=cA)(h6:i=6->∃fr hp gl tr mk,v=.tuple #[Ko s fr hp gl tr mk,cI cJ 0]/\Lu w s fr hp gl tr mk (Off V L)) (h7:i=7->∃fr hp gl tr mk,v=.tuple #[Ko s fr hp gl tr mk,cI cJ 0]/\Lu w s fr hp gl tr mk (Off V L))(h8:i=8->∃fr hp gl tr mk,v=Ko s fr hp gl tr mk/\Lu w s fr hp gl tr mk (Off V L)) (h9:i=9->v=cI cJ 0):Fv W s (EB V i v) (upd L i) w:=by
 have key:∀{Q:Value->Prop} (n:Nat),(i=n->Q v)->(L n=cC->Q (V n))->upd L i n=cC->Q (EB V i v n):=λn h1 h2 h3=>by
  by_cases e:i=n
  ·subst e;rw[BL];exact h1 rfl
  ·have hn:(n==i)=cA:=by simpa using λh=>e h.symm
   rw[upd_ne hn]at h3;rw[Br V v (λh=>e h.symm)];exact h2 h3
 refine⟨h.b,?_,?_,?_,?_,?_⟩
 ·rw[iY ha];exact key (Q:=λx=>∃fr hp gl tr mk,x=.tuple #[Ko s fr hp gl tr mk,cI cJ 0]/\Lu w s fr hp gl tr mk (Off V L)) 6 h6 h.v6
 ·rw[iY ha];exact key (Q:=λx=>∃fr hp gl tr mk,x=.tuple #[Ko s fr hp gl tr mk,cI cJ 0]/\Lu w s fr hp gl tr mk (Off V L)) 7 h7 h.v7
 ·rw[iY ha];exact key (Q:=λx=>∃fr hp gl tr mk,x=Ko s fr hp gl tr mk/\Lu w s fr hp gl tr mk (Off V L)) 8 h8 h.v8
 ·exact key (Q:=λx=>x=cI cJ 0) 9 h9 h.v9
 ·rw[iY ha,upd_ne ha,upd_ne hb,Br V v (by simpa using ha)];exact h.vb
theorem Fv.made(h:Fv W s V L w)(hl:L 10=cA)(h11:L 11=cA)(t:TypeId):Fv W s (EB V 10 (gY w.heap.size)) (upd L 10) (w.alloc (.cells gF.toArray t)):=by
 have hal:=AJ w (.cells gF.toArray t);have k:∀{fr hp gl tr mk:Value},Lu w s fr hp gl tr mk (Off V L)->Lu (w.alloc (.cells gF.toArray t)) s fr hp gl tr mk (Off (EB V 10 (gY w.heap.size)) (upd L 10)):=λh=>h.same (λb h1 _=>hal.block b h1) hal.size λb h1 _ _ e=>by
  rw[BL]at e;injection e with e;injection e with e;injection e with e;omega
 refine⟨AB h.b hal,?_,?_,?_,?_,λ_=>⟨w.heap.size,BL _ _ _,h.b.size,by simp,λ_=>Ae.alloc w gF t,λe=>?_⟩⟩
 ·rw[upd_ne (by rfl),Br V _ (by decide)];intro e;obtain⟨_,_,_,_,_,e1,e2⟩:=h.v6 e;exact⟨_,_,_,_,_,e1,k e2⟩
 ·rw[upd_ne (by rfl),Br V _ (by decide)];intro e;obtain⟨_,_,_,_,_,e1,e2⟩:=h.v7 e;exact⟨_,_,_,_,_,e1,k e2⟩
 ·rw[upd_ne (by rfl),Br V _ (by decide)];intro e;obtain⟨_,_,_,_,_,e1,e2⟩:=h.v8 e;exact⟨_,_,_,_,_,e1,k e2⟩
 ·rw[upd_ne (by rfl),Br V _ (by decide)];exact h.v9
 ·rw[upd_ne (by rfl),h11]at e;cases e
theorem Fv.fill(h:Fv W s V L w){p:Nat}(hl:L 10=cC)(h11:L 11=cA)(hp:V 10=gY p){h':Value}(hA:Lu w s fr h' gl tr mk (Off V L)):Fv W s V (upd L 11) (BZ w p 0 (Wi s fr h' gl tr mk)):=by
 obtain⟨p',e1,e2,e3,e4,-⟩:=h.vb hl;obtain rfl:p=p':=by rw[hp]at e1;simpa[gY]using e1
 have hsz:=DK (p:=p) (Wi s fr h' gl tr mk) 0 w;have ho:Off V (upd L 11)=Off V L:=Off.upd (by rfl);have k:∀{fr1 hp1 gl1 tr1 mk1:Value},Lu w s fr1 hp1 gl1 tr1 mk1 (Off V L)->Lu (BZ w p 0 (Wi s fr h' gl tr mk)) s fr1 hp1 gl1 tr1 mk1 (Off V (upd L 11)):=λh=>h.same (λb _ h2=>Bu (λe=>h2 hl (by rw[hp,e])) _ _ _) (Nat.le_of_eq hsz.symm) λb _ h2=>by rw[ho];exact h2
 refine⟨h.b.trans (Ay e2 _ 0 w),?_,?_,?_,?_,λ_=>⟨p,hp,e2,by rw[hsz];exact e3,(λe=>by rw[Cc]at e;cases e),λ_=>⟨_,_,_,_,_,CK (Wi s fr h' gl tr mk) _ 0 w (e4 h11) rfl,k hA⟩⟩⟩
 ·rw[upd_ne (by rfl)];intro e;obtain⟨_,_,_,_,_,e1,e2⟩:=h.v6 e;exact⟨_,_,_,_,_,e1,k e2⟩
 ·rw[upd_ne (by rfl)];intro e;obtain⟨_,_,_,_,_,e1,e2⟩:=h.v7 e;exact⟨_,_,_,_,_,e1,k e2⟩
 ·rw[upd_ne (by rfl)];intro e;obtain⟨_,_,_,_,_,e1,e2⟩:=h.v8 e;exact⟨_,_,_,_,_,e1,k e2⟩
 ·rw[upd_ne (by rfl)];exact h.v9
theorem Fv.called(h:Fv W s V L w)(hb:AA6 w w2)(ho:Bt w2 w.heap.size s fr hp gl tr mk):Fv W s (EB V 6 (.tuple #[Ko s fr hp gl tr mk,cI cJ 0])) (upd L 6) w2:=by
 refine(h.kp hb).set _ (by rfl) (by rfl) (λ_=>⟨_,_,_,_,_,rfl,ho.a.same (λ_ _ _=>rfl) (AQ) λb _ h2=>?_⟩) (λe=>absurd e (by decide)) (λe=>absurd e (by decide)) (λe=>absurd e (by decide));intro hl e;obtain⟨p,e1,-,e3,-⟩:=h.vb hl;rw[e1]at e;injection e with e;injection e with e;injection e with e;omega
end
end
end Go.Proofs.YtlffomedflegdaaGreatDoor
