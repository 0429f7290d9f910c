/- Part 47 of 49 of the proof: LinB, Tn, To. -/
import Derived.Test.YtlffomedflegdaaGreatDoorPz00
import Derived.Test.YtlffomedflegdaaGreatDoorPz44
import Derived.Test.YtlffomedflegdaaGreatDoorPz45
import Derived.Test.YtlffomedflegdaaGreatDoorPz46
set_option linter.all false
set_option maxHeartbeats 16000000
set_option maxRecDepth 100000
namespace Go.Proofs.YtlffomedflegdaaGreatDoor
open Go.Proofs.Tryz
open Go.RowKit
variable {B:Nat}{v:Value}{w:World}
section
namespace OB
def RF(ns:Nat->Nat)(vs:Nat->Value)(i k:Nat):Value:=if k=0 then .int .i64 (ns i:Int)else vs i
def Cb(T:TypeId)(w:World)(B:Nat)(v:Value)(l:List Ln):Prop:=
 ∃ns vs,EM w B T 2 v l.length (RF ns vs)/\∀(j:Nat) x,l[j]? =some x->ns j=x.1/\BF w B (vs j) x.2
section
variable {T : TypeId} {w w' : World} {B : Nat} {v v' : Value} {l : List Ln}
theorem Cb.nil:Cb T w B (.slice none 0 0) []:=⟨fun _=>0,fun _=> .slice none 0 0,EM.nil,fun j x h=>by cases h⟩
theorem Cb.slice(h:Cb T w B v l):∃pu cu,v=.slice pu l.length cu:=by
 obtain⟨_,_,h,_⟩:=h;exact h.slice
theorem Cb.next{C:Nat}(h:Cb T w B v l)(hb:Below C w w')(hC:w.heap.size<=C):Cb T w' B v l:=by
 obtain⟨ns,vs,h,hr⟩:=h;exact⟨ns,vs,h.next hb hC,fun j x hx=>⟨(hr j x hx).1,(hr j x hx).2.next hb hC⟩⟩
theorem Cb.mono{B':Nat}(h:Cb T w B v l)(hB:B'<=B):Cb T w B' v l:=by
 obtain⟨ns,vs,⟨h1,h2⟩,hr⟩:=h;refine⟨ns,vs,⟨h1,?_⟩,fun j x hx=>⟨(hr j x hx).1,(hr j x hx).2.mono hB⟩⟩;rcases h2 with h2|⟨g',cap,cur,y1,y2,y3⟩
 ·exact .inl h2
 ·exact .inr ⟨g',cap,cur,y1,by omega,y3⟩
theorem BF.grown{u:Value}{ws:List By}{s n:Nat}{f:Nat->Nat->Value}(h:BF w B u ws)(hT:9≠T)(ho:EM w B T s v n f)(hg:w.grownBy w' v.ownBlock):BF w' B u ws:=by
 refine h.kept hg ?_
 cases hu:u.ownBlock with
 |none=>exact .inl rfl
 |some g=>
  obtain⟨ss,h,_⟩:=h;exact .inr fun e=>h.unlike ho hT hu e.symm
theorem Cb.row(h:Cb T w B v l)(hT:9≠T):∃xs,w.ownsRow B T 2 v l.length xs/\∀(w2:World) (v' u:Value) (n:Nat) (ws:List By) (o:Obj),BF w B u ws->(w.alloc o).grownBy w2 v.ownBlock->w2.ownsRow B T 2 v' (l.length+1) (xs++[.int .i64 (n:Int),u])->Cb T w2 B v' (l++[(n,ws)]):=by
 obtain⟨ns,vs,h,hr⟩:=h;refine⟨_,h,fun w2 v' u n ws o hu hg hown=>?_⟩;have keep:∀{u ws},BF w B u ws->BF w2 B u ws:=fun hu=>
  (hu.next (AJ w o) (AQ)).grown hT (h.alloc o) hg
 refine⟨fun j=>if j=l.length then n else ns j,fun j=>if j=l.length then u else vs j,?_,fun j x hx=>?_⟩
 ·have e:(l++[(n,ws)]).length=l.length+1:=by simp
  rw[e];refine EM.push hown (fun i k hi _=>?_) ?_
  ·simp only[RF,if_neg (by omega:i≠l.length)]
  ·simp[List.range_succ,RF]
 grind
theorem YD(w:World)(n:Int)(u:Value):∀j x,([Value.int .i64 n,u])[j]? =some x->(w.alloc (Obj.cells #[.int .i64 n,u] T)).cell? ((⟨w.heap.size,0,none⟩:Addr).add j)=some x:=by
 intro j x hx;rw[Dk,Nat.zero_add,World.cell?_alloc_mark];simpa using hx
theorem dn(n:Int){p:Option Addr}{a b:Nat}:∀x∈ [Value.int .i64 n,.slice p a b],x.oneCell'=true:=by
 intro x hx;simp only[List.mem_cons,List.not_mem_nil,or_false]at hx;rcases hx with rfl|rfl<;>rfl
end
theorem SF:∀(s:By) (p:By),p∈Au s->p.length<=s.length:=by
 intro s
 induction s with
 |nil=>intro p h;simp[Au]at h;subst h;simp
 |cons c r ih=>
  intro p h;unfold Au at h;split at h
  ·rcases List.mem_cons.1 h with rfl|h
   ·simp
   ·have:=ih p h;simp;omega
  ·split at h
   ·simp at h;subst h;simp
   ·rename_i p0 a e
    rcases List.mem_cons.1 h with rfl|h
    ·have:=ih p0 (by rw[e];simp);simp;omega
    ·have:=ih p (by rw[e];simp[h]);simp;omega
theorem NQ(p:By):(Dj p).length<=p.length:=by
 unfold Dj;exact(List.takeWhile_prefix _).length_le
theorem QI(p:ByteArray)(hp:p.size<=4194304)(m:Int)(w:World)(hm:w.cell? ⟨1,0,none⟩=some (.int .i64 m)):Calls prog 59 #[.string p,.string ⟨#[59]⟩] w fun e w'=> ∃(c:ByteArray) (b:ByteArray) (d:Bool),e=.returned (.tuple #[.string c,.string b,.bool d])/\c.data.toList=Dj p.data.toList/\c.size<=p.size/\∃n,w'=w.drewN n:=by
 refine(Tryz.strings_Cut p ⟨#[59]⟩ m w (by omega) hm).mono ?_;rintro e w' ⟨rfl,hn⟩;have h:(Lib.cut p.data.toList (⟨#[59]⟩:ByteArray).data.toList).1=Dj p.data.toList:=mJ p.data.toList;refine⟨_,_,_,rfl,?_,?_,hn⟩
 ·rw[h]
 ·rw[h];have h2:=NQ p.data.toList;have e1:p.data.toList.length=p.size:=by simp
  have e2:(⟨(Dj p.data.toList).toArray⟩:ByteArray).size=(Dj p.data.toList).length:=by simp[ByteArray.size]
  omega
theorem ay(s:ByteArray)(hs:s.size<=4194304)(p:By)(hp:s.data.toList=p)(h:CZ p=none)(w:World):Calls prog 60 #[.string s] w fun e w'=>e=.returned (.tuple #[.slice none 0 0,.bool false])/\AA6 w w':=by
 subst hp;refine(OP s hs w).mono ?_;rintro e w' ⟨hb,⟨_,rfl⟩|⟨ws,v,h2,_⟩⟩
 ·exact⟨rfl,hb⟩
 grind
theorem OO(s:ByteArray)(hs:s.size<=4194304)(p:By)(hp:s.data.toList=p){ws:List By}(h:CZ p=some ws)(w:World):Calls prog 60 #[.string s] w fun e w'=> ∃pu cu,e=.returned (.tuple #[.slice pu ws.length cu,.bool true])/\AA6 w w'/\BF w' w.heap.size (.slice pu ws.length cu) ws:=by
 subst hp;refine(OP s hs w).mono ?_;rintro e w' ⟨hb,⟨h2,rfl⟩|⟨ws2,v,h2,rfl,hr⟩⟩
 ·rw[h]at h2;cases h2
 ·rw[h]at h2;cases h2;obtain⟨pu,cu,rfl⟩:=hr.slice;exact⟨pu,cu,rfl,hb,hr⟩
theorem XE{p:By}{ws:List By}(h:CZ p=some ws):ws.length<=p.length:=by grind [CZ,Rc,aP]
def Km(T:TypeId)(w:World)(s:ByteArray)(e:Ending)(w':World):Prop:=
 AA6 w w'/\match Jm s.data.toList with
  |.inl l=>∃v,e=.returned (.tuple #[v,.int .i64 0,.int .i64 0])/\Cb T w' w.heap.size v l
  |.inr k=>e=.returned (.tuple #[.slice none 0 0,.int .i64 (k:Int),.int .i64 3])
structure rH(T:TypeId)(w1 wr:World)(ps:List By)(q:Nat)(v:Value)(l:List Ln):Prop where
 b:AA6 w1 wr
 o:Cb T wr w1.heap.size v l
 g:Qb 1 (ps.take q)=.inl l
 n:l.length<=q
structure Pcs(s:ByteArray)(N:Nat)(p:Nat->ByteArray):Prop where
 le:N<=4194305
 sz:∀q,q<N->(p q).size<=4194304
 all:(Au s.data.toList).take N=Au s.data.toList
 err:∀q l,q<N->Qb 1 ((Au s.data.toList).take q)=.inl l->CZ (Dj (p q).data.toList)=none->Jm s.data.toList=.inr (q+1)
 go:∀q l ws,q<N->Qb 1 ((Au s.data.toList).take q)=.inl l->CZ (Dj (p q).data.toList)=some ws->Qb 1 ((Au s.data.toList).take (q+1))=.inl (if ws=[]then l else l++[(q+1,ws)])
theorem pcs(s:ByteArray)(hs:s.size<=4194304):Pcs s (pieces s).length (fun q=>(pieces s).getD q .empty):=by
 have hps:=K8 s;have hpl:=NI s;have e0:s.data.toList.length=s.size:=by simp
 have hd:∀q,q<(pieces s).length->(Au s.data.toList)[q]? =some ((pieces s).getD q .empty).data.toList:=fun q h=>by
  rw[<-hps];simp[h]
 have hll:(Au s.data.toList).length=(pieces s).length:=by rw[<-hps];simp
 have hstep:∀q,q<(pieces s).length->(Au s.data.toList).take (q+1)=(Au s.data.toList).take q++[((pieces s).getD q .empty).data.toList]:=fun q h=>by
  rw[List.take_add_one,hd q h];rfl
 have hlen:∀q,q<=(pieces s).length->((Au s.data.toList).take q).length=q:=fun q h=>by
  rw[List.length_take];omega
 refine⟨?_,fun q h=>?_,?_,fun q l h h1 h2=>?_,fun q l ws h h1 h2=>?_⟩
 ·rw[hpl];have:=List.count_le_length (a:=(10:UInt8)) (l:=s.data.toList);omega
 ·have h1:=List.mem_of_getElem? (hd q h);have h2:=SF _ _ h1;have e2:((pieces s).getD q .empty).data.toList.length=((pieces s).getD q .empty).size:=by simp
  show((pieces s).getD q .empty).size<=_;omega
 ·rw[List.take_of_length_le (by omega)]
 ·have e:Au s.data.toList=(Au s.data.toList).take q++((pieces s).getD q .empty).data.toList::(Au s.data.toList).drop (q+1):=by
   have h3:=hstep q h;have h4:=(List.take_append_drop (q+1) (Au s.data.toList)).symm;rw[h3,List.append_assoc]at h4;exact h4
  unfold Jm;rw[e,V5,h1];dsimp only;rw[hlen q (by omega),Jz,h2];rw[Nat.add_comm]
 ·rw[hstep q h,V5,h1];dsimp only;rw[hlen q (by omega),Jz,h2];dsimp only;rw[Qb];dsimp only;split
  ·rw[List.append_nil]
  ·rw[Nat.add_comm]
theorem SN(s:ByteArray)(hs:s.size<=4194304):∃N p,Pcs s N p/\∀m w,w.cell? ⟨1,0,none⟩=some (.int .i64 m)->Calls prog 58 #[.string s,.string mg] w fun e w'=> e=.returned (.slice (some ⟨w.heap.size,0,none⟩) N N)/\AA6 w w'/\w'.heap.size=w.heap.size+1/\w'.cell? ⟨1,0,none⟩=some (.int .i64 m)/\∀q,q<N->w'.cell? ⟨w.heap.size,q,none⟩=some (.string (p q)):=by
 refine⟨_,_,pcs s hs,fun m w hm=>?_⟩;have hwz:1<w.heap.size:=World.block_lt_of_cell? w _ hm;have hcall:=Tryz.strings_Split s mg m w (by omega) hm (by decide);have hcount:Lib.countB s mg+1=(pieces s).length:=by rw[NI,PI]
 have hpe:(Lib.splitB mg 0 (Lib.countB s mg) s)=pieces s:=rfl;rw[hcount,hpe]at hcall;refine hcall.mono ?_;rintro e w' ⟨rfl,rfl⟩;refine⟨rfl,AJ w _,by simp,by rw[World.cell?_alloc_lt _ _ _ hwz];exact hm,fun q h=>?_⟩;simp_all
theorem XV(s:ByteArray)(hs:s.size<=4194304)(m:Int)(w:World)(hm:w.cell? ⟨1,0,none⟩=some (.int .i64 m)):Calls prog 36 #[.string s] w (Km 109 w s):=by
 obtain⟨i0,hi,hz0,hz1,hz2⟩:=info_parts AAV;have hle:¬(4194304:Int)<s.size:=by omega
 have hwz:1<w.heap.size:=World.block_lt_of_cell? w _ hm;obtain⟨N,p,hp,hcall⟩:=SN s hs;have hNn:=hp.le;go_enter func36,ntmps36;go_wp2_with(go_at_call 58;refine(hcall m _ hm).mono ?_;rintro e w1 ⟨rfl,hW0,hW1,hm1,hread⟩)
 go_loopw[5,6,7,8,9,16] (fun v _ _ _ _ i wr=>∃q:Nat,q<=N/\i=.int .i64 (q:Int)/\∃l,rH 109 w1 wr (Au s.data.toList) q v l) (fun _ _ _ _ _ i _=>N-(intOf i).toNat);exact⟨0,AY,rfl,[],⟨AL,Cb.nil,rfl,AQ⟩⟩;obtain⟨q,hq,rfl,l,hW⟩:=hrel;have hB:=hW.b;have hrow:=hW.o;obtain⟨pu,cu,rfl⟩:=hrow.slice;have hg:=hW.g;have hln:=hW.n;have hBB:AA6 w wr:=hW0.trans (hB.mono (by omega));by_cases hend:q=N
 ·subst hend;have hP:Km 109 w s (.returned (.tuple #[.slice pu l.length cu,.int .i64 0,.int .i64 0])) wr:=by
   refine⟨hBB,?_⟩;unfold Jm;rw[<-hp.all,hg];exact⟨_,rfl,hrow.mono (by omega)⟩
  go_wp2;go_ret3;exact hP
 ·have hlt:q<N:=by omega
  have A8:(q:Int)<N:=by omega
  have hm2:wr.cell? ⟨1,0,none⟩=some (.int .i64 m):=by rw[hB.cell (by show 1<w1.heap.size;omega)];exact hm1
  have hr2:wr.cell? ⟨w.heap.size,q,none⟩=some (.string (p q)):=by rw[hB.cell (by show w.heap.size<w1.heap.size;omega)];exact hread q hlt
  have hpz:=hp.sz q hlt;have AD9:=hp.err q l hlt hg;have hgo:=hp.go q l;have AD7:∀ws,CZ (Dj (p q).data.toList)=some ws->Qb 1 ((Au s.data.toList).take (q+1))=.inl (if ws=[]then l else l++[(q+1,ws)]):=fun ws h=>hgo ws hlt hg h;generalize hpq:p q=pc at*
  cases hwo:CZ (Dj pc.data.toList)with
  |none=>
   have hout:=AD9 hwo;(go_wp2_with(first|(go_at_call 59;refine(QI pc hpz m _ hm2).mono ?_;rintro e w2 ⟨c,b,d,rfl,hc1,hc2,n,rfl⟩)|(go_at_call 60;refine(ay c (AX hc2 hpz) _ hc1 hwo _).mono ?_;rintro e w3 ⟨rfl,hb3⟩)));have hP:Km 109 w s (.returned (.tuple #[.slice none 0 0,.int .i64 ((q:Int)+1),.int .i64 3])) w3:=by
    refine⟨hBB.trans ((below_drewN (Below.refl wr.heap.size wr) n).trans hb3|>.mono hBB.size),?_⟩;rw[hout];rfl
   go_wp2;go_ret3
   exact hP
  |some ws=>
   have hg2:=AD7 ws hwo;have hwl:=XE hwo;have hcl:=NQ pc.data.toList;have hpl:pc.data.toList.length=pc.size:=(by simp);have AJG:ws.length<=4194304:=(by omega);have hBs:=hB.size;by_cases hws:ws=[]
   ·rw[if_pos hws]at hg2;have hl0:ws.length=0:=(by rw[hws];rfl);(go_wp2_with(first|(go_at_call 59;refine(QI pc hpz m _ hm2).mono ?_;rintro e w2 ⟨c,b,d,rfl,hc1,hc2,n,rfl⟩)|(go_at_call 60;refine(OO c (AX hc2 hpz) _ hc1 hwo _).mono ?_;rintro e w3 ⟨pw,cw,rfl,hb3,hwr⟩;have hb4:=(below_drewN (Below.refl wr.heap.size wr) n).trans hb3;have hr3:=hrow.next hb4 (AQ);obtain⟨xs,hown,hput⟩:=hr3.row (by decide);clear hrow hm2 hr2)));have hW:rH 109 w1 w3 (Au s.data.toList) (q+1) (.slice pu l.length cu) l:=⟨hB.trans (hb4.mono hBs),hr3,hg2,by omega⟩;go_wp2;go_roundw;exact⟨q+1,by omega,by go_num,_,hW⟩;simp[intOf];omega
   ·rw[if_neg hws]at hg2;have hl0:0<(ws.length:Int):=(by have:=List.length_pos_iff.2 hws;omega);go_wp2_with(first|(go_at_call 59;refine(QI pc hpz m _ hm2).mono ?_;rintro e w2 ⟨c,b,d,rfl,hc1,hc2,n,rfl⟩)|(go_at_call 60;refine(OO c (AX hc2 hpz) _ hc1 hwo _).mono ?_;rintro e w3 ⟨pw,cw,rfl,hb3,hwr⟩;have hb4:=(below_drewN (Below.refl wr.heap.size wr) n).trans hb3;have hr3:=hrow.next hb4 (AQ);obtain⟨xs,hown,hput⟩:=hr3.row (by decide);clear hrow hm2 hr2)|(at_builtin;refine wpList_append_own _ rfl _ _ 99 rfl w1.heap.size 109 i0 _ 2 32 underlying99 hi hz0 hz1 hz2 rfl (by decide) _ _ _ rfl (hown.alloc _) ⟨w3.heap.size,0,none⟩ 1 1 [.int .i64 ((q:Int)+1),.slice pw ws.length cw] rfl rfl (YD _ _ _) (dn _) ?d1 ?d2 ?d3 ?_))
    case d1=>
     have:(4194307:Nat)<=maxLen:=(by unfold maxLen;omega);omega
    case d2=>omega
    case d3=>
     have h1:=hb4.size;simp;omega
    intro v2 w4 hown2 hg4 _;rw[<-hW1]at hown2;have hr4:=hput w4 v2 _ (q+1) ws _ (hwr.mono hBs) hg4 hown2;have hB4:AA6 w1 w4:=((hB.trans (hb4.mono hBs)).alloc (by have:=hb4.size;omega) _).grown hg4 (by have:=hb4.size;simp;omega) fun g e=>(hown.lt g e).1;obtain⟨pu2,cu2,rfl⟩:=Bf hown2;have hW:rH 109 w1 w4 (Au s.data.toList) (q+1) (.slice pu2 (l.length+1) cu2) (l++[(q+1,ws)]):=⟨hB4,hr4,hg2,by simp;omega⟩;go_wp2;go_roundw;exact⟨q+1,by omega,by go_num,_,hW⟩;simp[intOf];omega
end OB
end
section
open Word Num Dp
abbrev awS:ByteArray:=⟨#[102,117,110,99,32,102,32,105,110,116,10,112,97,114,97,109,32,107,32,105,110,116,10,98,108,111,99,107,32,97,10,111,117,116,32,107,10,114,101,116,32,107,10]⟩
theorem bA{ws:List (List UInt8)}{bs:List ByteArray}(h:OB.BF w B v ws)(hb:bs.map (fun s=>s.data.toList)=ws)(hl:bs.length<=100)(hz:∀s∈bs,Sz s):Row DL 1 w v bs:=by
 obtain⟨ss,h,hr⟩:=h;have hn:ws.length=bs.length:=by rw[<-hb,List.length_map]
 rw[hn]at h;rcases Nat.eq_zero_or_pos bs.length with h0|h0
 ·rw[h0]at h;rcases h.2 with⟨rfl,-⟩|⟨g,cap,cur,rfl,-,-,h1,-⟩
  ·exact⟨none,0,by rw[h0],fun _=>⟨h0,rfl⟩,⟨by omega,by omega⟩,fun i x hx=>by rw[List.getElem?_eq_none (by omega)]at hx;cases hx⟩
  ·exact⟨some ⟨g,0,none⟩,cap,by rw[h0],(fun h=>by cases h),⟨by omega,by omega⟩,fun i x hx=>by rw[List.getElem?_eq_none (by omega)]at hx;cases hx⟩
 ·obtain⟨g,cu,rfl,-,-,hle,hc,-⟩:=h.at h0;refine⟨some ⟨g,0,none⟩,cu,rfl,(fun h=>by cases h),⟨by omega,hle⟩,fun i x hx=>⟨_,rfl,?_,hz x (List.mem_of_getElem? hx)⟩⟩;obtain⟨hi,-⟩:=List.getElem?_eq_some_iff.1 hx;have h1:=hc i 0 hi (by omega);have h2:=hr i x.data.toList (by rw[<-hb,List.getElem?_map,hx];rfl);have h3:ss i=x:=by
   apply ByteArray.ext;apply Array.ext';exact h2
  have h4:w.cell? ⟨g,i,none⟩=some (.string x):=by simpa[OB.iT,h3]using h1
  cases i<;>simpa[Addr.add]using h4
theorem dZ:OB.Jm awS.data.toList=.inl [(1,[Q7.data.toList,wF.data.toList,CG.data.toList]),(2,[ML.data.toList,wK.data.toList,CG.data.toList]),(3,[MN.data.toList,wA.data.toList]),(4,[L6.data.toList,wK.data.toList]),(5,[Wh.data.toList,wK.data.toList])]:=by decide
theorem kV{T:TypeId}{l:List (Nat×List (List UInt8))}(h:OB.Cb T w B v l)(h0:0<l.length):∃g cu,v=.slice (some ⟨g,0,none⟩) l.length cu/\B<=g/\∀(j:Nat) x,l[j]? =some x->w.cell? ⟨g,j*2,none⟩=some (.int .i64 (x.1:Int))/\∃u,w.cell? ⟨g,j*2+1,none⟩=some u/\OB.BF w B u x.2:=by
 obtain⟨ns,vs,h,hr⟩:=h;obtain⟨g,cu,rfl,hg,-,-,hc,-⟩:=h.at h0;refine⟨g,cu,rfl,hg,fun j x hx=>?_⟩;obtain⟨hi,-⟩:=List.getElem?_eq_some_iff.1 hx;have h1:=hc j 0 hi (by omega);have h2:=hc j 1 hi (by omega);obtain⟨e1,e2⟩:=hr j x hx;refine⟨?_,vs j,?_,e2⟩
 ·rw[Nat.add_zero]at h1;rw[h1];simp[OB.RF,e1]
 ·rw[h2];simp[OB.RF]
end
section
open Word Num Dp
abbrev gH:Pg:=gX nU
abbrev zP:List Value:=[.bool false,.slice none 0 0,.slice none 0 0,.slice none 0 0,.slice none 0 0]
abbrev zR:List Value:=[.bool false,.slice none 0 0,.slice none 0 0,.slice none 0 0,.slice none 0 0,.int .i64 0,.int .i64 0,.bool true,.int .i64 (-1)]
def AA2(w':World)(e:Ending):Prop:=∃u1 u2 u3 u4,e=.returned (.tuple #[.agg #[.bool false,u1,u2,u3,u4],.int .i64 0,.int .i64 0])/\Cj w' (.agg #[.bool false,u1,u2,u3,u4]) gH u1 u2 u3 u4
def rF:Nat->List Fn
 |0=> []
 |1=> [⟨wF,CG,[],[],[]⟩]
 |2=> [⟨wF,CG,[⟨wK,CG⟩],[],[]⟩]
 |3=> [WW Yz]
 |4=> [WW gU]
 |_=> [WW nU]
def qG:Nat->Int
 |0=>0
 |1=>2
 |2=>2
 |3=>4
 |4=>5
 |_=>0
def qJ:Nat->Int
 |0=> -1
 |1=>0
 |2=>0
 |3=>0
 |_=>1
def JQ:Nat->List ByteArray
 |0=> [Q7,wF,CG]
 |1=> [ML,wK,CG]
 |2=> [MN,wA]
 |3=> [L6,wK]
 |_=> [Wh,wK]
abbrev ig:List (Nat×List (List UInt8)):=[(1,[Q7.data.toList,wF.data.toList,CG.data.toList]),(2,[ML.data.toList,wK.data.toList,CG.data.toList]),(3,[MN.data.toList,wA.data.toList]),(4,[L6.data.toList,wK.data.toList]),(5,[Wh.data.toList,wK.data.toList])]
theorem dw{w0:World}{R:Nat}(hB:w0.heap.size<=B)(q:Nat)(hq:q<5)(ln:Int):OM w0 B R (JQ q) ln (rF q) (rF (q+1)) (qG q) (qJ q) (qG (q+1)) (qJ (q+1)):=by
 obtain rfl|rfl|rfl|rfl|rfl:q=0\/q=1\/q=2\/q=3\/q=4:=by omega
 ·exact AAR hB ln
 ·exact AAQ hB ln
 ·exact AAP hB ln
 ·exact AAO hB ln
 ·exact AAN hB ln
theorem bJ{s:ByteArray}(h:s.size<=5):Sz s:=by unfold Sz;omega
theorem bB(q:Nat)(hq:q<5){x:Nat×List (List UInt8)}(hx:ig[q]? =some x)(h:OB.BF w B v x.2):x.1=q+1/\Row DL 1 w v (JQ q):=by
 obtain rfl|rfl|rfl|rfl|rfl:q=0\/q=1\/q=2\/q=3\/q=4:=by omega
 all_goals
  obtain rfl:_=x:=Option.some.inj hx;refine⟨rfl,bA h rfl (by decide) fun s hs=>?_⟩;simp only[JQ,List.mem_cons,List.mem_nil_iff,or_false]at hs;rcases hs with rfl|rfl|rfl<;>exact bJ (by decide)
theorem SK{fn:Func}{p t u:Tmp}{ty1 oo ty3:TypeId}(h:fn.results=#[.cell p ty1,.cell t oo,.cell u ty3])(tmps:Array Value)(P:Program)(w:World):(results fn tmps).run P w=((asAddr (tmps.getD p undef)).run P w).andThen fun a w₁=>((loadVar ty1 a).run P w₁).andThen fun v w₂=>((asAddr (tmps.getD t undef)).run P w₂).andThen fun a2 w₃=>((loadVar oo a2).run P w₃).andThen fun v2 w₄=>((asAddr (tmps.getD u undef)).run P w₄).andThen fun a3 w₅=>((loadVar ty3 a3).run P w₅).andThen fun v3 w₆=> .ok (.tuple #[v,v2,v3]) w₆:=by
 simp only[results,h];simp[Sem.run_bind,Result.andThen]
theorem ru(w:World):Sr (w.alloc (Obj.cells #[.bool false,.slice none 0 0,.slice none 0 0,.slice none 0 0,.slice none 0 0,.int .i64 0,.int .i64 0,.bool true,.int .i64 (-1)] 104)) w.heap.size (w.alloc (Obj.cells #[.bool false,.slice none 0 0,.slice none 0 0,.slice none 0 0,.slice none 0 0,.int .i64 0,.int .i64 0,.bool true,.int .i64 (-1)] 104)).heap.size w.heap.size q0P 0 0 true (-1):=
 have hx:=Ae.alloc w zR 104
 ⟨⟨AQ,by simp,AQ,_,Af.of (AP.ca (l:=[.cell (.bool false),.row 153 2 [],.row 71 2 [],.row 155 2 [],.row 66 5 []]) (AP.cc (hx.c 0 _ rfl) rfl (AP.cr (l:=[]) (hx.c 1 _ rfl) AZ.nil (AP.cr (l:=[]) (hx.c 2 _ rfl) AZ.nil (AP.cr (l:=[]) (hx.c 3 _ rfl) AZ.nil (AP.cr (l:=[]) (hx.c 4 _ rfl) AZ.nil AP.cn))))) (AP.cc (hx.c 5 _ rfl) rfl (AP.cc (hx.c 6 _ rfl) rfl (AP.cc (hx.c 7 _ rfl) rfl (AP.cc (hx.c 8 _ rfl) rfl AP.cn))))),by simp,by simp⟩,⟨_,heap_alloc_new w _⟩⟩
theorem o5:oPg gH:=by
 refine⟨⟨by decide,by simp⟩,⟨by decide,by simp⟩,⟨by decide,by simp⟩,by decide,?_⟩;simp only[List.mem_singleton,forall_eq,oFn,oBk,oIs,oTm,oq,VJ,List.not_mem_nil,false_implies,implies_true];decide
theorem Sr.prog{w':World}{N R:Nat}{ln wh lg:Int}{fi:Bool}(h:Sr w B N R gH ln wh fi lg)(hk:∀b,B<=b->w'.heap[b]? =w.heap[b]?):∃u1 u2 u3 u4,w.cell? ⟨R,0,none⟩=some (.bool false)/\w.cell? ⟨R,1,none⟩=some u1/\w.cell? ⟨R,2,none⟩=some u2/\w.cell? ⟨R,3,none⟩=some u3/\w.cell? ⟨R,4,none⟩=some u4/\Cj w' (.agg #[.bool false,u1,u2,u3,u4]) gH u1 u2 u3 u4:=by
 obtain⟨fp,hL,-,-⟩:=h.own.t
 have hL':=hL.far (w1:=w') fun b hb=>hk b (by
  rcases hb with rfl|hb
  ·exact h.own.ge
  ·exact(hL.fp b hb).1)
 unfold PY at hL';obtain⟨_,_,h1,-⟩:=hL'.l.hd;obtain⟨u1,u2,u3,u4,c0,c1,c2,c3,c4,hv⟩:=vP o5 h1;simp only[Nat.zero_add]at c1 c2 c3 c4;have e:∀i,w'.cell? ⟨R,i,none⟩=w.cell? ⟨R,i,none⟩:=fun i=>World.cell?_of_block (w:=w) (w':=w') (a:=⟨R,i,none⟩) (hk R h.own.ge);exact⟨u1,u2,u3,u4,(e 0).symm.trans c0,(e 1).symm.trans c1,(e 2).symm.trans c2,(e 3).symm.trans c3,(e 4).symm.trans c4,hv⟩
structure AwR(Wb:World)(R q:Nat)(wr:World):Prop where
 s:∃(N:Nat) (fi:Bool) (ln:Int),Sr wr R N R (mZ (rF q)) ln (qG q) fi (qJ q)
 x:Ae wr (R+1) [.pointer (some ⟨R,0,none⟩)]
 t:DC wr (R+1) 102
 b:Below R Wb wr
theorem UQ(m:Int)(hm:w.cell? ⟨1,0,none⟩=some (.int .i64 m)):Calls prog 20 #[.string awS] w fun e w'=>AA2 w' e/\AA6 w w':=by
 have hmf:∀(fn:Go.Fn) (first cap:Array Value) (w:World),(Instr.makeFunc fn first cap).run prog w=.ok (.func fn first cap) w:=fun _ _ _ _=>rfl;obtain⟨x4,hz4⟩:=BR (w:=(w.alloc (.cells #[.bool false,.slice none 0 0,.slice none 0 0,.slice none 0 0,.slice none 0 0] 27)).alloc (.cells #[.int .i64 0] 3)) (c1:=[.int .i64 0]) (t1:=41) (AL);obtain⟨x2,x3,hb1⟩:=Ch (w:=w) (c1:=zP) (c2:=[.int .i64 0]) (t1:=27) (t2:=3) hz4;have qM:((w.alloc (.cells #[.bool false,.slice none 0 0,.slice none 0 0,.slice none 0 0,.slice none 0 0] 27)).alloc (.cells #[.int .i64 0] 3)).heap.size=w.heap.size+1+1:=by simp
 rw[qM]at x4;go_enter_defers func20,ntmps20;go_wp2_with fail;generalize Cr:World.alloc (World.alloc (World.alloc _ _) _) _=W at*;have hSp:=OB.XV awS (by decide) m W (AA hb1 hm);refine hSp.mono ?_;rintro e w1 ⟨hb2,hx⟩;rw[dZ]at hx;obtain⟨v,rfl,hrow⟩:=hx;obtain⟨rb,hrb⟩:∃rb,w.heap.size=rb:=⟨_,rfl⟩;replace hb1:=ABE hrb hb1;rw[hrb]at x2 x3 x4⊢;have hrl:=x4.lt;replace x2:=x2.nx hb2;replace x3:=x3.nx hb2;replace x4:=x4.nx hb2;obtain⟨g,cu,rfl,hg,hat⟩:=kV hrow (by decide);rw[show(ig:List (Nat×List (List UInt8))).length=5 from rfl];have a3:=x3.c 0 _ rfl;have a4:=x4.c 0 _ rfl;have f3:=x3.f 0 (by decide);have f4:=x4.f 0 (by decide);have b2:Ae ((w1.setCell ⟨rb+1,0,none⟩ (.int .i64 0)).setCell ⟨rb+1+1,0,none⟩ (.int .i64 0)) rb zP:=(x2.far (q:=⟨rb+1,0,none⟩) (show rb+1≠rb by omega) _).far (q:=⟨rb+1+1,0,none⟩) (show rb+1+1≠rb by omega) _;have b3:Ae ((w1.setCell ⟨rb+1,0,none⟩ (.int .i64 0)).setCell ⟨rb+1+1,0,none⟩ (.int .i64 0)) (rb+1) [.int .i64 0]:=(x3.set (i:=0) (by simp) _).far (q:=⟨rb+1+1,0,none⟩) (show rb+1+1≠rb+1 by omega) _;have b4:Ae ((w1.setCell ⟨rb+1,0,none⟩ (.int .i64 0)).setCell ⟨rb+1+1,0,none⟩ (.int .i64 0)) (rb+1+1) [.int .i64 0]:=(x4.far (q:=⟨rb+1,0,none⟩) (show rb+1≠rb+1+1 by omega) _).set (i:=0) (by simp) _;have hbb:Below rb w ((w1.setCell ⟨rb+1,0,none⟩ (.int .i64 0)).setCell ⟨rb+1+1,0,none⟩ (.int .i64 0)):=((hb1.trans (hb2.mono (by omega))).setCell (p:=⟨rb+1,0,none⟩) (show rb<=rb+1 by omega) _).setCell (p:=⟨rb+1+1,0,none⟩) (show rb<=rb+1+1 by omega) _;have AAT:∀(a:Addr) (s:ByteArray),w1.cell? a=some (.string s)->((w1.setCell ⟨rb+1,0,none⟩ (.int .i64 0)).setCell ⟨rb+1+1,0,none⟩ (.int .i64 0)).cell? a=some (.string s):=fun a s h=>by
  rw[World.cell?_setCell_other _ _ _ _ (fun e=>by rw[<-e,a4]at h;cases h),World.cell?_setCell_other _ _ _ _ (fun e=>by rw[<-e,a3]at h;cases h)];exact h
 have oI:∀(i:Nat) (v:Value),w1.cell? ⟨g,i,none⟩=some v->((w1.setCell ⟨rb+1,0,none⟩ (.int .i64 0)).setCell ⟨rb+1+1,0,none⟩ (.int .i64 0)).cell? ⟨g,i,none⟩=some v:=fun i v h=>by
  rw[World.cell?_setCell_other _ _ _ _ (fun e=>by have:=congrArg Addr.block e;have h:rb+1+1=g:=this;omega),World.cell?_setCell_other _ _ _ _ (fun e=>by have:=congrArg Addr.block e;have h:rb+1=g:=this;omega)];exact h
 have pR:∀q,q<5->((w1.setCell ⟨rb+1,0,none⟩ (.int .i64 0)).setCell ⟨rb+1+1,0,none⟩ (.int .i64 0)).cell? ⟨g,q*2,none⟩=some (.int .i64 ((q+1:Nat):Int))/\∃u,((w1.setCell ⟨rb+1,0,none⟩ (.int .i64 0)).setCell ⟨rb+1+1,0,none⟩ (.int .i64 0)).cell? ⟨g,q*2+1,none⟩=some u/\Row DL 1 ((w1.setCell ⟨rb+1,0,none⟩ (.int .i64 0)).setCell ⟨rb+1+1,0,none⟩ (.int .i64 0)) u (JQ q):=fun q hq=>by
  have hx:ig[q]? =some (ig[q]'hq):=List.getElem?_eq_getElem hq;obtain⟨h1,u,h2,h3⟩:=hat q _ hx;obtain⟨e1,h4⟩:=bB q hq hx h3;rw[e1]at h1;exact⟨oI _ _ h1,u,oI _ _ h2,Row.map h4 fun a x h=>⟨AAT _ _ h.1,h.2⟩⟩
 go_wp2_with fail;have Wm:((w1.setCell ⟨rb+1,0,none⟩ (.int .i64 0)).setCell ⟨rb+1+1,0,none⟩ (.int .i64 0)).heap.size=w1.heap.size:=by simp
 have hrR:rb+1+1<w1.heap.size:=x4.lt;generalize(w1.setCell ⟨rb+1,0,none⟩ (.int .i64 0)).setCell ⟨rb+1+1,0,none⟩ (.int .i64 0)=Wb at*;generalize hRe:w1.heap.size=R at*;have hS0:=ru Wb;have hl0:=AJ Wb (.cells #[.bool false,.slice none 0 0,.slice none 0 0,.slice none 0 0,.slice none 0 0,.int .i64 0,.int .i64 0,.bool true,.int .i64 (-1)] 104);rw[Wm]at hS0 hl0;have hsz1:(Wb.alloc (.cells #[.bool false,.slice none 0 0,.slice none 0 0,.slice none 0 0,.slice none 0 0,.int .i64 0,.int .i64 0,.bool true,.int .i64 (-1)] 104)).heap.size=R+1:=by simp[Wm]
 generalize Wb.alloc (.cells #[.bool false,.slice none 0 0,.slice none 0 0,.slice none 0 0,.slice none 0 0,.int .i64 0,.int .i64 0,.bool true,.int .i64 (-1)] 104)=Wc at*;have hxP:=Ae.alloc Wc [.pointer (some ⟨R,0,none⟩)] 102;have htP:DC (Wc.alloc (.cells #[.pointer (some ⟨R,0,none⟩)] 102)) Wc.heap.size 102:=⟨_,heap_alloc_new Wc _⟩;have hl1:=AJ Wc (.cells #[.pointer (some ⟨R,0,none⟩)] 102);have hS1:=hS0.kp hl1;rw[hsz1]at hxP htP hl1;replace hl1:=hl0.trans (hl1.mono (show R<=R+1 by omega));generalize Wc.alloc (.cells #[.pointer (some ⟨R,0,none⟩)] 102)=Wd at*;have hA:AwR Wb R 0 Wd:=⟨⟨_,_,_,hS1⟩,hxP,htP,hl1⟩;go_loopw[25] (fun i wr=>∃q:Nat,q<=5/\i=.int .i64 (q:Int)/\AwR Wb R q wr) (fun i _=>5-(intOf i).toNat);exact⟨0,by omega,rfl,hA⟩;obtain⟨q,hq,rfl,⟨N,fi,ln,hS⟩,hx,ht,hb⟩:=hrel;have p0:=hx.c 0 _ rfl;by_cases hend:q=5
 ·subst hend;replace hS:Sr wr R N R gH ln 0 fi 1:=hS;have CS:=hS.iW 0;have c5:=hS.c5;have f5:=hS.Bw 5;have hxb:=hx.far (q:=⟨R,5,none⟩) (show R≠R+1 by omega) (.int .i64 0);have pb:=hxb.c 0 _ rfl;have hal:=(Below.refl (wr.setCell ⟨R,5,none⟩ (.int .i64 0)).heap.size (wr.setCell ⟨R,5,none⟩ (.int .i64 0))).alloc (AQ) (.cells #[.int .i64 0,.int .i64 1] 3);have hX:=Ae.alloc (wr.setCell ⟨R,5,none⟩ (.int .i64 0)) [.int .i64 0,.int .i64 1] 3;have hSe:=CS.kp hal;have hbt:=E5 (R:=R) (l:=[0,1]) hX 0 (by decide) (by decide) hSe.c6;have hbE:=(hb.setCell (p:=⟨R,5,none⟩) (Nat.le_refl R) (.int .i64 0)).trans (hal.mono CS.bw);have pe:=AA hal pb;go_wp2_with fail;have ADi:(wr.setCell ⟨R,5,none⟩ (.int .i64 0)).heap.size=wr.heap.size:=by simp
  rw[ADi]at hbt;refine hbt.mono ?_;rintro e w5 ⟨rfl,rfl⟩;generalize(wr.setCell ⟨R,5,none⟩ (.int .i64 0)).alloc _=we at*;have B2:=b2.below (show rb<R by omega) hbE;have B3:=b3.below (show rb+1<R by omega) hbE;have B4:=b4.below (show rb+1+1<R by omega) hbE;obtain⟨v1,v2,v3,v4,c0,c1,c2,c3,c4,hv⟩:=hSe.prog (w':=we) fun _ _=>rfl;obtain⟨_,hv1,hv2,hv3,hv4⟩:=hv;obtain⟨p1,k1,rfl⟩:=hv1.slice;obtain⟨p2,k2,rfl⟩:=hv2.slice;obtain⟨p3,k3,rfl⟩:=hv3.slice;obtain⟨p4,k4,rfl⟩:=hv4.slice;rw[show gH.cs.length=0 from rfl]at c1;rw[show gH.gs.length=0 from rfl]at c2;rw[show gH.xs.length=0 from rfl]at c3;rw[show gH.fs.length=1 from rfl]at c4;obtain⟨t0,t1,t2,t3,t4⟩:=B2.c5;have t5:=B3.c 0 _ rfl;have t6:=B4.c 0 _ rfl;obtain⟨g0,g1,g2,g3,g4⟩:=B2.f5;have g5:=B3.f 0 (by decide);have g6:=B4.f 0 (by decide);go_wp2_with fail;have Pn:∀b,R<=b->(((((((we.setCell ⟨rb,0,none⟩ (.bool false)).setCell ⟨rb,1,none⟩ (.slice p1 0 k1)).setCell ⟨rb,2,none⟩ (.slice p2 0 k2)).setCell ⟨rb,3,none⟩ (.slice p3 0 k3)).setCell ⟨rb,4,none⟩ (.slice p4 1 k4)).setCell ⟨rb+1,0,none⟩ (.int .i64 0)).setCell ⟨rb+1+1,0,none⟩ (.int .i64 0)).heap[b]? =we.heap[b]? :=fun b hb=>
   (Below.heap_setCell _ _ _ _ (show b≠rb+1+1 by omega)).trans ((Below.heap_setCell _ _ _ _ (show b≠rb+1 by omega)).trans (Bu (p:=rb) (show b≠rb by omega) [.bool false,.slice p1 0 k1,.slice p2 0 k2,.slice p3 0 k3,.slice p4 1 k4] 0 we))
  have hZ2:Ae (((((((we.setCell ⟨rb,0,none⟩ (.bool false)).setCell ⟨rb,1,none⟩ (.slice p1 0 k1)).setCell ⟨rb,2,none⟩ (.slice p2 0 k2)).setCell ⟨rb,3,none⟩ (.slice p3 0 k3)).setCell ⟨rb,4,none⟩ (.slice p4 1 k4)).setCell ⟨rb+1,0,none⟩ (.int .i64 0)).setCell ⟨rb+1+1,0,none⟩ (.int .i64 0)) rb [.bool false,.slice p1 0 k1,.slice p2 0 k2,.slice p3 0 k3,.slice p4 1 k4]:=
   (Ae.far (CK [.bool false,.slice p1 0 k1,.slice p2 0 k2,.slice p3 0 k3,.slice p4 1 k4] _ 0 we B2 rfl) (q:=⟨rb+1,0,none⟩) (show rb+1≠rb by omega) _).far (q:=⟨rb+1+1,0,none⟩) (show rb+1+1≠rb by omega) _
  have B3':Ae (BZ we rb 0 [.bool false,.slice p1 0 k1,.slice p2 0 k2,.slice p3 0 k3,.slice p4 1 k4]) (rb+1) [.int .i64 0]:=B3.same (Bu (by omega) _ _ _);have B4':Ae (BZ we rb 0 [.bool false,.slice p1 0 k1,.slice p2 0 k2,.slice p3 0 k3,.slice p4 1 k4]) (rb+1+1) [.int .i64 0]:=B4.same (Bu (by omega) _ _ _);have hZ3:Ae (((((((we.setCell ⟨rb,0,none⟩ (.bool false)).setCell ⟨rb,1,none⟩ (.slice p1 0 k1)).setCell ⟨rb,2,none⟩ (.slice p2 0 k2)).setCell ⟨rb,3,none⟩ (.slice p3 0 k3)).setCell ⟨rb,4,none⟩ (.slice p4 1 k4)).setCell ⟨rb+1,0,none⟩ (.int .i64 0)).setCell ⟨rb+1+1,0,none⟩ (.int .i64 0)) (rb+1) [.int .i64 0]:=(B3'.set (i:=0) (by simp) _).far (q:=⟨rb+1+1,0,none⟩) (show rb+1+1≠rb+1 by omega) _;have hZ4:Ae (((((((we.setCell ⟨rb,0,none⟩ (.bool false)).setCell ⟨rb,1,none⟩ (.slice p1 0 k1)).setCell ⟨rb,2,none⟩ (.slice p2 0 k2)).setCell ⟨rb,3,none⟩ (.slice p3 0 k3)).setCell ⟨rb,4,none⟩ (.slice p4 1 k4)).setCell ⟨rb+1,0,none⟩ (.int .i64 0)).setCell ⟨rb+1+1,0,none⟩ (.int .i64 0)) (rb+1+1) [.int .i64 0]:=(B4'.far (q:=⟨rb+1,0,none⟩) (show rb+1≠rb+1+1 by omega) _).set (i:=0) (by simp) _;have Nf:=(((hbb.trans (hbE.mono (by omega))).trans (Ay (Nat.le_refl rb) [.bool false,.slice p1 0 k1,.slice p2 0 k2,.slice p3 0 k3,.slice p4 1 k4] 0 we)).setCell (p:=⟨rb+1,0,none⟩) (show rb<=rb+1 by omega) (.int .i64 0)).setCell (p:=⟨rb+1+1,0,none⟩) (show rb<=rb+1+1 by omega) (.int .i64 0);obtain⟨u1,u2,u3,u4,d0,d1,d2,d3,d4,hu⟩:=hSe.prog Pn;obtain rfl:u1=.slice p1 0 k1:=by rw[c1]at d1;exact(Option.some.inj d1).symm
  obtain rfl:u2=.slice p2 0 k2:=by rw[c2]at d2;exact(Option.some.inj d2).symm
  obtain rfl:u3=.slice p3 0 k3:=by rw[c3]at d3;exact(Option.some.inj d3).symm
  obtain rfl:u4=.slice p4 1 k4:=by rw[c4]at d4;exact(Option.some.inj d4).symm
  replace Nf:Below rb w (((((((we.setCell ⟨rb,0,none⟩ (.bool false)).setCell ⟨rb,1,none⟩ (.slice p1 0 k1)).setCell ⟨rb,2,none⟩ (.slice p2 0 k2)).setCell ⟨rb,3,none⟩ (.slice p3 0 k3)).setCell ⟨rb,4,none⟩ (.slice p4 1 k4)).setCell ⟨rb+1,0,none⟩ (.int .i64 0)).setCell ⟨rb+1+1,0,none⟩ (.int .i64 0)):=Nf;generalize((((((we.setCell ⟨rb,0,none⟩ (.bool false)).setCell ⟨rb,1,none⟩ (.slice p1 0 k1)).setCell ⟨rb,2,none⟩ (.slice p2 0 k2)).setCell ⟨rb,3,none⟩ (.slice p3 0 k3)).setCell ⟨rb,4,none⟩ (.slice p4 1 k4)).setCell ⟨rb+1,0,none⟩ (.int .i64 0)).setCell ⟨rb+1+1,0,none⟩ (.int .i64 0)=wf at*;refine leaves_cons (f:=37) (args:=#[.pointer (some ⟨R+1,0,none⟩),.pointer (some ⟨rb,0,none⟩),.pointer (some ⟨rb+1,0,none⟩),.pointer (some ⟨rb+1+1,0,none⟩)]) (by simp) (by simp[go_sem]) ?_;refine(eP _ _ _ _ _).mono ?_;rintro e u' w'' ⟨rfl,rfl,rfl⟩;obtain⟨t0,t1,t2,t3,t4⟩:=hZ2.c5;have t5:=hZ3.c 0 _ rfl;have t6:=hZ4.c 0 _ rfl;exact⟨_,(SK rfl _ _ _).trans (by go_simp;try rfl),⟨_,_,_,_,rfl,hu⟩,ABD hrb Nf⟩
 ·have hlt:q<5:=by omega
  have A8:(q:Int)<5:=by omega
  have AGi:(0:Int)<=q:=by omega
  obtain⟨e0,u,e1,hrw⟩:=pR q hlt;have z0:=AA (Wm▸hb) e0;have z1:=AA (Wm▸hb) e1;obtain⟨pu,ku,rfl⟩:=hrw.slice;have hq1:((q+1:Nat):Int)=(q:Int)+1:=by omega
  rw[hq1]at z0;have hal:=AJ wr (.cells #[.int .i64 ((q:Int)+1),.slice pu (JQ q).length ku] 109);have hxl:=Ae.alloc wr [.int .i64 ((q:Int)+1),.slice pu (JQ q).length ku] 109;have hSa:=hS.kp hal;have hxa:=hx.nx hal;have yS:=hS.lt;have ADg:=ht.nx hal;have AEG:=hb.trans (hal.mono (Nat.le_of_lt yS));go_upto_region 9 with fail;obtain⟨lb,hlb⟩:∃lb,wr.heap.size=lb:=⟨_,rfl⟩;rw[hlb]at hxl yS⊢;generalize(wr.alloc (.cells #[.int .i64 ((q:Int)+1),.slice pu (JQ q).length ku] 109))=wa at*;have CS:=hSa.iW ((q:Int)+1);have c5:=hSa.c5;have f5:=hSa.Bw 5;have pa:=hxa.c 0 _ rfl;have l0:=hxl.c 0 _ rfl;have iq:=hxl.far (q:=⟨R,5,none⟩) (show R≠lb by omega) (.int .i64 ((q:Int)+1));have l1:=iq.c 1 _ rfl;have hxb:=hxa.far (q:=⟨R,5,none⟩) (show R≠R+1 by omega) (.int .i64 ((q:Int)+1));have pb:=hxb.c 0 _ rfl;have u7:DC (wa.setCell ⟨R,5,none⟩ (.int .i64 ((q:Int)+1))) (R+1) 102:=by
   obtain⟨cur,e⟩:=ADg;exact⟨cur,(Below.heap_setCell _ _ _ _ (show R+1≠R by omega)).trans e⟩
  have hbl:=AEG.setCell (p:=⟨R,5,none⟩) (Nat.le_refl R) (.int .i64 ((q:Int)+1));have AEH:AA6 Wb (wa.setCell ⟨R,5,none⟩ (.int .i64 ((q:Int)+1))):=ABD Wm hbl;have hL:=dw (Nat.le_of_eq Wm) q hlt ((q:Int)+1) AEH CS hrw;go_wp2_with fail;refine hL.mono ?_;rintro e w5 ⟨⟨rfl,N',hS5⟩,hK⟩;have hx5:=hxb.same (hK.k _ u7);have ht5:DC w5 (R+1) 102:=by
   obtain⟨cur,e⟩:=u7;exact⟨cur,(hK.k _ ⟨cur,e⟩).trans e⟩
  have xA:AwR Wb R (q+1) w5:=⟨⟨_,_,_,hS5⟩,hx5,ht5,hbl.trans hK.b⟩;go_wp2_with fail;go_roundw;exact⟨q+1,by omega,by go_num,xA⟩;simp[intOf];omega
end
end Go.Proofs.YtlffomedflegdaaGreatDoor
