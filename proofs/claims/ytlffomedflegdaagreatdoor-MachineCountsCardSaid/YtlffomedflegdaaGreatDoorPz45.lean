/- Part 45 of 49 of the proof: Lin, LinA. -/
import Derived.Test.YtlffomedflegdaaGreatDoorPz00
import Derived.Test.YtlffomedflegdaaGreatDoorPz04
import Derived.Test.YtlffomedflegdaaGreatDoorPz05
import Derived.Test.YtlffomedflegdaaGreatDoorPz44
set_option linter.all false
set_option maxHeartbeats 16000000
set_option maxRecDepth 100000
namespace Go.Proofs.YtlffomedflegdaaGreatDoor
open Go.Proofs.Tryz
open Go.RowKit
section
namespace OB
theorem AAU:(prog.info? 9).map (fun i=>(i.zero,i.size,i.bytes))=some (some (.string .empty),1,16):=by kernel_rfl
theorem AAV:(prog.info? 109).map (fun i=>(i.zero,i.size,i.bytes))=some (some (.agg #[.int .i64 0,.slice none 0 0]),2,32):=by kernel_rfl
def iT(ss:Nat->ByteArray)(i:Nat)(_:Nat):Value:=.string (ss i)
def Reads(ws:List By)(ss:Nat->ByteArray):Prop:=∀j x,ws[j]? =some x->(ss j).data.toList=x
def BF(w:World)(B:Nat)(v:Value)(ws:List By):Prop:=∃ss,EM w B 9 1 v ws.length (iT ss)/\Reads ws ss
theorem Reads.push{ws:List By}{ss:Nat->ByteArray}(h:Reads ws ss){s:ByteArray}{x:By}(hx:s.data.toList=x):Reads (ws++[x]) (fun j=>if j=ws.length then s else ss j):=by grind [Reads]
section
variable {w w' : World} {B : Nat} {v v' : Value} {ws : List By}
theorem BF.nil:BF w B (.slice none 0 0) []:=⟨fun _=> .empty,EM.nil,fun j x h=>by cases h⟩
theorem BF.slice(h:BF w B v ws):∃pu cu,v=.slice pu ws.length cu:=by
 obtain⟨_,h,_⟩:=h;exact h.slice
theorem BF.next{C:Nat}(h:BF w B v ws)(hb:Below C w w')(hC:w.heap.size<=C):BF w' B v ws:=by
 obtain⟨ss,h,hr⟩:=h;exact⟨ss,h.next hb hC,hr⟩
theorem BF.kept{row:Option Nat}(h:BF w B v ws)(hg:w.grownBy w' row)(hne:v.ownBlock=none\/v.ownBlock≠row):BF w' B v ws:=by
 obtain⟨ss,h,hr⟩:=h;exact⟨ss,h.kept hg hne,hr⟩
theorem BF.mono{B':Nat}(h:BF w B v ws)(hB:B'<=B):BF w B' v ws:=by
 obtain⟨ss,⟨h1,h2⟩,hr⟩:=h;refine⟨ss,⟨h1,?_⟩,hr⟩;rcases h2 with h2|⟨g',cap,cur,y1,y2,y3⟩
 ·exact .inl h2
 ·exact .inr ⟨g',cap,cur,y1,by omega,y3⟩
theorem bM(w:World)(s:ByteArray):∀j u,([Value.string s])[j]? =some u->(w.alloc (Obj.cells #[.string s] 9)).cell? ((⟨w.heap.size,0,none⟩:Addr).add j)=some u:=by
 intro j u hu;rw[Dk,Nat.zero_add,World.cell?_alloc_mark];simpa using hu
theorem Ve(s:ByteArray):∀u∈ [Value.string s],u.oneCell'=true:=by
 intro u hu;simp only[List.mem_cons,List.not_mem_nil,or_false]at hu;subst hu;rfl
theorem BF.row(h:BF w B v ws):∃xs,w.ownsRow B 9 1 v ws.length xs/\∀(w2:World) (v':Value) (s:ByteArray) (x:By),s.data.toList=x->w2.ownsRow B 9 1 v' (ws.length+1) (xs++[.string s])->BF w2 B v' (ws++[x]):=by
 obtain⟨ss,h,hr⟩:=h;refine⟨_,h,fun w2 v' s x hx hown=>⟨_,?_,hr.push hx⟩⟩;have e:(ws++[x]).length=ws.length+1:=by simp
 grind [BF,iT,EM.push]
end
end OB
end
namespace OB
theorem FU(c:UInt8)(w:World):Calls prog 100 #[.int .u8 (c.toNat:Int)] w fun e w'=>e=.returned (.bool (Tf c))/\w=w':=by
 have e1:Tf c=(((c.toNat:Int)==32)||((c.toNat:Int)==9)):=by
  unfold Tf;congr 1
  ·rw[Bool.eq_iff_iff];simp only[beq_iff_eq];exact⟨fun h=>by subst h;rfl,fun h=>UInt8.toNat_inj.1 (by show c.toNat=32;omega)⟩
  ·rw[Bool.eq_iff_iff];simp only[beq_iff_eq];exact⟨fun h=>by subst h;rfl,fun h=>UInt8.toNat_inj.1 (by show c.toNat=9;omega)⟩
 rw[e1];generalize(c.toNat:Int)=n;cases h1:(n==32)<;>cases h2:(n==9);all_goals
  go_enter func100,ntmps100;go_wp2;go_ret;exact⟨rfl,rfl⟩
theorem bf(p:By):∃a,p=a++(Et p).2.1:=by
 have key:∀(p:By) (x:List By×By×Bool),∃a,x.2.1++p=a++(p.foldl LM x).2.1:=by
  intro p
  induction p with
  |nil=>intro x;exact⟨[],by simp⟩
  |cons c r ih=>
   intro x;rw[List.foldl_cons];obtain⟨a,ha⟩:=ih (LM x c);by_cases hb:Tf c=true
   ·have e:LM x c=(fl x.1 x.2.1,[],x.2.2):=(by simp[LM,hb]);rw[e]at ha⊢;exact⟨x.2.1++[c]++a,by simp at ha⊢;exact ha⟩
   ·have e:LM x c=(x.1,x.2.1++[c],x.2.2||isBad c):=(by simp[LM,hb]);rw[e]at ha⊢;exact⟨a,by simpa using ha⟩
 obtain⟨a,ha⟩:=key p ([],[],false);exact⟨a,by simpa[Et]using ha⟩
theorem PS:∀(p:By) (x:List By×By×Bool),x.2.2=true->(p.foldl LM x).2.2=true
 | [],_,h=>h
 |c::r,x,h=>by
  rw[List.foldl_cons];refine PS r _ ?_;unfold LM;split
  ·exact h
  ·simp[h]
theorem gD{a b:By}(h:(Et a).2.2=true):CZ (a++b)=none:=by
 unfold CZ Et;rw[List.foldl_append];exact if_pos (PS b (a.foldl LM ([],[],false)) h)
def one(w:By):Nat:=if w=[]then 0 else 1
theorem aP(l:List By)(w:By):(fl l w).length=l.length+one w:=by grind [fl,one]
theorem Rc(p:By):(Et p).1.length+one (Et p).2.1<=p.length:=by
 have key:∀(p:By) (x:List By×By×Bool),(p.foldl LM x).1.length+one (p.foldl LM x).2.1<=x.1.length+one x.2.1+p.length:=by
  intro p
  induction p with
  |nil=>intro x;simp
  |cons c r ih=>
   intro x;rw[List.foldl_cons];refine AX (ih (LM x c)) ?_;by_cases hb:Tf c=true
   ·have e:LM x c=(fl x.1 x.2.1,[],x.2.2):=(by simp[LM,hb]);rw[e];dsimp only;rw[aP];have:one []=0:=rfl;simp only[List.length_cons];omega
   ·have e:LM x c=(x.1,x.2.1++[c],x.2.2||isBad c):=(by simp[LM,hb]);rw[e];have:one (x.2.1++[c])=1:=(by simp[one]);dsimp only;rw[this];simp only[List.length_cons];omega
 grind [Et,one,LM,Tf,fl,isBad,aP]
theorem XP(s:ByteArray)(k:Nat)(h:k<s.size):s.data.toList.take (k+1)=s.data.toList.take k++[s[k]]:=by
 rw[List.take_succ_eq_append_getElem (by simpa using h)];rfl
def nP(q:Nat)(w:By):Int:=if w=[]then-1 else(q:Int)-w.length
structure WSt(w wr:World)(s:ByteArray)(q:Nat)(v:Value)(f:Int):Prop where
 bad:(Et (s.data.toList.take q)).2.2=false
 b:AA6 w wr
 o:q<=s.size->BF wr w.heap.size v (Et (s.data.toList.take q)).1/\f=nP q (Et (s.data.toList.take q)).2.1
 z:q=s.size+1->BF wr w.heap.size v (fl (Et s.data.toList).1 (Et s.data.toList).2.1)
def Kl(w:World)(s:ByteArray)(e:Ending)(w':World):Prop:=
 AA6 w w'/\((CZ s.data.toList=none/\e=.returned (.tuple #[.slice none 0 0,.bool false]))\/∃ws v,CZ s.data.toList=some ws/\e=.returned (.tuple #[v,.bool true])/\BF w' w.heap.size v ws)
theorem QT(s:ByteArray)(a q:Nat)(x y:By)(h:s.data.toList.take q=x++y)(ha:x.length=a):(s.extract a q).data.toList=y:=by
 have:(s.extract a q).data.toList=(s.data.toList.take q).drop a:=by
  simp[ByteArray.data_extract,List.extract_eq_take_drop,List.drop_take]
 grind
theorem OP(s:ByteArray)(hs:s.size<=4194304)(w:World):Calls prog 60 #[.string s] w (Kl w s):=by
 obtain⟨i0,hi,hz0,hz1,hz2⟩:=info_parts AAU;go_enter func60,ntmps60;go_wp2;go_loopw[4,5,6] (fun v f i wr=>∃q:Nat,q<=s.size+1/\i=.int .i64 (q:Int)/\∃fi:Int,f=.int .i64 fi/\WSt w wr s q v fi) (fun _ _ i _=>s.size+1-(intOf i).toNat);exact⟨0,AY,rfl,-1,rfl,⟨rfl,AL,fun _=>⟨BF.nil,rfl⟩,fun h=>by omega⟩⟩;obtain⟨q,hq,rfl,fi,rfl,hW⟩:=hrel;have hB:=hW.b;by_cases hend:q=s.size+1
 ·have hz:=hW.z hend;obtain⟨pu,cu,rfl⟩:=hz.slice;have hbad:=hW.bad;have e:s.data.toList.take q=s.data.toList:=List.take_of_length_le (by simp;omega);rw[e]at hbad;have hP:Kl w s (.returned (.tuple #[.slice pu (fl (Et s.data.toList).1 (Et s.data.toList).2.1).length cu,.bool true])) wr:=
   ⟨hB,.inr ⟨_,_,by unfold CZ;rw[if_neg (by rw[hbad];simp)],rfl,hz⟩⟩
  have hlt:(s.size:Int)<q:=by omega
  go_wp2;go_ret2;exact hP
 ·obtain⟨hrow,rfl⟩:=hW.o (by omega);have hbad:=hW.bad;have qN:=bf (s.data.toList.take q);have hlen:=Rc (s.data.toList.take q);have hl2:=List.length_take_le q s.data.toList;have hl3:(s.data.toList.take q).length=q:=by
   rw[List.length_take];have:s.data.toList.length=s.size:=(by simp);omega
  rcases hrun:Et (s.data.toList.take q)with⟨lw,ww,bb⟩;rw[hrun]at hrow hbad qN hlen;dsimp only at hrow hbad qN hlen;subst hbad;obtain⟨x,hx⟩:=qN;have hxl:x.length+ww.length=q:=by
   have:=congrArg List.length hx;rw[hl3,List.length_append]at this;omega
  have Sy:lw.length<=4194304:=by omega
  obtain⟨pu,cu,rfl⟩:=hrow.slice;obtain⟨xs,hown,hput⟩:=hrow.row;have hsz:=hB.size;have HF:∀w2 v',ww≠ []->w2.ownsRow w.heap.size 9 1 v' (lw.length+1) (xs++[.string (s.extract x.length q)])->BF w2 w.heap.size v' (fl lw ww):=fun w2 v' hw ho=>by
   rw[lT _ hw];exact hput w2 v' _ _ (QT s x.length q x _ hx rfl) ho
  have HG:∀w2,(wr.alloc (Obj.cells #[.string (s.extract x.length q)] 9)).grownBy w2 (Value.slice pu lw.length cu).ownBlock->AA6 w w2:=fun w2 hg=>
   (hB.alloc hsz _).grown hg (by simp;omega) fun g e=>(hown.lt g e).1
  have hnews:=bM wr (s.extract x.length q);have hfr:(ww=[]/\nP q ww= -1)\/(ww≠ []/\nP q ww=(x.length:Int)):=by
   unfold nP;by_cases hw:ww=[]
   ·exact .inl ⟨hw,if_pos hw⟩
   ·exact .inr ⟨hw,by rw[if_neg hw];omega⟩
  have hxq:x.length<=q:=by omega
  have AJH:(4194305:Nat)<=maxLen:=by unfold maxLen;omega
  by_cases hqs:q=s.size
  ·have e:s.data.toList.take q=s.data.toList:=List.take_of_length_le (by simp;omega);have hall:Et s.data.toList=(lw,ww,false):=(by rw[<-e];exact hrun);have hfin:∀v2 w2 f,BF w2 w.heap.size v2 (fl lw ww)->AA6 w w2->WSt w w2 s (q+1) v2 f:=fun v2 w2 f h1 h2=>
    ⟨by rw[List.take_of_length_le (by simp;omega),hall],h2,fun h=>by omega,fun _=>by rw[hall];exact h1⟩
   subst hqs;rcases hfr with⟨hw,hf⟩|⟨hw,hf⟩
   ·rw[hf];have h2:=hfin _ wr (-1) (by rw[hw,aO];exact hrow) hB;go_wp2;go_roundw;exact⟨s.size+1,by omega,by go_num,-1,rfl,h2⟩;simp[intOf]
   ·rw[hf];go_wp2_with(at_builtin;refine wpList_append_own _ rfl _ _ 78 rfl w.heap.size 9 i0 _ 1 16 underlying78 hi hz0 hz1 hz2 rfl (by decide) _ _ _ rfl (hown.alloc _) ⟨wr.heap.size,0,none⟩ 1 1 [.string (s.extract x.length s.size)] rfl rfl hnews (Ve _) ?d1 ?d2 ?d3 ?_)
    case d1=>omega
    case d2=>omega
    case d3=>simp;omega
    intro v2 w2 hown2 hg2 _;have h2:=hfin v2 w2 (-1) (HF _ _ hw hown2) (HG _ hg2);obtain⟨pu2,cu2,rfl⟩:=Bf hown2;go_wp2;go_roundw;exact⟨s.size+1,by omega,by go_num,-1,rfl,h2⟩;simp[intOf]
  ·have hlt:q<s.size:=(by omega);have hc:=XP s q hlt;generalize hcc:s[q]=c at hc;have hcell:s[q]=c:=hcc;have hnx:Et (s.data.toList.take (q+1))=LM (lw,ww,false) c:=(by rw[hc,Xg,hrun]);cases hbl:Tf c
   ·have hnx2:Et (s.data.toList.take (q+1))=(lw,ww++[c],isBad c):=(by rw[hnx];simp[LM,hbl]);cases hbd:isBad c
    ·rw[hbd]at hnx2;have h32:¬(c.toNat:Int)<=32:=(by simp[isBad]at hbd;omega);have AEj:¬(126:Int)<c.toNat:=(by simp[isBad]at hbd;omega);have hfin:∀f,f=nP (q+1) (ww++[c])->WSt w wr s (q+1) (.slice pu lw.length cu) f:=fun f h=>
      ⟨by rw[hnx2],hB,fun _=>by rw[hnx2];exact⟨hrow,h⟩,fun h=>by omega⟩
     have hfr2:nP (q+1) (ww++[c])=(x.length:Int):=by
      unfold nP;rw[if_neg (by simp),List.length_append,List.length_singleton];omega
     rw[hfr2]at hfin;rcases hfr with⟨hw,hf⟩|⟨hw,hf⟩
     ·rw[hf];have iq:(q:Int)=x.length:=(by rw[hw]at hxl;simp at hxl;omega);have h2:=hfin (q:Int) iq;clear iq hxl;(go_wp2_with(go_at_call 100;refine(FU c _).mono ?_;rintro e w2 ⟨rfl,rfl⟩;try rw[hbl]));go_roundw;exact⟨q+1,by omega,by go_num,(q:Int),rfl,h2⟩;simp[intOf];omega
     ·rw[hf];have h2:=hfin _ rfl;have hx0:¬(x.length:Int)<0:=(by omega);generalize(x.length:Int)=fx at h2 hx0⊢;(go_wp2_with(go_at_call 100;refine(FU c _).mono ?_;rintro e w2 ⟨rfl,rfl⟩;try rw[hbl]));go_roundw;exact⟨q+1,by omega,by go_num,_,rfl,h2⟩;simp[intOf];omega
    ·have hno:CZ s.data.toList=none:=by
      have:=gD (b:=s.data.toList.drop (q+1)) (by rw[hnx2];exact hbd:(Et (s.data.toList.take (q+1))).2.2=true);rwa[List.take_append_drop]at this
     have hP:Kl w s (.returned (.tuple #[.slice none 0 0,.bool false])) wr:=⟨hB,.inl ⟨hno,rfl⟩⟩;have K3:(c.toNat:Int)<=32\/¬(c.toNat:Int)<=32/\(126:Int)<c.toNat:=(by simp[isBad]at hbd;omega);generalize nP q ww=fw;rcases K3 with h32|⟨h32,AEj⟩
     ·(go_wp2_with(go_at_call 100;refine(FU c _).mono ?_;rintro e w2 ⟨rfl,rfl⟩;try rw[hbl]));go_ret2;exact hP
     ·(go_wp2_with(go_at_call 100;refine(FU c _).mono ?_;rintro e w2 ⟨rfl,rfl⟩;try rw[hbl]));go_ret2;exact hP
   ·have hnx2:Et (s.data.toList.take (q+1))=(fl lw ww,[],false):=(by rw[hnx];simp[LM,hbl]);have hfin:∀v2 w2,BF w2 w.heap.size v2 (fl lw ww)->AA6 w w2->WSt w w2 s (q+1) v2 (-1):=fun v2 w2 h1 h2=>
     ⟨by rw[hnx2],h2,fun _=>by rw[hnx2];exact⟨h1,rfl⟩,fun h=>by omega⟩
    rcases hfr with⟨hw,hf⟩|⟨hw,hf⟩
    ·rw[hf];have h2:=hfin _ wr (by rw[hw,aO];exact hrow) hB;(go_wp2_with(go_at_call 100;refine(FU c _).mono ?_;rintro e w2 ⟨rfl,rfl⟩;try rw[hbl]));go_roundw;exact⟨q+1,by omega,by go_num,-1,rfl,h2⟩;simp[intOf];omega
    ·rw[hf];go_wp2_with(first|(go_at_call 100;refine(FU c _).mono ?_;rintro e w2 ⟨rfl,rfl⟩;try rw[hbl])|(at_builtin;refine wpList_append_own _ rfl _ _ 78 rfl w.heap.size 9 i0 _ 1 16 underlying78 hi hz0 hz1 hz2 rfl (by decide) _ _ _ rfl (hown.alloc _) ⟨wr.heap.size,0,none⟩ 1 1 [.string (s.extract x.length q)] rfl rfl hnews (Ve _) ?d1 ?d2 ?d3 ?_))
     case d1=>omega
     case d2=>omega
     case d3=>simp;omega
     intro v2 w2 hown2 hg2 _;have h2:=hfin v2 w2 (HF _ _ hw hown2) (HG _ hg2);obtain⟨pu2,cu2,rfl⟩:=Bf hown2;go_wp2;go_roundw;exact⟨q+1,by omega,by go_num,-1,rfl,h2⟩;simp[intOf];omega
end OB
end Go.Proofs.YtlffomedflegdaaGreatDoor
