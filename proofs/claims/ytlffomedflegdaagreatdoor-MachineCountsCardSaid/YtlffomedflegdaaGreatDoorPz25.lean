/- Part 25 of 49 of the proof: Od, Ria. -/
import Derived.Test.YtlffomedflegdaaGreatDoorPz00
import Derived.Test.YtlffomedflegdaaGreatDoorPz05
import Derived.Test.YtlffomedflegdaaGreatDoorPz24
set_option linter.all false
set_option maxHeartbeats 16000000
set_option maxRecDepth 100000
namespace Go.Proofs.YtlffomedflegdaaGreatDoor
open Go.Proofs.Tryz
open Go.RowKit
section
section
variable {w : World} {B n : Nat} {v : Value}
theorem Tt{ops:Array Oper}{rest:List Oper}{o:Oper}{a:Act}{Q:Exit->Act->World->Prop}(hgd:o.guard=none)(s x:Operand)(ho:o.op=.call {callee:=.builtin .append,args:=#[s,x],argTypes:=#[78,78]}) (hs:a.eval s=v) (hv:Ce w B v n) {u:Value} {l:List ByteArray} (hx:a.eval x=u) (hl:Row DL 1 w u l)(hn:n+lens l<=100000000) (hB:B<=w.heap.size) (h:∀v' w',Ce w' B v' (n+lens l)->Kp 9 B w w'->wpList prog ops Q rest (a.put o.dst v') w'):wpList prog ops Q (o::rest) a w:=by
 obtain⟨i0,hi,hz0,hz1,hz2⟩:=Cq (P:=prog) (t:=9) (z:=.string .empty) (s:=1) (b:=16) (by kernel_rfl);obtain⟨p,c,rfl,h0,-,hl⟩:=hl;obtain⟨m,h1,h2⟩:=id hv
 cases p with
 |none=>
  obtain⟨e1,rfl⟩:=h0 rfl;obtain rfl:l=[]:=List.length_eq_zero_iff.1 e1
  exact wpList_append_own_none hgd s x 78 ho B 9 i0 1 underlying78 hi v _ _ hs h1 hx (h _ _ hv .refl)
 |some ad=>
  have l1:=Iu m;have l2:=Iu l;refine wpList_plain hgd fun _ hK=>?_;refine wp_append_own' s x 78 ho B 9 i0 _ 1 16 underlying78 hi hz0 hz1 hz2 rfl (by decide) v _ _ hs h1 ad _ _ (l.map Value.string) hx (by simp) (fun j u hu=>?_) (fun u hu=>by obtain⟨s,_,rfl⟩:=List.mem_map.1 hu;rfl) (by unfold maxLen;omega) (by omega) hB fun v' w' k1 k2 _=>hK _ _ (h v' w' ⟨m++l,by rw[List.length_append,List.map_append];exact k1,by rw[Ru];omega⟩ (.grown h1 k2 hB));rw[List.getElem?_map]at hu
  cases hj:l[j]? with
  |none=>rw[hj]at hu;cases hu
  |some y=>
   rw[hj]at hu;obtain rfl:Value.string y=u:=(by simpa using hu);obtain⟨b,e,hb,-⟩:=hl j y hj;obtain rfl:ad=b:=(by simpa using e);rw[Nat.mul_one]at hb;exact hb
end
structure Ni(w:World)(p:Nat)(cs:List Value)(T:TypeId):Prop where
 b:Ae w p cs
 t:TG w p T
section
variable {w w1 : World} {p : Nat} {cs : List Value} {T e : TypeId} {B : Nat}
theorem Ni.new(w:World)(cs:List Value)(T:TypeId):Ni (w.alloc (.cells cs.toArray T)) w.heap.size cs T:=⟨Ae.alloc w cs T,TG.new w _ T⟩
theorem TG.lt'(h:TG w p T):p<w.heap.size:=by grind [TG]
theorem Ni.nx(h:Ni w p cs T)(hb:AA6 w w1):Ni w1 p cs T:=⟨h.b.same (hb.block p h.t.lt'),h.t.al hb⟩
theorem Ni.al(h:Ni w p cs T)(o:Obj):Ni (w.alloc o) p cs T:=h.nx (AJ _ o)
theorem Ni.kp(h:Ni w p cs T)(hk:Kp e B w w1)(hne:T≠e):Ni w1 p cs T:=⟨h.b.same (hk.typ h.t hne),h.t.kp hk hne⟩
end
structure zD(w:World)(v:Value)(x:Tm)(u:Value):Prop where
 e:v=.agg #[.int .i64 x.k,.int .i64 x.a.k,.string x.a.s,.int .i64 x.a.n,u,.int .i64 x.n]
 z:Sz x.a.s
 r:Bo x.a.n/\Bo x.n
 t:Row DL 1 w u x.to
theorem Aw(t:ByteArray):lens [t]=t.size+1:=by simp[lens,Aj]
theorem kW(l:List ByteArray):lens l=Aj F6 l:=by
 induction l with
 |nil=>rfl
 |cons x r ih=>
  unfold lens at ih⊢;simp only[Aj,ih,F6];omega
theorem YG{w0 w:World}(h0:AA6 w0 w){B n:Nat}{v u vt:Value}{x:Tm}(hv:BU w B v n)(hx:zD w0 vt x u)(hB:B<=w.heap.size)(hB0:w0.heap.size<=B)(hn:n+80+x.a.s.size+Aj F6 x.to<=100000000):Calls prog 175 #[v,vt] w fun e w'=>∃v',e=.returned v'/\BU w' B v' (n+80+x.a.s.size+Aj F6 x.to)/\Kp 5 B w w':=by
 obtain⟨rfl,hz,⟨hr1,hr2⟩,ht⟩:=hx;obtain⟨p0,m0,c0,rfl⟩:=hv.sl;have htr:=ht;obtain⟨pt,ct,rfl,-⟩:=ht;rw[<-kW]at hn⊢;obtain⟨k,ag,tl,nn⟩:=x;dsimp only at*;have hT:=Ni.new w [.int .i64 k,.int .i64 ag.k,.string ag.s,.int .i64 ag.n,.slice pt tl.length ct,.int .i64 nn] 80;have hb1:=AJ w (.cells #[.int .i64 k,.int .i64 ag.k,.string ag.s,.int .i64 ag.n,.slice pt tl.length ct,.int .i64 nn] 80);have hb2:=hb1.alloc hb1.size (.cells #[.string ⟨#[]⟩,.string ⟨#[106,117,109,112]⟩,.string ⟨#[98,114,97,110,99,104]⟩,.string ⟨#[114,101,116]⟩,.string ⟨#[116,114,97,112]⟩] 9);have vM:=hT.al (.cells #[.string ⟨#[]⟩,.string ⟨#[106,117,109,112]⟩,.string ⟨#[98,114,97,110,99,104]⟩,.string ⟨#[114,101,116]⟩,.string ⟨#[116,114,97,112]⟩] 9);by_cases hk0:¬(1<=k/\k<=4)
 ·have c1:=vM.b.c 0 _ rfl;by_cases hk1:k<1
  ·go_enter func175,ntmps175;go_wp2;go_ret;exact⟨_,rfl,(hv.nx hb2).up (by omega),Kp.of hb2 hB⟩
  ·have hk4:4<k:=(by omega);go_enter func175,ntmps175;go_wp2;go_ret;exact⟨_,rfl,(hv.nx hb2).up (by omega),Kp.of hb2 hB⟩
 obtain⟨q,rfl⟩:=Int.eq_ofNat_of_zero_le (show 0<=k by omega);have hq1:1<=q:=by omega
 have hq4:q<=4:=by omega
 have hq5:(q:Int)<5:=by omega
 have AJN:¬(4:Int)<q:=by omega
 have hq11:¬(q:Int)<1:=by omega
 have AJM:¬4<q:=by omega
 have hP:=fun w=>MZ hz hr1 w;have hQ:=fun w=>KL hr2 w;obtain⟨wd,hwd,hcw⟩:∃wd:ByteArray,wd.size<=6/\((w.alloc (.cells #[.int .i64 (q:Int),.int .i64 ag.k,.string ag.s,.int .i64 ag.n,.slice pt tl.length ct,.int .i64 nn] 80)).alloc (.cells #[.string ⟨#[]⟩,.string ⟨#[106,117,109,112]⟩,.string ⟨#[98,114,97,110,99,104]⟩,.string ⟨#[114,101,116]⟩,.string ⟨#[116,114,97,112]⟩] 9)).cell? ⟨w.heap.size+1,q,none⟩=some (.string wd):=by
  have ZC:=Ae.alloc (w.alloc (.cells #[.int .i64 (q:Int),.int .i64 ag.k,.string ag.s,.int .i64 ag.n,.slice pt tl.length ct,.int .i64 nn] 80)) [.string ⟨#[]⟩,.string ⟨#[106,117,109,112]⟩,.string ⟨#[98,114,97,110,99,104]⟩,.string ⟨#[114,101,116]⟩,.string ⟨#[116,114,97,112]⟩] 9;have hs1:(w.alloc (.cells #[.int .i64 (q:Int),.int .i64 ag.k,.string ag.s,.int .i64 ag.n,.slice pt tl.length ct,.int .i64 nn] 80)).heap.size=w.heap.size+1:=by simp
  rw[hs1]at ZC;have:q=1\/q=2\/q=3\/q=4:=by omega
  rcases this with rfl|rfl|rfl|rfl
  ·exact⟨_,by decide,ZC.c 1 _ rfl⟩
  ·exact⟨_,by decide,ZC.c 2 _ rfl⟩
  ·exact⟨_,by decide,ZC.c 3 _ rfl⟩
  ·exact⟨_,by decide,ZC.c 4 _ rfl⟩
 have hb3:=hb2.alloc hb2.size (.cells #[.string wd] 9);have hT3:=vM.al (.cells #[.string wd] 9);have hS:=Ce.new (B:=w.heap.size) _ hb2.size [wd] (show 1<=maxLen by decide);simp only[List.map_cons,List.map_nil,List.length_cons,List.length_nil,Nat.zero_add]at hS;have t0:=vM.b.c 0 _ rfl;go_enter func175,ntmps175;go_upto_region 5 with fail;generalize hW:(World.alloc (World.alloc (World.alloc _ _) _) _)=W at*;have hz3:((w.alloc (.cells #[.int .i64 (q:Int),.int .i64 ag.k,.string ag.s,.int .i64 ag.n,.slice pt tl.length ct,.int .i64 nn] 80)).alloc (.cells #[.string ⟨#[]⟩,.string ⟨#[106,117,109,112]⟩,.string ⟨#[98,114,97,110,99,104]⟩,.string ⟨#[114,101,116]⟩,.string ⟨#[116,114,97,112]⟩] 9)).heap.size=w.heap.size+1+1:=by simp
 rw[hz3]at hS;have hBW:B<=W.heap.size:=AX hB hb3.size;have htW:=htr.s (AB h0 hb3);have uy:=hv.nx hb3;have Cr:w.heap.size<=W.heap.size:=hb3.size;obtain⟨t0,t1,t2,t3,t4,t5⟩:=hT3.b.c6;have tail:∀W1,Kp 9 w.heap.size W W1->Ae W1 w.heap.size [.int .i64 (q:Int),.int .i64 ag.k,.string ag.s,.int .i64 ag.n,.slice pt tl.length ct,.int .i64 nn]/\BU W1 B (.slice p0 m0 c0) n/\Row DL 1 W1 (.slice pt tl.length ct) tl/\w.heap.size<=W1.heap.size/\AA6 w W1:=fun W1 h1=>by
  obtain⟨bs,h2,h3⟩:=uy;have hb:=hb3.trans h1.b;exact⟨(hT3.kp h1 (by decide)).b,⟨bs,h2,h1.row h3 (by decide)⟩,htr.s (AB h0 hb),hb.size,hb⟩
 have hq:q=1\/(q=2\/q=3)\/q=4:=by omega
 rcases hq with rfl|h23|rfl
 ·go_wp2_with(at_builtin;refine Tt rfl _ _ rfl rfl hS rfl htW (by rw[Aw];omega) Cr ?_;intro v' w3 hv3 hk3;obtain⟨p3,m3,c3,rfl⟩:=hv3.sl;obtain⟨hB3,hv4,-,hw3,hb4⟩:=tail _ hk3;have t0:=hB3.c 0 _ rfl)
  obtain⟨lw,Sy,hll⟩:=hv3.ws;rw[Aw]at hll;refine(Cx hv4 Sy (AX hB hw3) (by omega)).mono ?_;rintro e w4 ⟨v4,rfl,hv4,hk4⟩;obtain⟨p5,m5,c5,rfl⟩:=hv4.sl;go_wp2;go_ret;exact⟨_,rfl,hv4.up (by omega),(Kp.of hb4 hB).trans hk4⟩
 ·have hp:=hP W;rcases h23 with rfl|rfl;all_goals
   go_wp2_with fail;refine hp.mono ?_;rintro e W1 ⟨⟨t,rfl,ht⟩,hb4⟩;have hS1:=(hS.nx hb4).nx (AJ W1 (.cells #[.string t] 9));have hk1:=Kp.of (e:=9) (AB hb4 (AJ W1 (.cells #[.string t] 9))) Cr
   go_wp2_with first
    |(at_builtin;refine Fh rfl _ _ rfl rfl hS1 [t] _ rfl (Ae.alloc _ _ _) (by rw[Aw,Aw];omega) (by simp;have:=hb4.size;omega) ?_;intro v' w2 hv2 hk2;obtain⟨p2,m2,c2,rfl⟩:=hv2.sl;obtain⟨hB2,-,ADf,hw2,-⟩:=tail _ (hk1.trans hk2);obtain⟨t0,-,-,-,t4,t5⟩:=hB2.c6)
    |(at_builtin;refine Tt rfl _ _ rfl rfl hv2 rfl ADf (by rw[Aw,Aw];omega) hw2 ?_;intro v' w3 hv3 hk3;obtain⟨p3,m3,c3,rfl⟩:=hv3.sl;obtain⟨hB3,hv4,-,hw3,hb5⟩:=tail _ ((hk1.trans hk2).trans hk3);have t0:=hB3.c 0 _ rfl)
   obtain⟨lw,Sy,hll⟩:=hv3.ws;rw[Aw,Aw]at hll;refine(Cx hv4 Sy (AX hB hw3) (by omega)).mono ?_;rintro e w4 ⟨v4,rfl,hv4,hk4⟩;obtain⟨p5,m5,c5,rfl⟩:=hv4.sl;go_wp2;go_ret;exact⟨_,rfl,hv4.up (by omega),(Kp.of hb5 hB).trans hk4⟩
 ·go_wp2_with(at_builtin;refine Tt rfl _ _ rfl rfl hS rfl htW (by rw[Aw];omega) Cr ?_;intro v' w3 hv3 hk3;obtain⟨p3,m3,c3,rfl⟩:=hv3.sl;obtain⟨hB3,hv4,-,hw3,hb4⟩:=tail _ hk3;obtain⟨t0,-,-,-,-,t5⟩:=hB3.c6)
  refine(hQ _).mono ?_;rintro e W1 ⟨⟨t,rfl,ht⟩,hb5⟩;have hS1:=(hv3.nx hb5).nx (AJ W1 (.cells #[.string t] 9));have hk1:=hk3.trans (Kp.of (e:=9) (AB hb5 (AJ W1 (.cells #[.string t] 9))) hw3);go_wp2_with(at_builtin;refine Fh rfl _ _ rfl rfl hS1 [t] _ rfl (Ae.alloc _ _ _) (by rw[Aw,Aw];omega) (by simp;have:=hb5.size;omega) ?_;intro v' w2 hv2 hk2;obtain⟨p2,m2,c2,rfl⟩:=hv2.sl;obtain⟨-,hv6,-,iF,hb6⟩:=tail _ (hk1.trans hk2))
  obtain⟨lw,Sy,hll⟩:=hv2.ws;rw[Aw,Aw]at hll;refine(Cx hv6 Sy (AX hB iF) (by omega)).mono ?_;rintro e w4 ⟨v4,rfl,hv4,hk4⟩;obtain⟨p5,m5,c5,rfl⟩:=hv4.sl;go_wp2;go_ret;exact⟨_,rfl,hv4.up (by omega),(Kp.of hb6 hB).trans hk4⟩
end
def Words(w:World):Prop:=∀r,r<35->∃s:ByteArray,w.cell? ⟨2,r,none⟩=some (.string s)/\s.size<=10
theorem Words.kp{w w':World}(h:Words w)(hb:AA6 w w'):Words w':=by grind [Words,AA]
def aA(r:Option Fm)(e:Ending):Prop:=match r with
 |some f=>∃s:ByteArray,s.size<=10/\e=.returned (.tuple #[.agg #[.string s,.bool f.d,.bool f.n,.int .i64 f.l,.int .i64 f.m],.bool true])
 |none=>e=.returned (.tuple #[.agg #[.string ⟨#[]⟩,.bool false,.bool false,.int .i64 0,.int .i64 0],.bool false])
theorem JZ{op:Int}(h:op<1\/34<op):BH op=none:=by
 unfold BH;iterate 12 rw[if_neg (by omega)]
theorem JV(op:Int)(w:World)(hW:Words w):Calls prog 179 #[.int .i64 op] w fun e w'=>AA6 w w'/\aA (BH op) e:=by
 by_cases h1:op<1
 ·rw[JZ (.inl h1)];have h1b:decide (op<1)=true:=decide_eq_true h1;go_enter func179,ntmps179;go_wp2;(refine rB rfl (by go_simp;try rfl) rfl ?_);refine⟨?_,rfl⟩;(repeat(first|with_reducible assumption|exact AJ _ _|exact AL|refine Below.drew ?_|refine Below.setCell ?_ (by first|exact AQ|(dsimp only;omega)) _|refine Below.alloc ?_ (by first|exact AQ|(simp;omega)|simp) _))
 by_cases h2:34<op
 ·rw[JZ (.inr h2)];have h1b:decide (op<1)=false:=decide_eq_false h1;have h2b:decide (34<op)=true:=decide_eq_true h2;go_enter func179,ntmps179;go_wp2;(refine rB rfl (by go_simp;try rfl) rfl ?_);refine⟨?_,rfl⟩;(repeat(first|with_reducible assumption|exact AJ _ _|exact AL|refine Below.drew ?_|refine Below.setCell ?_ (by first|exact AQ|(dsimp only;omega)) _|refine Below.alloc ?_ (by first|exact AQ|(simp;omega)|simp) _))
 obtain⟨s,hs,hz⟩:=hW op.toNat (by omega);have hs2:=fun o=>AA (AJ w o) hs;have hop:op=1\/op=2\/op=3\/op=4\/op=5\/op=6\/op=7\/op=8\/op=9\/op=10\/op=11\/op=12\/op=13\/op=14\/op=15\/op=16\/op=17\/op=18\/op=19\/op=20\/op=21\/op=22\/op=23\/op=24\/op=25\/op=26\/op=27\/op=28\/op=29\/op=30\/op=31\/op=32\/op=33\/op=34:=by omega
 clear hW h1 h2;rcases hop with rfl|rfl|rfl|rfl|rfl|rfl|rfl|rfl|rfl|rfl|rfl|rfl|rfl|rfl|rfl|rfl|rfl|rfl|rfl|rfl|rfl|rfl|rfl|rfl|rfl|rfl|rfl|rfl|rfl|rfl|rfl|rfl|rfl|rfl;all_goals
  simp only[Int.reduceToNat]at hs2;go_enter func179,ntmps179;go_wp2;(refine rB rfl (by go_simp;try rfl) rfl ?_);refine⟨?_,s,hz,rfl⟩;(repeat(first|with_reducible assumption|exact AJ _ _|exact AL|refine Below.drew ?_|refine Below.setCell ?_ (by first|exact AQ|(dsimp only;omega)) _|refine Below.alloc ?_ (by first|exact AQ|(simp;omega)|simp) _))
theorem R6{wa w9 w:World}(ha:AA6 wa w)(h9:AA6 w9 w){l:List ByteArray}{t:Value}(hl:Row DL 1 wa t l){vs:List Vr}{u:Value}(hv:Row IU 2 w9 u vs):Calls prog 183 #[t,u] w fun e w'=>e=.returned (.bool (FZ l vs))/\AA6 w w':=by
 obtain⟨p1,k1,rfl,-,n1,hl⟩:=hl;obtain⟨p2,k2,rfl,-,n2,hv⟩:=hv;generalize hf:FZ l vs=r0;replace hf:=hidden hf;go_enter func183,ntmps183;go_wp2;go_loopw[5] (fun i wr=>∃q:Nat,q<=l.length/\q<=vs.length/\i=.int .i64 (q:Int)/\Hid (FZ (l.drop q) (vs.drop q)=r0)/\AA6 w wr) (fun i _=>l.length-(intOf i).toNat);exact⟨0,AY,AY,rfl,hf,AL⟩;obtain⟨q,hq,hq2,rfl,hf,hb⟩:=hrel;replace hf:=hf.out;by_cases hend:q=l.length
 ·subst hend;rw[List.drop_length]at hf;by_cases Wp:l.length=vs.length
  ·rw[show vs.drop l.length=[] by rw[Wp,List.drop_length]]at hf;replace hf:true=r0:=hf;subst hf;have yF:((l.length:Int)==(vs.length:Int))=true:=(by simp[Wp]);rw[<-Wp]at yF;rw[<-Wp];go_wp2;go_ret;exact⟨rfl,hb⟩
  ·have hd:FZ [] (vs.drop l.length)=false:=by
    rw[J3];simp;omega
   rw[hd]at hf;subst hf;have yF:((l.length:Int)==(vs.length:Int))=false:=by
    rw[beq_eq_false_iff_ne];omega
   have AJk:¬l.length=vs.length:=Wp;go_wp2;go_ret;exact⟨rfl,hb⟩
 ·have hlt:q<l.length:=by omega
  have A8:(q:Int)<l.length:=by omega
  obtain⟨a,rfl,c0,-⟩:=hl q l[q] (by simp[hlt]);rw[Nat.mul_one]at c0;replace c0:=AA (AB ha hb) c0;have hdr:=(Below.refl wr.heap.size wr).drew;by_cases Wp:q=vs.length
  ·have hd:FZ (l.drop q) (vs.drop q)=false:=by
    rw[J3];simp;omega
   rw[hd]at hf;subst hf;have h3:¬(q:Int)<vs.length:=(by omega);have h3b:decide ((vs.length:Int)<=(q:Int))=true:=decide_eq_true (by omega);have h3c:(vs.length:Int)<=q:=(by omega);have h3d:vs.length<=q:=(by omega);go_wp2_with fail;refine AO (S:=fun _ v=>AA6 wr v) rfl (by kernel_rfl) hdr ?_;(iterate 17(first|(apply Ab.z rfl;intro L w1 _ _ _ z hK;go_simp;exact hK (z.s);rfl)|(refine Ab.skip rfl (fun L w1 hS hi=>(hS)) ?_;(try simp only[pE]))));refine Ab.nil fun w4 Bb=>?_;have hb5:=AB hb Bb;go_wp2;go_ret;exact⟨rfl,hb5⟩
  ·have hlt2:q<vs.length:=(by omega);have AGj:(q:Int)<vs.length:=(by omega);have h3b:decide ((vs.length:Int)<=(q:Int))=false:=decide_eq_false (by omega);have h3c:¬(vs.length:Int)<=q:=(by omega);have h3d:¬vs.length<=q:=(by omega);rw[List.drop_eq_getElem_cons hlt,List.drop_eq_getElem_cons hlt2,FZ]at hf;obtain⟨b,rfl,-,d1,-⟩:=hv q vs[q] (by simp[hlt2]);replace d1:=AA (AB h9 hb) d1;generalize l[q]=s at*;generalize vs[q]=y at*;have hF:=fun v=>Gt s y.t v;generalize Du s y.t=kk at*;replace hf:=hidden hf;go_wp2_with fail;refine AO (S:=fun _ v=>AA6 wr v) rfl (by kernel_rfl) hdr ?_;(iterate 17(first|(apply Ab.z rfl;intro L w1 _ _ _ z hK;(replace c0:=AA z.s c0;replace d1:=AA z.s d1);go_simp;exact hK (z.s);rfl)|(apply Ab.y rfl;intro L w1 _ _ z hK;go_simp;go_wp2_with((refine(hF _).mono ?_;rintro e w2 ⟨rfl,rfl⟩));(try simp only[pE]);exact hK.out _ (z.s);rfl)));refine Ab.nil fun w4 Bb=>?_;have hb5:=AB hb Bb;replace hf:=hf.out;cases kk
   ·replace hf:false=r0:=hf;subst hf;go_wp2;go_ret;exact⟨rfl,hb5⟩
   ·rw[Bool.true_and]at hf;replace hf:=hidden hf;go_wp2;go_roundw;exact⟨q+1,by omega,by omega,by go_num,hf,hb5⟩;simp[intOf];omega
end Go.Proofs.YtlffomedflegdaaGreatDoor
