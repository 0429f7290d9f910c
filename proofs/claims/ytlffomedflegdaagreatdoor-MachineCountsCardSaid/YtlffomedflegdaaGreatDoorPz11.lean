/- Part 11 of 49 of the proof: Ma, Mb, Push, Mc, HeapB. -/
import Derived.Test.YtlffomedflegdaaGreatDoorPz00
import Derived.Test.YtlffomedflegdaaGreatDoorPz02
import Derived.Test.YtlffomedflegdaaGreatDoorPz05
import Derived.Test.YtlffomedflegdaaGreatDoorPz10
set_option linter.all false
set_option maxHeartbeats 16000000
set_option maxRecDepth 100000
namespace Go.Proofs.YtlffomedflegdaaGreatDoor
open Go.Proofs.Tryz
open Go.RowKit
variable {B FB M N b cap g n o:Nat}{P:Program}{a:Act}{e:TypeId}{j:Int}{k:Hd}{l:List Dt}{m:Vm}{v:Value}{w:World}{x:Lv}
theorem He(hc:w.cell? ⟨M,9,none⟩=some (.slice (some ⟨FB,0,none⟩) (n+1) cap))(hl:n+1<=140737488351232):Calls prog 51 #[.pointer (some ⟨M,0,none⟩)] w fun e w'=>e=.returned (.pointer (some ⟨FB,n*4,none⟩))/\∃q,w'=w.drewN q:=by
 have h1:((n+1:Nat):Int)-1=(n:Int):=by omega
 have h2:(n:Int)<((n+1:Nat):Int):=by omega
 go_enter func51,ntmps51;go_wp2;go_quiet (fail);go_wp2;go_ret;exact⟨rfl,_,rfl⟩
theorem Al(q:Nat):AA6 w (w.drewN q):=below_drewN (AL) q
theorem rU(u:World):(zeroValue 34).run prog u=.ok (Kn (Bv,0)) u:=by simp_all
theorem Li(t:ByteArray)(l:List UInt8):t.toList=l↔t=⟨l.toArray⟩:=by
 rw[ByteArray.toList_eq];constructor
 ·intro e;rw[<-e]
 ·intro e;rw[e]
theorem I7(t:ByteArray):(F9 t,(0:Int))=Ap t:=by grind [F9,Ap,Li]
theorem SX:F9 Bv=E9:=by simp[F9,Bv,E9,Ap]
theorem XG(hm:CQ w b m)(a:Ag)(hk:a.k=1\/a.k=2\/a.k=3\/a.k=4):Calls prog 132 #[.map (some b),.agg #[.int .i64 a.k,.string a.s,.int .i64 a.n]] w fun e w'=>e=.returned (Kn (Ar m a))/\AA6 w w':=by
 have t1:=underlying69;have t2:=underlying9
 have hm2:∀o o2,CQ ((w.alloc o).alloc o2) b m:=fun o o2=>hm.other (by
  have h1:=hm.lt
  rw[Below.heap_alloc _ _ _ (by simp;omega),Below.heap_alloc _ _ _ h1])
 have hg:∀o o2,(Instr.lookup 69 (.map (some b)) (.string a.s) false).run prog ((w.alloc o).alloc o2)=.ok (Kn (getM m a.s)) ((w.alloc o).alloc o2):=fun o o2=>bY t1 t2 rU (hm2 o o2) a.s;have hn:=fun w=>Ju Bv w;generalize hv:Ar m a=v;obtain⟨k,s,n⟩:=a;dsimp only at*;unfold Ar at hv;dsimp only at hv;go_enter func132,ntmps132;rcases hk with rfl|rfl|rfl|rfl
 ·rw[if_pos rfl]at hv;subst hv;go_wp2;(refine rO rfl (by go_simp;try rfl) rfl ⟨rfl,?_⟩);(repeat(first|with_reducible assumption|exact AJ _ _|exact AL|refine Below.drew ?_|refine Below.setCell ?_ (by first|exact AQ|(dsimp only;omega)) _|refine Below.alloc ?_ (by first|exact AQ|(simp;omega)|simp) _))
 ·rw[if_neg (by decide),if_pos rfl]at hv;subst hv;go_wp2;(refine rO rfl (by go_simp;try rfl) rfl ⟨rfl,?_⟩);(repeat(first|with_reducible assumption|exact AJ _ _|exact AL|refine Below.drew ?_|refine Below.setCell ?_ (by first|exact AQ|(dsimp only;omega)) _|refine Below.alloc ?_ (by first|exact AQ|(simp;omega)|simp) _))
 ·rw[if_neg (by decide),if_neg (by decide),if_pos rfl]at hv;subst hv;go_wp2;(refine rO rfl (by go_simp;try rfl) rfl ⟨rfl,?_⟩);(repeat(first|with_reducible assumption|exact AJ _ _|exact AL|refine Below.drew ?_|refine Below.setCell ?_ (by first|exact AQ|(dsimp only;omega)) _|refine Below.alloc ?_ (by first|exact AQ|(simp;omega)|simp) _))
 ·iterate 3 rw[if_neg (by decide)]at hv
  subst hv;go_wp2_with fail;refine(hn _).mono ?_;rintro e w2 ⟨rfl,hb⟩;obtain⟨b1,b2,hb3⟩:=Ch (c1:=[.int .i64 4,.string s,.int .i64 n]) (c2:=[.string ⟨#[]⟩,.int .i64 0]) hb;obtain⟨r0,r1⟩:=b2.c2;obtain⟨f0,f1⟩:=b2.f2;rw[SX];go_wp2;(refine rO rfl (by go_simp;try rfl) rfl ⟨rfl,?_⟩);exact(hb3.setCell (p:=⟨w.heap.size+1,0,none⟩) (Aa) _).setCell (p:=⟨w.heap.size+1,1,none⟩) (Aa) _
abbrev agV(a:Ag):Value:=.agg #[.int .i64 a.k,.string a.s,.int .i64 a.n]
theorem DX.q(h:DX w M FB n cap b x)(q:Nat):DX (w.drewN q) M FB n cap b x:=h.kp (Al q)
theorem Cm(hT:DX w M FB n cap b x)(a:Ag)(hk:a.k=1\/a.k=2\/a.k=3\/a.k=4):Calls prog 76 #[.pointer (some ⟨M,0,none⟩),agV a] w fun e w'=>e=.returned (Kn (Ar x.vars a))/\AA6 w w':=by
 obtain⟨hB,hV,hb2⟩:=Ch (w:=w) (c1:=[.int .i64 a.k,.string a.s,.int .i64 a.n]) (c2:=[.string ⟨#[]⟩,.int .i64 0]) (t1:=77) (t2:=34) (AL);have hval:=fun(v:World) (h:CQ v b x.vars)=>XG h a hk;generalize Ar x.vars a=u at*;go_enter func76,ntmps76;go_wp2;obtain⟨W,hW⟩:∃W:World,W=(w.alloc (.cells #[.int .i64 a.k,.string a.s,.int .i64 a.n] 77)).alloc (.cells #[.string ⟨#[]⟩,.int .i64 0] 34):=⟨_,rfl⟩;change AA6 w ((w.alloc (.cells #[.int .i64 a.k,.string a.s,.int .i64 a.n] 77)).alloc (.cells #[.string ⟨#[]⟩,.int .i64 0] 34))at hb2;rw[<-hW]at hb2;rw[<-hW];replace hB:Ae W w.heap.size [.int .i64 a.k,.string a.s,.int .i64 a.n]:=hW▸hB;replace hV:Ae W (w.heap.size+1) [.string ⟨#[]⟩,.int .i64 0]:=hW▸hV;replace hT:=hT.kp hb2;have hw1:w.heap.size<=w.heap.size+1:=Aa;have hlt:=hV.lt;refine AO (S:=Ah 7 (fun v=>AA6 W v) (fun v=>AA6 w v/\Ae v (w.heap.size+1) [.string u.1,.int .i64 u.2])) rfl (by kernel_rfl) (Ah.start Ac) ?_;iterate 7((first|(apply Ab.z rfl;intro L w1 _ _ _ z hK;go_simp;exact hK (z.s.pass rfl);rfl)|(apply Ab.z rfl;intro L w1 _ _ _ z hK;(have hI:=(z.s.1 (z.o 7 (by kernel_rfl)));(have hT:=hT.kp hI;have c9:=hT.sl;have c3:=hT.v;have hB:=hB.nx hI;have b0:=hB.c 0 _ rfl;have b1:=hB.c 1 _ rfl;have b2:=hB.c 2 _ rfl));go_simp;exact hK (z.s.pass rfl);rfl)|(apply Ab.y rfl;intro L w1 _ _ z hK;go_simp;go_wp2_with((have hI:=(z.s.1 (z.o 7 (by kernel_rfl)));(have hT:=hT.kp hI;have c9:=hT.sl;have c3:=hT.v;have hB:=hB.nx hI;have b0:=hB.c 0 _ rfl;have b1:=hB.c 1 _ rfl;have b2:=hB.c 2 _ rfl);(first|(go_at_call 51;refine(He hT.sl hT.l).mono ?_;rintro e w2 ⟨rfl,q,rfl⟩;have hb:=Al (w:=w1) q)|(go_at_call 132;refine(hval _ hT.m).mono ?_;rintro e w2 ⟨rfl,hb⟩))));(try simp only[pE]);exact hK.out _ (Ah.keep (z.o 7 (by kernel_rfl)) (AB ((z.s.1 (z.o 7 (by kernel_rfl)))) hb) rfl);rfl)|(refine Ab.skip rfl (fun L w1 hS hi=>(hS.pass rfl)) ?_;(try simp only[pE]))))
 (refine Ab.step (a1:=?_) rfl (fun L w1 K' Q' hS hi hR hd hK=>?_) ?_ ?_;rotate_left)
 ·have hI:=hS.1 hi;have hV:=hV.nx hI;obtain⟨r0,r1⟩:=hV.c2;obtain⟨f0,f1⟩:=hV.f2;go_simp;exact hK.out _ (Ah.done ⟨((hb2.trans (hI.mono hb2.size)).setCell (p:=⟨w.heap.size+1,0,none⟩) hw1 _).setCell (p:=⟨w.heap.size+1,1,none⟩) hw1 _,(hV.set (i:=0) (by simp) (.string u.1)).set (i:=1) (by simp) (.int .i64 u.2)⟩)
 ·rfl
 refine Ab.nil fun w4 Bb=>?_;obtain⟨hb4,hV4⟩:=Bb.2 rfl;obtain⟨r0,r1⟩:=hV4.c2;go_wp2;(refine rO rfl (by go_simp;try rfl) rfl ⟨rfl,?_⟩);exact hb4
section
section
variable {w w1 : World} {B N M : Nat} {k : Hd} {s : St} {j : Int} {rest : List Lv} {x : Lv} {FB cap b : Nat}
theorem Am.upd(h:Am w B N M k s j)(hfr:s.frames=rest++[x])(hT:DX w M FB rest.length cap b x):B<=FB/\FB<N/\B<=b/\b<N/\(∀n:Nat,Am (w.setCell ⟨FB,rest.length*4+2,none⟩ (.int .i64 n)) B N M k {s with frames:=rest++[{x with i:=n}]} j)/\(∀y:ByteArray,Am (w.setCell ⟨FB,rest.length*4+1,none⟩ (.string y)) B N M k {s with frames:=rest++[{x with b:=y}]} j)/\(∀w' m',CQ w' b m'->(∀q,q≠b->w'.heap[q]? =w.heap[q]?)->w.heap.size<=w'.heap.size->Am w' B N M k {s with frames:=rest++[{x with vars:=m'}]} j):=by
 obtain⟨TY,cap',b',hT',a1,a2,a3,a3',a4,a5,a6⟩:=h.top hfr hT.l;grind [cases Am,cases DX]
theorem Am.zI(h:Am w B N M k s j)(hfr:s.frames=rest++[x])(hT:DX w M FB rest.length cap b x){s':St}{x':Lv}(h':Am w1 B N M k s' j)(jC:s'.frames=rest++[x'])(hM:w1.heap[M]? =w.heap[M]?)(hF:w1.heap[FB]? =w.heap[FB]?):DX w1 M FB rest.length cap b x':=by
 obtain⟨TY,cap',b',hT',_⟩:=h'.top jC hT.l;grind [BM,cases Am,cases DX,cases St,cases Lv]
theorem Am.neM(h:Am w B N M k s j)(hm:CQ w b m):M≠b:=by grind [CQ,cases Am]
theorem DX.neF(hT:DX w M FB n cap b x):FB≠b:=fun e=>by
 obtain⟨es,clock,e2,_⟩:=hT.m;have h:=hT.f;subst e;unfold World.cell? at h;dsimp only at h;rw[e2]at h;simp at h
end
abbrev oU(B N M:Nat)(k:Hd)(s:St)(j:Int)(w:World)(e:Ending)(w':World):Prop:=e=.returned (.tuple #[])/\Am w' B N M k s j/\Below B w w'
theorem Co{s:St}{rest:List Lv}(h:Am w B N M k s j)(hfr:s.frames=rest++[x])(hl:rest.length+1<=140737488351232)(hx:x.i<=1000000)(op:Int)(d n:ByteArray)(p1 p2 p3:Option Addr)(l1 l2 l3 c1 c2 c3:Nat)(v:Vu):Calls prog 74 #[.pointer (some ⟨M,0,none⟩),.agg #[.int .i64 op,.string d,.string n,.slice p1 l1 c1,.slice p2 l2 c2,.slice p3 l3 c3],Kn v] w (oU B N M k (BP s rest x d v) j w):=by
 obtain⟨hB,hV,hb2⟩:=Ch (w:=w) (c1:=[.int .i64 op,.string d,.string n,.slice p1 l1 c1,.slice p2 l2 c2,.slice p3 l3 c3]) (c2:=[.string v.1,.int .i64 v.2]) (t1:=133) (t2:=34) (AL);have hBw:B<=w.heap.size:=by have:=h.own.ge;have:=h.own.lt;have:=h.own.sz;omega
 have Df:N<=w.heap.size:=h.own.sz;have t1:=underlying69;have t2:=underlying9;go_enter func74,ntmps74;generalize Cr:(w.alloc (.cells #[.int .i64 op,.string d,.string n,.slice p1 l1 c1,.slice p2 l2 c2,.slice p3 l3 c3] 133)).alloc (.cells #[.string v.1,.int .i64 v.2] 34)=W at*;replace h:=h.kp (hb2.mono Df);obtain⟨FB,cap,b,hT,_⟩:=h.top hfr hl;go_wp2_with fail;refine(He hT.sl hT.l).mono ?_;rintro e w1 ⟨rfl,q,rfl⟩;replace hb2:=below_drewN hb2 q;replace hB:=hB.nx (Al q);replace hV:=hV.nx (Al q);have TQ:N<=W.heap.size:=AX Df hb2.size;replace h:=h.kp ((Al q).mono TQ);replace hT:=hT.q q;generalize W.drewN q=W at*;have b1:=hB.c 1 _ rfl;by_cases hd:d=Bv
 ·have hdb:(d.toList==([]:List UInt8))=true:=FE (l:=[]) hd;obtain⟨u1,u2,u3,_,u4,_⟩:=h.upd hfr hT;have ci:=hT.i;have z:=hT.z;have hm:=u4 (x.i+1);have hb3:=Below.setCell (p:=⟨FB,rest.length*4+2,none⟩) (hb2.mono hBw) u1 (.int .i64 ((x.i+1:Nat):Int));have e1:((x.i+1:Nat):Int)=(x.i:Int)+1:=by omega
  rw[e1]at hm hb3;have hs:BP s rest x d v={s with frames:=rest++[{x with i:=x.i+1}]}:=by unfold BP;rw[if_pos hd]
  rw[<-hs]at hm;go_wp2;go_end0;exact⟨rfl,hm,hb3⟩
 ·have hdb:(d.toList==([]:List UInt8))=false:=D9 (l:=[]) hd;go_wp2;have hlt:=hB.lt;have hF:=hT.neF;have hM:=h.neM hT.m;refine AO (S:=Ah 7 (fun v'=>AA6 W v') (fun v'=>∃v0 o2,AA6 W v0/\v'=Dx v0 b o2/\CQ v' b (Ei x.vars d v))) rfl (by kernel_rfl) (Ah.start Ac) ?_;iterate 7((first|(apply Ab.z rfl;intro L w1 _ _ _ z hK;go_simp;exact hK (z.s.pass rfl);rfl)|(apply Ab.z rfl;intro L w1 _ _ _ z hK;(have hI:=(z.s.1 (z.o 7 (by kernel_rfl)));(have hT:=hT.kp hI;have c3:=hT.v;have hB:=hB.nx hI;have hV:=hV.nx hI;have b1:=hB.c 1 _ rfl;obtain⟨y0,y1⟩:=hV.c2));go_simp;exact hK (z.s.pass rfl);rfl)|(apply Ab.y rfl;intro L w1 _ _ z hK;go_simp;go_wp2_with((have hI:=(z.s.1 (z.o 7 (by kernel_rfl)));(have hT:=hT.kp hI;have c3:=hT.v;have hB:=hB.nx hI;have hV:=hV.nx hI;have b1:=hB.c 1 _ rfl;obtain⟨y0,y1⟩:=hV.c2);(fail)));(try simp only[pE]);exact hK.out _ (Ah.keep (z.o 7 (by kernel_rfl)) (AB ((z.s.1 (z.o 7 (by kernel_rfl)))) hb) rfl);rfl)|(refine Ab.skip rfl (fun L w1 hS hi=>(hS.pass rfl)) ?_;(try simp only[pE]))))
  (refine Ab.step (a1:=?_) rfl (fun L w1 K' Q' hS hi hR hd hK=>?_) ?_ ?_;rotate_left)
  ·have hI:=hS.1 hi;obtain⟨o2,ho,hm2⟩:=Mi t1 t2 (hT.kp hI).m d v;go_simp;exact hK.out _ (Ah.done ⟨_,o2,hI,rfl,hm2⟩)
  ·rfl
  refine Ab.nil fun w4 Bb=>?_;obtain⟨v0,o2,hI,rfl,hm2⟩:=Bb.2 rfl;have h0:=h.kp (hI.mono (AX Df hb2.size));have hT0:=hT.kp hI;obtain⟨a1,a2,a3,_,_,_,a6⟩:=h0.upd hfr hT0;have h1:=a6 _ _ hm2 (fun q hq=>I4 _ hq) (by simp[Dx]);have hT1:=h0.zI hfr hT0 h1 rfl (I4 _ hM) (I4 _ hF);obtain⟨_,_,_,_,u4,_⟩:=h1.upd rfl hT1;have ci:=hT1.i;have z:=hT1.z;have hm:=u4 (x.i+1);have hb3:=Below.setCell (p:=⟨FB,rest.length*4+2,none⟩) (((hb2.trans (hI.mono hb2.size)).mono hBw).grown (Hz v0 b o2) (AX hBw (AX hb2.size hI.size)) (fun k hk=>by cases hk;exact a3)) a1 (.int .i64 ((x.i+1:Nat):Int));have e1:((x.i+1:Nat):Int)=(x.i:Int)+1:=by omega
  rw[e1]at hm hb3;have hs:BP s rest x d v={s with frames:=rest++[{x with i:=x.i+1,vars:=Ei x.vars d v}]}:=by unfold BP;rw[if_neg hd]
  rw[<-hs]at hm;clear h hT hB hV u4 hs e1 h0 hT0 h1 hT1;go_wp2;go_end0;exact⟨rfl,hm,hb3⟩
end
section
theorem wp_append_own'{o:Oper}{K:Act->World->Prop}{Q:Exit->Act->World->Prop}(s x:Operand)(t:TypeId)(ho:o.op=.call {callee:=.builtin .append,args:=#[s,x],argTypes:=#[t,t]})(base:Nat) (e:TypeId) (i:TypeInfo) (z:Value) (size bytes:Nat) (ht:P.underlying t=some (.slice e)) (hi:P.info? e=some i) (hz:i.zero=some z)(hsize:i.size=size) (hby:i.bytes=bytes) (hzs:z.cells.size=size) (hsz:0<size)(v:Value) (n:Nat) (xs:List Value) (hs:a.eval s=v) (hown:w.ownsRow base e size v n xs)(ad:Addr) (m c:Nat) (news:List Value) (hx:a.eval x=.slice (some ad) m c) (hl:news.length=m*size) (hnews:∀j u,news[j]? =some u->w.cell? (ad.add j)=some u) (h1:∀u∈news,u.oneCell'=true)(h63:n+m<=maxLen) (hbytes:(n+m)*bytes<=140737488355328) (hbase:base<=w.heap.size)(h:∀v' w',w'.ownsRow base e size v' (n+m) (xs++news)->w.grownBy w' v.ownBlock->(∀k,v'.ownBlock=some k->v.ownBlock=some k\/w.heap.size<=k)->K (a.put o.dst v') w'):o.wp P a w K Q:=by
 obtain⟨v',w',hrun,h2,h3,h4⟩:=run_append_own' (P:=P) base t o.type e i z size bytes ht hi hz hsize hby hzs hsz v n xs hown ad m c news hl hnews h1 h63 hbytes hbase;unfold Oper.wp;simp[execOp,ho,resolve,invoke,builtin,hs,hx,hrun,Result.andThen];exact h v' w' h2 h3 h4
theorem wpList_append_own'{ops:Array Oper}{rest:List Oper}{o:Oper}{Q:Exit->Act->World->Prop}(hgd:o.guard=none)(s x:Operand)(t:TypeId)(ho:o.op=.call {callee:=.builtin .append,args:=#[s,x],argTypes:=#[t,t]})(base:Nat) (e:TypeId) (i:TypeInfo) (z:Value) (size bytes:Nat) (ht:P.underlying t=some (.slice e)) (hi:P.info? e=some i) (hz:i.zero=some z)(hsize:i.size=size) (hby:i.bytes=bytes) (hzs:z.cells.size=size) (hsz:0<size)(v:Value) (n:Nat) (xs:List Value) (hs:a.eval s=v) (hown:w.ownsRow base e size v n xs)(ad:Addr) (m c:Nat) (news:List Value) (hx:a.eval x=.slice (some ad) m c) (hl:news.length=m*size) (hnews:∀j u,news[j]? =some u->w.cell? (ad.add j)=some u) (h1:∀u∈news,u.oneCell'=true)(h63:n+m<=maxLen) (hbytes:(n+m)*bytes<=140737488355328) (hbase:base<=w.heap.size)(h:∀v' w',w'.ownsRow base e size v' (n+m) (xs++news)->w.grownBy w' v.ownBlock->(∀k,v'.ownBlock=some k->v.ownBlock=some k\/w.heap.size<=k)->wpList P ops Q rest (a.put o.dst v') w'):wpList P ops Q (o::rest) a w:=by
 exact wpList_plain hgd fun _ hK=>wp_append_own' s x t ho base e i z size bytes ht hi hz hsize hby hzs hsz v n xs hs hown ad m c news hx hl hnews h1 h63 hbytes hbase fun v' w' h2 h3 h4=>hK _ _ (h v' w' h2 h3 h4)
theorem Cq{t:TypeId}{z:Value}{s:Nat}(h:(P.info? t).map (fun i=>(i.zero,i.size,i.bytes))=some (some z,s,b)):∃i,P.info? t=some i/\i.zero=some z/\i.size=s/\i.bytes=b:=by simp_all
section
variable {w : World} {B g o : Nat} {r : List Dt} {f1 f2 : List Nat}
theorem AP.cn:AP w B [] g o []:=by unfold AP;rfl
theorem AP.cc(hc:w.cell? ⟨g,o,none⟩=some v)(h1:v.oneCell'=true)(hr:AP w B r g (o+1) f2):AP w B (.cell v::r) g o f2:=by
 unfold AP;exact⟨[],f2,rfl,by unfold Af;exact⟨hc,rfl,h1⟩,hr⟩
theorem AP.cr{s:Nat}(hc:w.cell? ⟨g,o,none⟩=some v)(hv:AZ w B e s l v f1)(hr:AP w B r g (o+1) f2):AP w B (.row e s l::r) g o (f1++f2):=by
 unfold AP;exact⟨f1,f2,rfl,hv.lies hc,hr⟩
theorem AP.cm(hc:w.cell? ⟨g,o,none⟩=some (.map (some b)))(hb:B<=b)(hm:CQ w b m)(hr:AP w B r g (o+1) f2):AP w B (.mp m::r) g o ([b]++f2):=by
 unfold AP;exact⟨[b],f2,rfl,by unfold Af;exact⟨b,hc,hb,hm,rfl⟩,hr⟩
theorem AP.ca(h:AP w B l g o f1)(hr:AP w B r g (o+Dt.DF l) f2):AP w B (.agg l::r) g o (f1++f2):=by
 unfold AP;exact⟨f1,f2,rfl,by unfold Af;exact h,hr⟩
theorem Af.of(h:AP w B l g o f1):Af w B (.agg l) g o f1:=by
 unfold Af;exact h
end
theorem Aq.OE{g0 o0 s:Nat}{d:Dt}{F:Dt->Dt}(h:Aq w B N d g o (.row e s l) g0 o0 F)(hc:w.cell? ⟨g0,o0,none⟩=some v):v.ownBlock≠some g0:=fun e1=>by
 obtain⟨h1,h2,h2',fp,Fj,h3,h3',h4⟩:=h;obtain⟨v0,hc',hv0⟩:=h4.lies.row;rw[hc]at hc';obtain rfl:v=v0:=by simpa using hc'
 exact(BN.1 h4.nd).1 (hv0.own g0 e1)
def Ad(W:World)(B:Nat)(e:TypeId)(s bs ap st:Nat)(one:List Value)(n:Nat)(xs:List Value)(v:Value)(dst:Addr)(V:Nat->Value)(L:Nat->Bool)(w:World):Prop:=
 (L ap=false->AA6 W w/\(L bs=true->∃pb,V bs=.slice (some ⟨pb,0,none⟩) 1 1/\W.heap.size<=pb/\pb<w.heap.size/\Ae w pb one))/\
 (L ap=true->∃w1 w2 pb,AA6 W w1/\W.heap.size<=pb/\pb<w1.heap.size/\Ae w1 pb one/\w2.ownsRow B e s (V ap) (n+1) (xs++one)/\w1.grownBy w2 v.ownBlock/\(∀k,(V ap).ownBlock=some k->v.ownBlock=some k\/w1.heap.size<=k)/\
  w=if L st=true then w2.setCell dst (V ap)else w2)
section
variable {W w w' : World} {B : Nat} {e : TypeId} {s bs ap st n : Nat} {one xs : List Value} {v : Value} {dst : Addr} {V : Nat -> Value} {L : Nat -> Bool}
theorem Ad.start(h:AA6 W w):Ad W B e s bs ap st one n xs v dst V (fun _=>false) w:=⟨fun _=>⟨h,fun e=>by cases e⟩,fun e=>by cases e⟩
theorem Ad.keep(h:Ad W B e s bs ap st one n xs v dst V L w){i:Nat}(h1:(bs==i)=false)(h2:(ap==i)=false)(h3:(st==i)=false):Ad W B e s bs ap st one n xs v dst V (upd L i) w:=by
 unfold Ad;rw[Dm h1,Dm h2,Dm h3];exact h
theorem Ad.below(h:Ad W B e s bs ap st one n xs v dst V L w)(ha:L ap=false):AA6 W w:=(h.1 ha).1
theorem Ad.made(h:Ad W B e s bs ap st one n xs v dst V L w)(ha:L ap=false)(h1:(ap==bs)=false)(t:TypeId):Ad W B e s bs ap st one n xs v dst (EB V bs (.slice (some ⟨w.heap.size,0,none⟩) 1 1)) (upd L bs) (w.alloc (Obj.cells one.toArray t)):=by
 obtain⟨hb,_⟩:=h.1 ha;refine⟨fun _=>⟨hb.alloc hb.size _,fun _=>⟨w.heap.size,BL _ _ _,hb.size,by simp,Ae.alloc _ _ _⟩⟩,fun e=>?_⟩;rw[Dm h1,ha]at e;cases e
theorem Ad.app(h:Ad W B e s bs ap st one n xs v dst V L w)(ha:L ap=false)(hst:L st=false)(h3:(st==ap)=false){pb:Nat}(hp:W.heap.size<=pb)(hp2:pb<w.heap.size)(hx:Ae w pb one){v':Value}(ho:w'.ownsRow B e s v' (n+1) (xs++one)) (hg:w.grownBy w' v.ownBlock) (hf:∀k,v'.ownBlock=some k->v.ownBlock=some k\/w.heap.size<=k):Ad W B e s bs ap st one n xs v dst (EB V ap v') (upd L ap) w':=by
 refine⟨(fun e=>by rw[Gq]at e;cases e),fun _=>⟨w,w',pb,h.below ha,hp,hp2,hx,?_,hg,?_,?_⟩⟩
 ·rw[BL];exact ho
 ·rw[BL];exact hf
 ·rw[Dm h3,hst];rfl
theorem Ad.go{o:Oper}{K:Act->World->Prop}{Q:Exit->Act->World->Prop}{t:TypeId}{z:Value}{x y:Operand}(h:Ad W B e s bs ap st one n xs v dst V L w) (ha:L ap=false) (hst:L st=false) (hb:L bs=true)(hI:(P.info? e).map (fun i=>(i.zero,i.size,i.bytes))=some (some z,s,b)) (hu:P.underlying t=some (.slice e)) (hw:W.ownsRow B e s v n xs)(h3:(st==ap)=false) (hz:z.cells.size=s) (ho:o.op=.call {callee:=.builtin .append,args:=#[x,y],argTypes:=#[t,t]}) (hs:a.eval x=v) (hy:a.eval y=V bs) (h1:one.length=1*s) (h0:0<s)(hc:∀u∈one,u.oneCell'=true) (hq:n+1<=maxLen/\(n+1)*b<=140737488355328/\B<=W.heap.size)(k:∀v' w',Ad W B e s bs ap st one n xs v dst (EB V ap v') (upd L ap) w'->K (a.put o.dst v') w'):o.wp P a w K Q:=by
 obtain⟨hb2,hbs⟩:=h.1 ha;obtain⟨pb,hp,p1,p2,hx⟩:=hbs hb;obtain⟨i0,j0,j1,j2,j3⟩:=Cq hI;exact wp_append_own' x y t ho B e i0 z s b hu j0 j1 j2 j3 hz h0 v n xs hs (Dh hw hb2 (AQ)) ⟨pb,0,none⟩ 1 1 one (hy.trans hp) h1 (fun j u hj=>by rw[Dk,Nat.zero_add];exact hx.c j u hj) hc hq.1 hq.2.1 (AX hq.2.2 hb2.size) fun v' w' g1 g2 g3=>k v' w' (h.app ha hst h3 p1 p2 hx g1 g2 g3)
theorem Ad.stored(h:Ad W B e s bs ap st one n xs v dst V L w)(ha:L ap=true)(hst:L st=false)(h3:(ap==st)=false):Ad W B e s bs ap st one n xs v dst V (upd L st) (w.setCell dst (V ap)):=by
 obtain⟨w1,w2,pb,a1,a2,a3,a4,a5,a6,a7,a8⟩:=h.2 ha;rw[hst]at a8;replace a8:w=w2:=a8;subst a8;exact⟨(fun e=>by rw[Dm h3,ha]at e;cases e),fun _=>⟨w1,w,pb,a1,a2,a3,a4,a5,a6,a7,by rw[Gq];rfl⟩⟩
theorem Ad.val(h:Ad W B e s bs ap st one n xs v dst V L w)(ha:L ap=true):∃pu ku,V ap=.slice pu (n+1) ku:=by
 obtain⟨w1,w2,pb,a1,a2,a3,a4,a5,a6,a7,a8⟩:=h.2 ha;exact Bf a5
theorem Ad.mid(h:Ad W B e s bs ap st one n xs v dst V L w)(hst:L st=false):∃w1,AA6 W w1/\(w1.grownBy w v.ownBlock\/w=w1):=by
 cases ha:L ap with
 |false=>exact⟨w,h.below ha,.inr rfl⟩
 |true=>
  obtain⟨w1,w2,pb,a1,a2,a3,a4,a5,a6,a7,a8⟩:=h.2 ha;rw[hst]at a8;replace a8:w=w2:=a8;subst a8;exact⟨w1,a1,.inl a6⟩
theorem Ad.keeps(h:Ad W B e s bs ap st one n xs v dst V L w)(hst:L st=false){k:Nat}(hk:k<W.heap.size)(hne:v.ownBlock≠some k):w.heap[k]? =W.heap[k]? :=by
 obtain⟨w1,h1,h2|rfl⟩:=h.mid hst
 ·exact(h2.block k (A9 hk h1.size) (fun e=>hne e.symm)).trans (h1.block k hk)
 ·exact h1.block k hk
variable {W0 : World} {N g o g0 o0 : Nat} {d0 d : Dt} {l : List Dt} {F : Dt -> Dt}
theorem Ad.done(h:Ad W B e s bs ap st one n xs v ⟨g0,o0,none⟩ V L w)(ha:L ap=true)(hst:L st=true)(h0:Aq W0 B N d0 g o (.row e s l) g0 o0 F)(hW:Below N W0 W)(hc:W0.cell? ⟨g0,o0,none⟩=some v)(hx:W.ownsRow B e s v n xs)(hn:n=l.length)(hd:∀w1 pb,AA6 W w1->W.heap.size<=pb->pb<w1.heap.size->Ae w1 pb one->∃fd,Af w1 N d pb 0 fd/\fd.Nodup) (hdw:d.wd=s) (h1:one.length=s):(∃N',Own w B N' (F (.row e s (l++[d]))) g o)/\Below B W w/\(∃p c,V ap=.slice p (n+1) c)/\∃(w2:World) (u:Value),w=w2.setCell ⟨g0,o0,none⟩ u/\w2.heap[g0]? =W.heap[g0]? :=by
 obtain⟨w1,w2,pb,a1,a2,a3,a4,a5,a6,a7,a8⟩:=h.2 ha;rw[hst]at a8;replace a8:w=w2.setCell ⟨g0,o0,none⟩ (V ap):=a8;subst a8 hn;have hsz:=h0.sz;have hB:B<=W0.heap.size:=by have:=h0.ge;have:=h0.lt;omega
 have b1:Below N W0 w1:=hW.trans (a1.mono (AX hsz hW.size));obtain⟨fd,d1,d2⟩:=hd w1 pb a1 a2 a3 a4;have hxw:=Dh hx a1 (AQ);have hat:=h0.at;refine⟨⟨_,h0.push (r:=[d]) (ga:=pb) (oa:=0) (fd:=fd) (news:=one) b1 ?_ d2 (fun x hx=>by simp at hx;rw[hx];exact hdw) (by simp) (by simp[h1]) (fun j hj=>?_) hc hxw (by simpa using a5) a6 a7⟩,?_,Bf a5,w2,_,rfl,?_⟩
 ·unfold AP;exact⟨fd,[],by simp,d1,by unfold AP;rfl⟩
 ·have hj':j<one.length:=by simpa[h1]using hj
  rw[Nat.zero_add,a4.c j one[j] (by simp[hj'])];simp[hj']
 ·refine((a1.mono (AX hB hW.size)).grown a6 (AX hB (AX hW.size a1.size)) (fun k hk=>?_)).setCell (p:=⟨g0,o0,none⟩) hat.1 _;exact(hxw.lt k hk).1
 ·have hlt:g0<W.heap.size:=A9 hat.2.1 (AX hsz hW.size);have IW:=h0.OE hc;exact(a6.block g0 (A9 hlt a1.size) (fun e=>IW e.symm)).trans (a1.block g0 hlt)
theorem Aq.JI{s:Nat}(h:Aq W0 B N d0 g o (.row e s l) g0 o0 F)(hc:W0.cell? ⟨g0,o0,none⟩=some v){k:Nat}(hk:v.ownBlock=some k):k<N:=by
 obtain⟨h1,h2,h2',fp,Fj,h3,h3',h4⟩:=h;obtain⟨v0,hc',hv0⟩:=h4.lies.row;rw[hc]at hc';obtain rfl:v=v0:=by simpa using hc'
 exact h3' k (h4.sub k (hv0.own k hk))
theorem Ad.far(h:Ad W B e s bs ap st one n xs v ⟨g0,o0,none⟩ V L w)(ha:L ap=true)(hst:L st=true)(hb1:b≠g0)(hown:v.ownBlock≠some b)(hb2:b<W.heap.size):w.heap[b]? =W.heap[b]? :=by
 obtain⟨w1,w2,pb,a1,a2,a3,a4,a5,a6,a7,a8⟩:=h.2 ha;rw[hst]at a8;replace a8:w=w2.setCell ⟨g0,o0,none⟩ (V ap):=a8;subst a8;exact(Below.heap_setCell _ _ _ _ hb1).trans ((a6.block b (A9 hb2 a1.size) (fun e=>hown e.symm)).trans (a1.block b hb2))
end
end
section
section
variable {w : World} {B N M : Nat} {k : Hd} {s : St} {j : Int}
theorem Am.ER(h:Am w B N M k s j)(n:Int):Am (w.setCell ⟨M,5,none⟩ (.int .i64 n)) B N M k {s with status:=n} j:=by
 have s0:=h.st;unfold Eh at s0;refine h.of (Aq.set1 (v1:=.int .i64 n) (s0.nth 0 rfl rfl) rfl) ?_;unfold dM Eh;simp[dN]
theorem Am.bS(h:Am w B N M k s j)(n:Int):Am (w.setCell ⟨M,8,none⟩ (.int .i64 n)) B N M k {s with code:=n} j:=by
 have s0:=h.st;unfold Eh at s0;refine h.of (Aq.set1 (v1:=.int .i64 n) (s0.nth 2 rfl rfl) rfl) ?_;unfold dM Eh;simp[dN]
theorem Am.UZ(h:Am w B N M k s j)(n:Int):Am (w.setCell ⟨M,14,none⟩ (.int .i64 n)) B N M k {s with allocs:=n} j:=by
 have s0:=h.st;unfold Eh at s0;refine h.of (Aq.set1 (v1:=.int .i64 n) (s0.nth 8 rfl rfl) rfl) ?_;unfold dM Eh;simp[dN]
theorem Am.Xb(h:Am w B N M k s j)(n:Int):Am (w.setCell ⟨M,15,none⟩ (.int .i64 n)) B N M k {s with steps:=n} j:=by
 have s0:=h.st;unfold Eh at s0;refine h.of (Aq.set1 (v1:=.int .i64 n) (s0.nth 9 rfl rfl) rfl) ?_;unfold dM Eh;simp[dN]
theorem Am.UY(h:Am w B N M k s j)(n:Int):Am (w.setCell ⟨M,16,none⟩ (.int .i64 n)) B N M k {s with guards:=n} j:=by
 have s0:=h.st;unfold Eh at s0;refine h.of (Aq.set1 (v1:=.int .i64 n) (s0.nth 10 rfl rfl) rfl) ?_;unfold dM Eh;simp[dN]
theorem Am.Xc(h:Am w B N M k s j)(n:Int):Am (w.setCell ⟨M,17,none⟩ (.int .i64 n)) B N M k {s with asked:=n} j:=by
 have s0:=h.st;unfold Eh at s0;refine h.of (Aq.set1 (v1:=.int .i64 n) (s0.nth 11 rfl rfl) rfl) ?_;unfold dM Eh;simp[dN]
theorem Am.OZ(h:Am w B N M k s j)(n:Int):Am (w.setCell ⟨M,20,none⟩ (.int .i64 n)) B N M k s n:=by
 have s0:=h.own.spot;unfold dM at s0;refine h.of (Aq.set1 (v1:=.int .i64 n) (s0.nth 8 rfl (n:=20) (by simp[Dt.DF,Dt.wd,QA])) rfl) ?_;unfold dM;simp[dN]
theorem Am.UW(h:Am w B N M k s j)(v:Vu):Am ((w.setCell ⟨M,6,none⟩ (.string v.1)).setCell ⟨M,7,none⟩ (.int .i64 v.2)) B N M k {s with result:=v} j:=by
 have s0:=h.st;unfold Eh at s0;have s1:=s0.nth 1 rfl rfl;have h1:Am (w.setCell ⟨M,6,none⟩ (.string v.1)) B N M k {s with result:=(v.1,s.result.2)} j:=by
  refine h.of (Aq.set1 (v1:=.string v.1) (Aq.nth (l:=[dS s.result.1,dN s.result.2]) s1 0 rfl rfl) rfl) ?_;unfold dM Eh;simp[dN,C9,dS]
 have t0:=h1.st;unfold Eh at t0;have t1:=t0.nth 1 rfl rfl;refine h1.of (Aq.set1 (v1:=.int .i64 v.2) (Aq.nth (l:=[dS v.1,dN s.result.2]) t1 1 rfl rfl) rfl) ?_;unfold dM Eh;simp[dN,C9,dS]
theorem Am.low(h:Am w B N M k s j)(i:Nat)(v:Value):Below B w (w.setCell ⟨M,i,none⟩ v):=(AL).setCell (p:=⟨M,i,none⟩) h.own.ge v
end
theorem Mg{s:St}(h:Am w B N M k s j)(c:Int):Calls prog 89 #[.pointer (some ⟨M,0,none⟩),.int .i64 c] w (oU B N M k (Gd s c) j w):=by
 have h1:=h.ER 2;have h2:=h1.bS c;have hb:=(h.low 5 (.int .i64 2)).trans (h1.low 8 (.int .i64 c));obtain⟨n5,n6,n7,n8,n14,n15,n16,n17⟩:=h.ns;have fz:=h.Bw;go_enter func89,ntmps89;go_wp2;go_end0;exact⟨rfl,h2,hb⟩
theorem aM:(prog.info? 59).map (fun i=>(i.zero,i.size,i.bytes))=some (some (.agg #[.string .empty,.slice none 0 0,.int .i64 0,.bool false]),4,56):=by kernel_rfl
theorem Zx:(prog.info? 2).map (fun i=>(i.zero,i.size,i.bytes))=some (some (.int .i64 0),1,8):=by kernel_rfl
theorem Ad.cellOf{W:World}{s bs ap st:Nat}{one xs:List Value}{dst:Addr}{V:Nat->Value}{L:Nat->Bool}(h:Ad W B e s bs ap st one n xs v dst V L w)(hst:L st=false){u:Value}(hc:W.cell? ⟨g,o,none⟩=some u)(hne:v.ownBlock≠some g):w.cell? ⟨g,o,none⟩=some u:=
 (BM (h.keeps hst (World.block_lt_of_cell? W ⟨g,o,none⟩ hc) hne) o).trans hc
theorem Ad.EA{W:World}{s bs ap st:Nat}{one xs:List Value}{dst:Addr}{V:Nat->Value}{L:Nat->Bool}(h:Ad W B e s bs ap st one n xs v dst V L w)(hst:L st=false)(hg:g<W.heap.size)(hc:W.frozen? ⟨g,o,none⟩=false)(hne:v.ownBlock≠some g):w.frozen? ⟨g,o,none⟩=false:=by
 rw[World.frozen?_of_block (w:=W) (w':=w) (a:=⟨g,o,none⟩) (h.keeps hst hg hne)];exact hc
theorem Vh{s:St}(h:Am w B N M k s j)(ev:Ev){u:Value}{fa:List Nat}(hA:AZ w N 2 1 (ev.ar.map dN) u fa)(hfa:fa.Nodup)(ht:s.trace.length<=1000000)(hm:s.marks.length<=1000000):Calls prog 84 #[.pointer (some ⟨M,0,none⟩),.agg #[.string ev.n,u,.int .i64 ev.r,.bool ev.fl]] w fun e w'=>e=.returned (.tuple #[])/\(∃N',Am w' B N' M k (JN s ev) j)/\Below B w w'/\∀b,N<=b->b<w.heap.size->w'.heap[b]? =w.heap[b]? :=by
 obtain⟨pu,cu,rfl⟩:=hA.slice;rw[List.length_map]at hA⊢;generalize hne:ev.ar.length=ne at*;obtain⟨hE,hb1⟩:=BR (w:=w) (c1:=[.string ev.n,.slice pu ne cu,.int .i64 ev.r,.bool ev.fl]) (t1:=59) (AL);have Df:N<=w.heap.size:=h.own.sz;have hBN:B<=N:=by have:=h.own.ge;have:=h.own.lt;omega
 go_enter func84,ntmps84;generalize Cr:w.alloc (.cells #[.string ev.n,.slice pu ne cu,.int .i64 ev.r,.bool ev.fl] 59)=W at*;replace h:=h.kp (hb1.mono Df);replace hA:=hA.same (fun b hb=>hb1.block b (hA.fp b hb).2);go_wp2;have TQ:N<=W.heap.size:=h.own.sz;have s0:=h.st;unfold Eh at s0;have s1:=s0.nth 6 rfl (n:=7) (by simp[Dt.DF,Dt.wd,C9,dN,dS]);obtain⟨vt,xs,ct,hx,pt,kt,rfl⟩:=s1.owns;rw[List.length_map]at ct hx;have IW:=s1.OE ct;have hot:=fun k hk=>s1.JI (k:=k) ct hk;have s8:=s0.nth 7 rfl (n:=8) (by simp[Dt.DF,Dt.wd,C9,dN,dS]);obtain⟨vm,xm,cm,-,pm0,km0,rfl⟩:=s8.owns;have hom:=fun k hk=>s8.JI (k:=k) cm hk;have hfz:=h.Bw 12;have Pk:=h.own.lt;have qV:=hE.lt;have hsd:W.drew.heap.size=W.heap.size:=rfl;generalize hnt:s.trace.length=nt at*;have hxd:=Dh hx (Al (w:=W) 1) (AQ);refine AV (S:=Ad W.drew B 59 4 7 8 12 [.string ev.n,.slice pu ne cu,.int .i64 ev.r,.bool ev.fl] nt xs (.slice pt nt kt) ⟨M,12,none⟩) rfl (by kernel_rfl) (Ad.start (AL)) ?_;iterate 5((apply AU.z rfl;intro V L w1 _ _ _ z hK;go_simp;exact hK (z.s.keep rfl rfl rfl);intros;rfl))
 (apply AU.z rfl;intro V L w1 _ _ _ z hK;(have hI:=z.s.below (z.o 8 (by kernel_rfl));(have c9:=AA hI (show W.drew.cell? ⟨M,12,none⟩=some (.slice pt nt kt)from ct)));go_simp;exact hK (z.s.keep rfl rfl rfl);intros;rfl);(apply AU.z rfl;intro V L w1 _ _ _ z hK;(have hI:=z.s.below (z.r (8) (7) (by kernel_rfl) (z.o 7 (by kernel_rfl)));(have hB:=(hE.drew).below qV hI;obtain⟨b0,b1,b2,b3⟩:=hB.c4));go_simp;exact hK (z.s.keep rfl rfl rfl);intros;rfl);(apply AU.w rfl;intro V L w1 _ _ _ z hK;go_simp;exact hK rfl (z.s.made (z.o 8 (by kernel_rfl)) rfl _);(try simp only[pE]));(refine AU.free (fun _=>rfl) (fun V L w1 _ _ hS hi hR hd hK=>hS.go hi (hR.out (12) _ (by kernel_rfl) hi) (hd.out (7) (by kernel_rfl)) (aM) (underlying38) (hxd) rfl rfl rfl rfl rfl rfl (by decide) (by simp[Value.oneCell']) (by unfold maxLen;omega) fun v' w' h=>hK.out _ _ rfl h) ?_;(try simp only[pE]));iterate 3((apply AU.z rfl;intro V L w1 _ _ _ z hK;go_simp;exact hK (z.s.keep rfl rfl rfl);intros;rfl))
 (apply AU.val undef (fun _=>rfl);intro V L w1 _ _ hS hi hR hd hK;have ha:=hd.out (8) (by kernel_rfl);(have cs:=hS.cellOf hi (show W.drew.cell? ⟨M,12,none⟩=some (.slice pt nt kt)from ct) IW;have fs:=hS.EA hi (o:=12) (show M<W.drew.heap.size from A9 Pk TQ) hfz IW);have hS2:=hS.stored ha hi rfl;obtain⟨pu,ku,CX⟩:=hS.val ha;rw[CX]at hS2;simp only[CX];go_simp;exact hK.out _ _ (by simp only[CX];rfl) hS2;simp only[Act.put]);refine AU.nil fun V w1 hS=>?_;obtain⟨⟨N1,ho⟩,hbel,-,w9,u9,rfl,Y9⟩:=hS.done rfl rfl (s1.kp ((Al (w:=W) 1).mono TQ)) (AL) ct hxd (by rw[List.length_map,hnt]) (d:=Qc ev)
  (fun w1 pb b1 _ _ hx=>⟨fa++[],Af.of (AP.cc (hx.c 0 _ rfl) rfl (AP.cr (hx.c 1 _ rfl) (hA.same (fun b hb=>b1.block b (hA.fp b hb).2)) (AP.cc (hx.c 2 _ rfl) rfl (AP.cc (hx.c 3 _ rfl) rfl AP.cn)))),by simpa using hfa⟩) rfl rfl
 have Pn:∀b,N<=b->b<w.heap.size->(w9.setCell ⟨M,5+7,none⟩ u9).heap[b]? =w.heap[b]? :=fun b g1 g2=>by
  have g3:b<W.heap.size:=A9 g2 hb1.size;refine(hS.far rfl rfl (b:=b) (by omega) (fun e=>?_) g3).trans (hb1.block b g2);have:=hot b e;omega
 have cm2:(w9.setCell ⟨M,5+7,none⟩ u9).cell? ⟨M,13,none⟩=some (.slice pm0 (s.marks.map dN).length km0):=by
  rw[World.cell?_setCell_other _ _ _ _ (Ik (by decide))];exact(BM Y9 13).trans cm
 have h1:Am (w9.setCell ⟨M,5+7,none⟩ u9) B N1 M k {s with trace:=s.trace++[ev]} j:=by
  obtain⟨cur,T,e1⟩:=h.typ;refine⟨?_,Iq (Y9.trans e1) _ _⟩;unfold dM Eh;simpa using ho
 generalize w9.setCell ⟨M,5+7,none⟩ u9=W2 at*;have hbW:Below B w W2:=((hb1.mono (by omega)).trans (Al 1|>.mono (by omega))).trans hbel;have hMN:=h.own.lt;have yU:N1<=W2.heap.size:=h1.own.sz;have AJt:B<=N1:=by have:=h1.own.ge;have:=h1.own.lt;omega
 go_wp2;have s0:=h1.st;unfold Eh at s0;have s1:=s0.nth 7 rfl (n:=8) (by simp[Dt.DF,Dt.wd,C9,dN,dS]);obtain⟨vt,xs2,ct,hx,pm,km,rfl⟩:=s1.owns;rw[List.length_map]at ct hx;have IW:=s1.OE ct;have hvm:(Value.slice pm s.marks.length km).ownBlock=(Value.slice pm0 (s.marks.map dN).length km0).ownBlock:=by
  have e:=ct.symm.trans cm2;injection e with e;rw[e]
 have hfz:=h1.Bw 13;have Pk:=h1.own.lt;have c14:=h1.ns.2.2.2.2.1;dsimp only at c14 ct hx;generalize hnm:s.marks.length=nm at*;have hxd:=Dh hx (Al (w:=W2) 1) (AQ);have hsd:W2.drew.heap.size=W2.heap.size:=rfl;refine AV (S:=Ad W2.drew B 2 1 11 12 16 [.int .i64 s.allocs] nm xs2 (.slice pm nm km) ⟨M,13,none⟩) rfl (by kernel_rfl) (Ad.start (AL)) ?_;iterate 5((apply AU.z rfl;intro V L w1 _ _ _ z hK;go_simp;exact hK (z.s.keep rfl rfl rfl);intros;rfl))
 (apply AU.z rfl;intro V L w1 _ _ _ z hK;(have hI:=z.s.below (z.o 12 (by kernel_rfl));(have c9:=AA hI (show W2.drew.cell? ⟨M,13,none⟩=some (.slice pm nm km)from ct)));go_simp;exact hK (z.s.keep rfl rfl rfl);intros;rfl);iterate 4((apply AU.z rfl;intro V L w1 _ _ _ z hK;go_simp;exact hK (z.s.keep rfl rfl rfl);intros;rfl))
 (apply AU.z rfl;intro V L w1 _ _ _ z hK;(have hI:=z.s.below (z.r (12) (11) (by kernel_rfl) (z.o 11 (by kernel_rfl)));(have c9:=AA hI (show W2.drew.cell? ⟨M,14,none⟩=some (.int .i64 s.allocs)from c14)));go_simp;exact hK (z.s.keep rfl rfl rfl);intros;rfl);(apply AU.w rfl;intro V L w1 _ _ _ z hK;go_simp;exact hK rfl (z.s.made (z.o 12 (by kernel_rfl)) rfl _);(try simp only[pE]));(refine AU.free (fun _=>rfl) (fun V L w1 _ _ hS hi hR hd hK=>hS.go hi (hR.out (16) _ (by kernel_rfl) hi) (hd.out (11) (by kernel_rfl)) (Zx) (underlying28) (hxd) rfl rfl rfl rfl rfl rfl (by decide) (by simp[Value.oneCell']) (by unfold maxLen;omega) fun v' w' h=>hK.out _ _ rfl h) ?_;(try simp only[pE]));iterate 3((apply AU.z rfl;intro V L w1 _ _ _ z hK;go_simp;exact hK (z.s.keep rfl rfl rfl);intros;rfl))
 (apply AU.val undef (fun _=>rfl);intro V L w1 _ _ hS hi hR hd hK;have ha:=hd.out (12) (by kernel_rfl);(have cs:=hS.cellOf hi (show W2.drew.cell? ⟨M,13,none⟩=some (.slice pm nm km)from ct) IW;have fs:=hS.EA hi (o:=13) (show M<W2.drew.heap.size from A9 Pk yU) hfz IW);have hS2:=hS.stored ha hi rfl;obtain⟨pu,ku,CX⟩:=hS.val ha;rw[CX]at hS2;simp only[CX];go_simp;exact hK.out _ _ (by simp only[CX];rfl) hS2;simp only[Act.put]);refine AU.nil fun V w1 hS=>?_;obtain⟨⟨N2,ho⟩,hbel,-,w9,u9,rfl,Y9⟩:=hS.done rfl rfl (s1.kp ((Al (w:=W2) 1).mono yU)) (AL) ct hxd (by rw[List.length_map];exact hnm.symm) (d:=dN s.allocs)
  (fun w1 pb b1 _ _ hx=>⟨[],by unfold dN Af;exact⟨hx.c 0 _ rfl,rfl,rfl⟩,by simp⟩) rfl rfl
 have AAd:∀b,N<=b->b<w.heap.size->(w9.setCell ⟨M,5+8,none⟩ u9).heap[b]? =w.heap[b]? :=fun b g1 g2=>by
  refine(hS.far rfl rfl (b:=b) (by omega) (fun e=>?_) (A9 g2 hbW.size)).trans (Pn b g1 g2);have:=hom b (by rw[<-hvm];exact e);omega
 have h2:Am (w9.setCell ⟨M,5+8,none⟩ u9) B N2 M k (JN s ev) j:=by
  obtain⟨cur,T,e1⟩:=h1.typ;refine⟨?_,Iq (Y9.trans e1) _ _⟩;unfold dM Eh JN;simpa using ho
 have hbW2:=(hbW.trans (Al 1|>.mono (by omega))).trans hbel;generalize w9.setCell ⟨M,5+8,none⟩ u9=W3 at*;go_wp2;go_end0;exact⟨rfl,⟨N2,h2⟩,hbW2,AAd⟩
end
theorem VW:(prog.info? 34).map (fun i=>(i.zero,i.size,i.bytes))=some (some (.agg #[.string .empty,.int .i64 0]),2,24):=by kernel_rfl
end Go.Proofs.YtlffomedflegdaaGreatDoor
