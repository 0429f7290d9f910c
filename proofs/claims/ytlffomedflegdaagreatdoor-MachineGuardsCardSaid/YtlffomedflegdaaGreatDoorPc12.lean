/- Part 12 of the proof: Ob, Oc, Od, Ria, Oe. -/
import Derived.Test.YtlffomedflegdaaGreatDoorPc11
set_option linter.all false
set_option maxHeartbeats 16000000
set_option maxRecDepth 100000
namespace Go.Proofs.YtlffomedflegdaaGreatDoor
open Go.Proofs.Tryz
open Go.RowKit
variable {B n:Nat}{a:Act}{md:Region.Mode}{o:Oper}{ops:Array Oper}{u v:Value}{w w0:World}
section
open Word Num Dp
def jT(n:Nat)(e:Ending):Prop:=∃t:ByteArray,e=.returned (.string t)/\t.size<=n
theorem Vq{l:List UInt8}(h:l.length<=n):jT n (.returned (.string ⟨l.toArray⟩)):=⟨_,rfl,by show l.toArray.size<=n;simpa using h⟩
theorem KL{n:Int}(hn:Bo n)(w:World):Calls prog 172 #[.int .i64 n] w fun e w'=>jT 20 e/\AA6 w w':=by
 refine(Kc n hn w).mono ?_;grind [Kc,Vq,NU]
theorem MZ{x:Ag}(hs:Sz x.s)(hn:Bo x.n)(w:World):Calls prog 173 #[.agg #[.int .i64 x.k,.string x.s,.int .i64 x.n]] w fun e w'=>jT (x.s.size+32) e/\AA6 w w':=by
 obtain⟨K,s,n⟩:=x;replace hs:Sz s:=hs;replace hn:Bo n:=hn;have hB:=Ae.alloc w [.int .i64 K,.string s,.int .i64 n] 77;have hb:=AJ w (.cells #[.int .i64 K,.string s,.int .i64 n] 77);have hr:=fun w=>ND K s (Wx (by unfold Sz at hs;omega)) n _ rfl w;generalize KI K s.data.toList n=v at hr;have hn:=Wx hn;go_enter func173,ntmps173;go_wp2_with fail;refine(hr _).mono ?_;rintro e w1 ⟨rfl,h0⟩;have hB1:=hB.nx h0;obtain⟨c0,c1,c2⟩:=hB1.c3;replace hb:=AB hb h0;cases v
 ·go_wp2;go_ret;exact⟨⟨_,rfl,AY⟩,hb⟩
 by_cases e1:K=1
 ·subst e1;go_wp2;go_ret;exact⟨⟨_,rfl,Nat.le_add_right _ _⟩,hb⟩
 have e1:(K==1)=false:=by simp[e1]
 by_cases e2:K=2
 ·subst e2;go_wp2_with fail;refine(KL hn.out _).mono ?_;rintro e w2 ⟨⟨t,rfl,ht⟩,h2⟩;go_wp2;go_ret;exact⟨⟨_,rfl,by show t.size<=s.size+32;omega⟩,AB hb h2⟩
 have e2:(K==2)=false:=by simp[e2]
 by_cases e3:K=3
 ·subst e3;go_wp2_with fail;refine(Rf _ _).mono ?_;rintro e w2 ⟨rfl,h2⟩;go_wp2;go_ret;exact⟨Vq (by rw[NV];omega),AB hb h2⟩
 have e3:(K==3)=false:=by simp[e3]
 by_cases e4:K=4
 ·subst e4;go_wp2;go_ret;exact⟨⟨_,rfl,by show 4<=s.size+32;omega⟩,hb⟩
 have e4:(K==4)=false:=by simp[e4]
 go_wp2_with fail;refine(KL hn.out _).mono ?_;rintro e w2 ⟨⟨t,rfl,ht⟩,h2⟩;have htI:(t.size:Int)<=20:=by omega
 go_wp2;go_ret;have h35:(⟨#[35]⟩:ByteArray).size=1:=rfl;exact⟨⟨_,rfl,by rw[ByteArray.size_append,h35];show 1+t.size<=s.size+32;omega⟩,AB hb h2⟩
def Ce(w:World)(B:Nat)(v:Value)(n:Nat):Prop:=∃l:List ByteArray,w.ownsRow B 9 1 v l.length (l.map .string)/\lens l<=n
theorem Ru(a b:List ByteArray):lens (a++b)=lens a+lens b:=D5 _ a b
section
variable {w w1 : World} {B n : Nat} {v : Value}
theorem Ce.sl(h:Ce w B v n):∃p m c,v=.slice p m c:=by grind [Ce,Bf]
theorem Ce.up{k:Nat}(h:Ce w B v n)(hk:n<=k):Ce w B v k:=by grind [Ce]
theorem Ce.nx(h:Ce w B v n)(hb:AA6 w w1):Ce w1 B v n:=by grind [Ce,Dh]
theorem Ce.ws(h:Ce w B v n):∃l,Ws w v l/\lens l<=n:=by grind [Ce,Ws,lens]
theorem Ce.nil:Ce w B (.slice none 0 0) 0:=⟨[],World.ownsRow_nil _ _ _ _,AQ⟩
theorem Ce.new(w:World)(hB:B<=w.heap.size)(l:List ByteArray)(hl:l.length<=maxLen):Ce (w.alloc (Obj.cells (l.map Value.string).toArray 9)) B (.slice (some ⟨w.heap.size,0,none⟩) l.length l.length) (lens l):=by
 refine⟨l,?_,AQ⟩;have:=World.ownsRow_lit (base:=B) (e:=9) (size:=1) w (l.map Value.string).toArray l.length hB hl (by simp);simpa using this
theorem Mc{K:Act->World->Prop}{Q:Exit->Act->World->Prop}(s x:Operand)(ho:o.op=.call {callee:=.builtin .append,args:=#[s,x],argTypes:=#[78,78]}) (hs:a.eval s=v) (hv:Ce w B v n) (new:List ByteArray) (pb:Nat)(hx:a.eval x=.slice (some ⟨pb,0,none⟩) new.length new.length) (hb:Ae w pb (new.map Value.string)) (hn:n+lens new<=100000000) (hB:B<=w.heap.size)(h:∀v' w',Ce w' B v' (n+lens new)->Kp 9 B w w'->K (a.put o.dst v') w'):o.wp prog a w K Q:=by
 obtain⟨i0,hi,hz0,hz1,hz2⟩:=Cq (P:=prog) (t:=9) (z:=.string .empty) (s:=1) (b:=16) (by kernel_rfl);obtain⟨l,h1,h2⟩:=hv;have l1:=Iu l;have l2:=Iu new;refine wp_append_own' s x 78 ho B 9 i0 _ 1 16 underlying78 hi hz0 hz1 hz2 rfl (by decide) v _ _ hs h1 ⟨pb,0,none⟩ _ _ (new.map Value.string) hx (by simp) (fun j u hu=>by rw[Dk,Nat.zero_add];exact hb.c j u hu) (fun u hu=>by obtain⟨s,_,rfl⟩:=List.mem_map.1 hu;rfl) (by unfold maxLen;omega) (by omega) hB fun v' w' k1 k2 _=>h v' w' ⟨l++new,by rw[List.length_append,List.map_append];exact k1,by rw[Ru];omega⟩ (.grown h1 k2 hB)
theorem Fh{rest:List Oper}{Q:Exit->Act->World->Prop}(hgd:o.guard=none)(s x:Operand)(ho:o.op=.call {callee:=.builtin .append,args:=#[s,x],argTypes:=#[78,78]}) (hs:a.eval s=v) (hv:Ce w B v n) (new:List ByteArray) (pb:Nat)(hx:a.eval x=.slice (some ⟨pb,0,none⟩) new.length new.length) (hb:Ae w pb (new.map Value.string)) (hn:n+lens new<=100000000) (hB:B<=w.heap.size)(h:∀v' w',Ce w' B v' (n+lens new)->Kp 9 B w w'->wpList prog ops Q rest (a.put o.dst v') w'):wpList prog ops Q (o::rest) a w:=
 wpList_plain hgd fun _ hK=>Mc s x ho hs hv new pb hx hb hn hB fun v' w' h2 h3=>hK _ _ (h v' w' h2 h3)
end
def En(l:List Ag):Nat:=Aj (fun a=>a.s.size+33) l
theorem Ow(h0:AA6 w0 w){l:List Ag}(hv:Ce w B v n)(hl:Row Lg 3 w0 u l)(hr:∀a∈l,Bo a.n)(hB:B<=w.heap.size)(hB0:w0.heap.size<=B)(hn:n+En l<=100000000):Calls prog 218 #[v,u] w fun e w'=>∃v',e=.returned v'/\Ce w' B v' (n+En l)/\Kp 9 B w w':=by
 obtain⟨p,c,rfl,-,hl2,hl⟩:=hl;obtain⟨p0,m0,c0,rfl⟩:=hv.sl;go_enter func218,ntmps218;go_wp2;go_loopw[0,5] (fun v i wr=>∃(q:Nat),q<=l.length/\i=.int .i64 (q:Int)/\Ce wr B v (n+En (l.take q))/\Kp 9 B w wr) (fun _ i _=>l.length-(intOf i).toNat);exact⟨0,AY,rfl,hv,.refl⟩;obtain⟨q,hq,rfl,hv,hk⟩:=hrel;obtain⟨p0,m0,c0,rfl⟩:=hv.sl;have hBr:B<=wr.heap.size:=AX hB hk.b.size;by_cases hend:q=l.length
 ·subst hend;rw[List.take_length]at hv;go_wp2;go_ret;exact⟨_,rfl,hv,hk⟩
 ·have hlt:q<l.length:=by omega
  have A8:(q:Int)<l.length:=by omega
  obtain⟨a,rfl,g0,⟨g1,hz⟩,g2⟩:=hl q l[q] (by simp[hlt]);have hw:=h0.trans (hk.b.mono hB0);have g0:=AA hw g0;have g1:=AA hw g1;have g2:=AA hw g2;have hs:=BD (fun a:Ag=>a.s.size+33) hlt;change En (l.take (q+1))=En (l.take q)+(l[q].s.size+33)at hs;have hall:En (l.take (q+1))<=En l:=by
   have:=D5 (fun a:Ag=>a.s.size+33) (l.take (q+1)) (l.drop (q+1));rw[List.take_append_drop]at this;unfold En;omega
  have hA:=fun w=>MZ hz (hr l[q] (List.getElem_mem hlt)) w;generalize l[q]=x at*;go_wp2_with fail;refine(hA _).mono ?_;rintro e w1 ⟨⟨t,rfl,ht⟩,hb1⟩;have hv1:=(hv.nx hb1).nx (AJ w1 (.cells #[.string t] 9));go_wp2_with(at_builtin;refine Fh rfl _ _ rfl rfl hv1 [t] _ rfl (Ae.alloc _ _ _) (by simp[lens,Aj];omega) (by simp;have:=hb1.size;omega) ?_;intro v' w3 hv3 hk3;obtain⟨p3,m3,c3,rfl⟩:=hv3.sl)
  go_roundw;exact⟨q+1,by omega,by go_num,hv3.up (by simp[lens,Aj];omega),((hk.nx hB hb1).nx hB (AJ _ _)).trans hk3⟩;simp[intOf];omega
end
section
def marks(md:Region.Mode)(ops:Array Oper)(i:Nat)(l:List Nat):List Nat:=l.foldl (fun acc m=>if acc.any (fun x=>waits md ops m x)then m::acc else acc) [i]
theorem Rq{L:Nat->Bool}(h:Right md ops L):∀(l acc:List Nat),(∀x∈acc,L x=false)->∀x∈l.foldl (fun acc m=>if acc.any (fun x=>waits md ops m x)then m::acc else acc) acc,L x=false
 | [],_,ha=>ha
 |m::r,acc,ha=>by
  rw[List.foldl_cons];refine Rq h r _ fun x hx=>?_;split at hx
  ·rename_i hm
   rcases List.mem_cons.1 hx with rfl|hx
   ·obtain⟨y,hy,hw⟩:=List.any_eq_true.1 hm;exact h _ _ hw (ha y hy)
   ·exact ha x hx
  ·exact ha x hx
theorem Right.far{L:Nat->Bool}(h:Right md ops L){i j:Nat}(hm:(marks md ops i (List.range (j+1))).contains j=true)(hi:L i=false):L j=false:=by grind [Right,marks,Rq]
theorem Zf.f{S:(Nat->Value)->(Nat->Bool)->World->Prop}{j:Nat}{V:Nat->Value}{L:Nat->Bool}(z:Zf md ops S j V L w)(k:Nat)(h:(marks md ops j (List.range (k+1))).contains k=true):L k=false:=Right.far z.r h z.i
abbrev Rs:=Nat->Option (Nat×(Value->World->Prop))
def GC(K:World->Prop)(R:Rs)(cl:Nat)(Y:Value->World->Prop)(V:Nat->Value)(L:Nat->Bool)(w:World):Prop:=
 (L cl=false->K w/\∀i c X,R i=some (c,X)->L i=true->L c=false->X (V i) w)/\(L cl=true->Y (V cl) w)
def xK(R:Rs)(i:Nat)(V:Nat->Value)(L:Nat->Bool)(w w2:World):Prop:=∀j c X,R j=some (c,X)->j≠i->c≠i->L j=true->L c=false->X (V j) w->X (V j) w2
def R1(i c:Nat)(X:Value->World->Prop):Rs:=fun k=>if k=i then some (c,X)else none
def R2(i c:Nat)(X:Value->World->Prop)(R:Rs):Rs:=fun k=>if k=i then some (c,X)else R k
section
variable {K : World -> Prop} {w w2 : World} {R : Rs} {cl i c : Nat} {X Y : Value -> World -> Prop} {V : Nat -> Value} {L : Nat -> Bool}
theorem Cv{k:Nat}(h:i≠k->c≠k->L i=true->L c=false->X (V i) w->X (V i) w2):xK (R1 i c X) k V L w w2:=by grind [xK,R1]
theorem CO{k:Nat}(h:i≠k->c≠k->L i=true->L c=false->X (V i) w->X (V i) w2)(hr:xK R k V L w w2):xK (R2 i c X R) k V L w w2:=by grind [xK,R2]
theorem GC.start(h:K w):GC K R cl Y V (fun _=>false) w:=by grind [GC]
theorem GC.keep(h:GC K R cl Y V L w)(hR:R i=none)(h1:(cl==i)=false):GC K R cl Y V (upd L i) w:=by
 unfold GC;rw[Dm h1];refine⟨fun hc=>⟨(h.1 hc).1,fun j d X hj hl hd=>(h.1 hc).2 j d X hj ?_ ?_⟩,h.2⟩
 ·rw[Dm (by rw[beq_eq_false_iff_ne];intro e;subst e;rw[hj]at hR;cases hR)]at hl;exact hl
 ·unfold upd at hd;rw[Bool.or_eq_false_iff]at hd;exact hd.2
theorem GC.k(h:GC K R cl Y V L w)(hc:L cl=false):K w:=(h.1 hc).1
theorem GC.val(h:GC K R cl Y V L w)(hc:L cl=false)(hR:R i=some (c,X))(hi:L i=true)(hd:L c=false):X (V i) w:=(h.1 hc).2 i c X hR hi hd
theorem GC.made(h:GC K R cl Y V L w)(hs:xK R i V L w w2)(hk:K w2)(hc:L cl=false)(hR:R i=some (c,X))(hx:X v w2)(h1:(cl==i)=false):GC K R cl Y (EB V i v) (upd L i) w2:=by grind [GC,xK,EB,upd,Dm,BL,Gq,Br]
theorem GC.call(hy:Y v w2):GC K R cl Y (EB V cl v) (upd L cl) w2:=by simp_all[GC,EB,upd]
theorem GC.done(h:GC K R cl Y V L w)(hc:L cl=true):Y (V cl) w:=h.2 hc
end
def XW(l:List ByteArray)(v:Value)(w:World):Prop:=∃pb,v=.slice (some ⟨pb,0,none⟩) l.length l.length/\Ws w v l
theorem XW.new(w:World)(l:List ByteArray)(hl:l.length<=maxLen):XW l (.slice (some ⟨w.heap.size,0,none⟩) l.length l.length) (w.alloc (Obj.cells (l.map Value.string).toArray 9)):=⟨_,rfl,Ws.new w l hl⟩
theorem Yk{l:List Vr}{q:Nat}(h:q<l.length):CY (l.take (q+1))=CY (l.take q)+(1+l[q].n.size+l[q].t.size):=by grind [CY,BD,cases Vr]
theorem mM(l:List Vr)(q:Nat):CY (l.take q)<=CY l:=by
 have:=D5 (fun v:Vr=>v.n.size+v.t.size) (l.take q) (l.drop q);rw[List.take_append_drop]at this;unfold CY;grind
theorem I9(h0:AA6 w0 w){l:List Vr}{s:ByteArray}(hs:s.size<=10)(hv:BU w B v n)(hl:Row IU 2 w0 u l)(hB:B<=w.heap.size)(hB0:w0.heap.size<=B)(hn:n+100*CY l<=100000000):Calls prog 171 #[v,.string s,u] w fun e w'=>∃v',e=.returned v'/\BU w' B v' (n+100*CY l)/\Kp 5 B w w':=by
 obtain⟨p,c,rfl,-,hl2,hl⟩:=hl;obtain⟨p0,m0,c0,rfl⟩:=hv.sl;go_enter func171,ntmps171;go_wp2;go_loopw[0,7] (fun v i wr=>∃(q:Nat),q<=l.length/\i=.int .i64 (q:Int)/\BU wr B v (n+100*CY (l.take q))/\Kp 5 B w wr) (fun _ i _=>l.length-(intOf i).toNat);exact⟨0,AY,rfl,hv,.refl⟩;obtain⟨q,hq,rfl,hv,hk⟩:=hrel;obtain⟨p0,m0,c0,rfl⟩:=hv.sl;have hBr:B<=wr.heap.size:=AX hB hk.b.size;by_cases hend:q=l.length
 ·subst hend;rw[List.take_length]at hv;go_wp2;go_ret;exact⟨_,rfl,hv,hk⟩
 ·have hlt:q<l.length:=by omega
  have A8:(q:Int)<l.length:=by omega
  obtain⟨a,rfl,⟨g0,z0⟩,g1,z1⟩:=hl q l[q] (by simp[hlt]);have hw:=h0.trans (hk.b.mono hB0);replace g0:=AA hw g0;replace g1:=AA hw g1;have hs1:=Yk hlt;have hs2:=mM l (q+1);generalize l[q]=x at*;have hbd:=(Below.refl wr.heap.size wr).drew;go_wp2;refine AV (S:=GC (fun v=>AA6 wr v) (R1 12 13 (XW [s,x.n,x.t])) 13 (fun v' w'=>∃p m c,v'=.slice p m c/\BU w' B v' (n+100*CY (l.take (q+1)))/\Kp 5 B wr w')) rfl (by kernel_rfl) (GC.start hbd) ?_;iterate 12((apply AU.z rfl;intro V L w1 _ _ _ z hK;(try(have hc:=z.f 13 (by kernel_rfl);have hI:=z.s.k hc;(have d0:=AA hI g0;have d1:=AA hI g1)));go_simp;exact hK (z.s.keep rfl rfl);intros;rfl))
  refine AU.free (fun _=>rfl) (fun V L w1 K' Q' hS hi hR hd hK=>?_) ?_
  ·have hc:=hR.out.far (j:=13) (by kernel_rfl) hi;go_simp;(try simp only[pE]);exact hK.out _ _ rfl (hS.made (Cv fun h=>absurd rfl h) ((hS.k hc).alloc (hS.k hc).size _) hc rfl (XW.new w1 [s,x.n,x.t] (show 3<=maxLen by decide)) rfl)
  (try simp only[pE]);refine AU.free (fun _=>rfl) (fun V L w1 K' Q' hS hi hR hd hK=>?_) ?_
  ·obtain⟨pb,hp,hx⟩:=hS.val hi rfl (hd.out 12 (by kernel_rfl)) hi;have hI:=hS.k hi;rw[hp]at hx;simp only[hp];go_simp;(go_wp2_with(refine(Cx (hv.nx hI) hx (AX hBr hI.size) (by simp[lens,Aj];omega)).mono ?_;rintro e w2 ⟨v',rfl,hv',hk'⟩));obtain⟨p3,m3,c3,rfl⟩:=hv'.sl;exact hK.out _ _ (by simp only[hp];rfl) (GC.call ⟨_,_,_,rfl,hv'.up (by simp[lens,Aj];omega),(Kp.of hI hBr).trans hk'⟩)
  (try simp only[pE]);((refine AU.step (a1:=?_) (fun _=>rfl) (fun V L w1 K' Q' hS hi hR hd hK=>?_) ?_ ?_ ?_;rotate_left);(· (go_simp;(try simp only[pE]);exact hK.out _ (hS.keep rfl rfl)));(· (intro V;rfl));(· (exact fun L V V' Kt hl hv=>hv (13) (Classical.byContradiction fun h=>by have:=Kt (14) (13) (by kernel_rfl) (by simpa using h);rw[hl]at this;cases this))));refine AU.nil fun V w3 hS=>?_;obtain⟨p3,m3,c3,GX,hv3,hk3⟩:=hS.done rfl;rw[GX]at hv3;simp only[GX];go_wp2;go_roundw;exact⟨q+1,by omega,by go_num,hv3,hk.trans hk3⟩;simp[intOf];omega
end
section
section
variable {w : World} {B n : Nat} {v : Value}
theorem Tt{rest:List Oper}{Q:Exit->Act->World->Prop}(hgd:o.guard=none)(s x:Operand)(ho:o.op=.call {callee:=.builtin .append,args:=#[s,x],argTypes:=#[78,78]}) (hs:a.eval s=v) (hv:Ce w B v n)  {l:List ByteArray} (hx:a.eval x=u) (hl:Row DL 1 w u l)(hn:n+lens l<=100000000) (hB:B<=w.heap.size) (h:∀v' w',Ce w' B v' (n+lens l)->Kp 9 B w w'->wpList prog ops Q rest (a.put o.dst v') w'):wpList prog ops Q (o::rest) a w:=by
 obtain⟨i0,hi,hz0,hz1,hz2⟩:=Cq (P:=prog) (t:=9) (z:=.string .empty) (s:=1) (b:=16) (by kernel_rfl);obtain⟨p,c,rfl,h0,-,hl⟩:=hl;obtain⟨m,h1,h2⟩:=id hv
 cases p with
 |none=>
  obtain⟨e1,rfl⟩:=h0 rfl;obtain rfl:l=[]:=List.length_eq_zero_iff.1 e1
  exact wpList_append_own_none hgd s x 78 ho B 9 i0 1 underlying78 hi v _ _ hs h1 hx (h _ _ hv .refl)
 |some ad=>
  have l1:=Iu m;have l2:=Iu l;refine wpList_plain hgd fun _ hK=>?_;refine wp_append_own' s x 78 ho B 9 i0 _ 1 16 underlying78 hi hz0 hz1 hz2 rfl (by decide) v _ _ hs h1 ad _ _ (l.map Value.string) hx (by simp) (fun j u hu=>?_) (fun u hu=>by obtain⟨s,_,rfl⟩:=List.mem_map.1 hu;rfl) (by unfold maxLen;omega) (by omega) hB fun v' w' k1 k2 _=>hK _ _ (h v' w' ⟨m++l,by rw[List.length_append,List.map_append];exact k1,by rw[Ru];omega⟩ (.grown h1 k2 hB));rw[List.getElem?_map]at hu
  cases hj:l[j]? with
  |none=>rw[hj]at hu;cases hu
  |some y=>
   rw[hj]at hu;obtain rfl:Value.string y=u:=(by simpa using hu);obtain⟨b,e,hb,-⟩:=hl j y hj;obtain rfl:ad=b:=(by simpa using e);rw[Nat.mul_one]at hb;exact hb
end
structure Ni(w:World)(p:Nat)(cs:List Value)(T:TypeId):Prop where
 b:Ae w p cs
 t:TG w p T
section
variable {w w1 : World} {p : Nat} {cs : List Value} {T e : TypeId} {B : Nat}
theorem Ni.new(w:World)(cs:List Value)(T:TypeId):Ni (w.alloc (.cells cs.toArray T)) w.heap.size cs T:=⟨Ae.alloc w cs T,TG.new w _ T⟩
theorem TG.lt'(h:TG w p T):p<w.heap.size:=by grind [TG]
theorem Ni.nx(h:Ni w p cs T)(hb:AA6 w w1):Ni w1 p cs T:=⟨h.b.same (hb.block p h.t.lt'),h.t.al hb⟩
theorem Ni.al(h:Ni w p cs T)(o:Obj):Ni (w.alloc o) p cs T:=h.nx (AJ _ o)
theorem Ni.kp(h:Ni w p cs T)(hk:Kp e B w w1)(hne:T≠e):Ni w1 p cs T:=⟨h.b.same (hk.typ h.t hne),h.t.kp hk hne⟩
end
structure zD(w:World)(v:Value)(x:Tm)(u:Value):Prop where
 e:v=.agg #[.int .i64 x.k,.int .i64 x.a.k,.string x.a.s,.int .i64 x.a.n,u,.int .i64 x.n]
 z:Sz x.a.s
 r:Bo x.a.n/\Bo x.n
 t:Row DL 1 w u x.to
theorem Aw(t:ByteArray):lens [t]=t.size+1:=by simp[lens,Aj]
theorem kW(l:List ByteArray):lens l=Aj F6 l:=by
 induction l with
 |nil=>rfl
 |cons x r ih=>
  unfold lens at ih⊢;simp only[Aj,ih,F6];omega
theorem YG(h0:AA6 w0 w){vt:Value}{x:Tm}(hv:BU w B v n)(hx:zD w0 vt x u)(hB:B<=w.heap.size)(hB0:w0.heap.size<=B)(hn:n+80+x.a.s.size+Aj F6 x.to<=100000000):Calls prog 175 #[v,vt] w fun e w'=>∃v',e=.returned v'/\BU w' B v' (n+80+x.a.s.size+Aj F6 x.to)/\Kp 5 B w w':=by
 obtain⟨rfl,hz,⟨hr1,hr2⟩,ht⟩:=hx;obtain⟨p0,m0,c0,rfl⟩:=hv.sl;have htr:=ht;obtain⟨pt,ct,rfl,-⟩:=ht;rw[<-kW]at hn⊢;obtain⟨k,ag,tl,nn⟩:=x;dsimp only at*;have hT:=Ni.new w [.int .i64 k,.int .i64 ag.k,.string ag.s,.int .i64 ag.n,.slice pt tl.length ct,.int .i64 nn] 80;have hb1:=AJ w (.cells #[.int .i64 k,.int .i64 ag.k,.string ag.s,.int .i64 ag.n,.slice pt tl.length ct,.int .i64 nn] 80);have hb2:=hb1.alloc hb1.size (.cells #[.string ⟨#[]⟩,.string ⟨#[106,117,109,112]⟩,.string ⟨#[98,114,97,110,99,104]⟩,.string ⟨#[114,101,116]⟩,.string ⟨#[116,114,97,112]⟩] 9);have vM:=hT.al (.cells #[.string ⟨#[]⟩,.string ⟨#[106,117,109,112]⟩,.string ⟨#[98,114,97,110,99,104]⟩,.string ⟨#[114,101,116]⟩,.string ⟨#[116,114,97,112]⟩] 9);by_cases hk0:¬(1<=k/\k<=4)
 ·have c1:=vM.b.c 0 _ rfl;by_cases hk1:k<1
  ·go_enter func175,ntmps175;go_wp2;go_ret;exact⟨_,rfl,(hv.nx hb2).up (by omega),Kp.of hb2 hB⟩
  ·have hk4:4<k:=(by omega);go_enter func175,ntmps175;go_wp2;go_ret;exact⟨_,rfl,(hv.nx hb2).up (by omega),Kp.of hb2 hB⟩
 obtain⟨q,rfl⟩:=Int.eq_ofNat_of_zero_le (show 0<=k by omega);have hq1:1<=q:=by omega
 have hq4:q<=4:=by omega
 have hq5:(q:Int)<5:=by omega
 have AJN:¬(4:Int)<q:=by omega
 have hq11:¬(q:Int)<1:=by omega
 have AJM:¬4<q:=by omega
 have hP:=fun w=>MZ hz hr1 w;have hQ:=fun w=>KL hr2 w;obtain⟨wd,hwd,hcw⟩:∃wd:ByteArray,wd.size<=6/\((w.alloc (.cells #[.int .i64 (q:Int),.int .i64 ag.k,.string ag.s,.int .i64 ag.n,.slice pt tl.length ct,.int .i64 nn] 80)).alloc (.cells #[.string ⟨#[]⟩,.string ⟨#[106,117,109,112]⟩,.string ⟨#[98,114,97,110,99,104]⟩,.string ⟨#[114,101,116]⟩,.string ⟨#[116,114,97,112]⟩] 9)).cell? ⟨w.heap.size+1,q,none⟩=some (.string wd):=by
  have ZC:=Ae.alloc (w.alloc (.cells #[.int .i64 (q:Int),.int .i64 ag.k,.string ag.s,.int .i64 ag.n,.slice pt tl.length ct,.int .i64 nn] 80)) [.string ⟨#[]⟩,.string ⟨#[106,117,109,112]⟩,.string ⟨#[98,114,97,110,99,104]⟩,.string ⟨#[114,101,116]⟩,.string ⟨#[116,114,97,112]⟩] 9;have hs1:(w.alloc (.cells #[.int .i64 (q:Int),.int .i64 ag.k,.string ag.s,.int .i64 ag.n,.slice pt tl.length ct,.int .i64 nn] 80)).heap.size=w.heap.size+1:=by simp
  rw[hs1]at ZC;have:q=1\/q=2\/q=3\/q=4:=by omega
  rcases this with rfl|rfl|rfl|rfl
  ·exact⟨_,by decide,ZC.c 1 _ rfl⟩
  ·exact⟨_,by decide,ZC.c 2 _ rfl⟩
  ·exact⟨_,by decide,ZC.c 3 _ rfl⟩
  ·exact⟨_,by decide,ZC.c 4 _ rfl⟩
 have hb3:=hb2.alloc hb2.size (.cells #[.string wd] 9);have hT3:=vM.al (.cells #[.string wd] 9);have hS:=Ce.new (B:=w.heap.size) _ hb2.size [wd] (show 1<=maxLen by decide);simp only[List.map_cons,List.map_nil,List.length_cons,List.length_nil,Nat.zero_add]at hS;have t0:=vM.b.c 0 _ rfl;go_enter func175,ntmps175;go_upto_region 5 with fail;generalize hW:(World.alloc (World.alloc (World.alloc _ _) _) _)=W at*;have hz3:((w.alloc (.cells #[.int .i64 (q:Int),.int .i64 ag.k,.string ag.s,.int .i64 ag.n,.slice pt tl.length ct,.int .i64 nn] 80)).alloc (.cells #[.string ⟨#[]⟩,.string ⟨#[106,117,109,112]⟩,.string ⟨#[98,114,97,110,99,104]⟩,.string ⟨#[114,101,116]⟩,.string ⟨#[116,114,97,112]⟩] 9)).heap.size=w.heap.size+1+1:=by simp
 rw[hz3]at hS;have hBW:B<=W.heap.size:=AX hB hb3.size;have htW:=htr.s (AB h0 hb3);have uy:=hv.nx hb3;have Cr:w.heap.size<=W.heap.size:=hb3.size;obtain⟨t0,t1,t2,t3,t4,t5⟩:=hT3.b.c6;have tail:∀W1,Kp 9 w.heap.size W W1->Ae W1 w.heap.size [.int .i64 (q:Int),.int .i64 ag.k,.string ag.s,.int .i64 ag.n,.slice pt tl.length ct,.int .i64 nn]/\BU W1 B (.slice p0 m0 c0) n/\Row DL 1 W1 (.slice pt tl.length ct) tl/\w.heap.size<=W1.heap.size/\AA6 w W1:=fun W1 h1=>by
  obtain⟨bs,h2,h3⟩:=uy;have hb:=hb3.trans h1.b;exact⟨(hT3.kp h1 (by decide)).b,⟨bs,h2,h1.row h3 (by decide)⟩,htr.s (AB h0 hb),hb.size,hb⟩
 have hq:q=1\/(q=2\/q=3)\/q=4:=by omega
 rcases hq with rfl|h23|rfl
 ·go_wp2_with(at_builtin;refine Tt rfl _ _ rfl rfl hS rfl htW (by rw[Aw];omega) Cr ?_;intro v' w3 hv3 hk3;obtain⟨p3,m3,c3,rfl⟩:=hv3.sl;obtain⟨hB3,hv4,-,hw3,hb4⟩:=tail _ hk3;have t0:=hB3.c 0 _ rfl)
  obtain⟨lw,Sy,hll⟩:=hv3.ws;rw[Aw]at hll;refine(Cx hv4 Sy (AX hB hw3) (by omega)).mono ?_;rintro e w4 ⟨v4,rfl,hv4,hk4⟩;obtain⟨p5,m5,c5,rfl⟩:=hv4.sl;go_wp2;go_ret;exact⟨_,rfl,hv4.up (by omega),(Kp.of hb4 hB).trans hk4⟩
 ·have hp:=hP W;rcases h23 with rfl|rfl;all_goals
   go_wp2_with fail;refine hp.mono ?_;rintro e W1 ⟨⟨t,rfl,ht⟩,hb4⟩;have hS1:=(hS.nx hb4).nx (AJ W1 (.cells #[.string t] 9));have hk1:=Kp.of (e:=9) (AB hb4 (AJ W1 (.cells #[.string t] 9))) Cr
   go_wp2_with first
    |(at_builtin;refine Fh rfl _ _ rfl rfl hS1 [t] _ rfl (Ae.alloc _ _ _) (by rw[Aw,Aw];omega) (by simp;have:=hb4.size;omega) ?_;intro v' w2 hv2 hk2;obtain⟨p2,m2,c2,rfl⟩:=hv2.sl;obtain⟨hB2,-,ADf,hw2,-⟩:=tail _ (hk1.trans hk2);obtain⟨t0,-,-,-,t4,t5⟩:=hB2.c6)
    |(at_builtin;refine Tt rfl _ _ rfl rfl hv2 rfl ADf (by rw[Aw,Aw];omega) hw2 ?_;intro v' w3 hv3 hk3;obtain⟨p3,m3,c3,rfl⟩:=hv3.sl;obtain⟨hB3,hv4,-,hw3,hb5⟩:=tail _ ((hk1.trans hk2).trans hk3);have t0:=hB3.c 0 _ rfl)
   obtain⟨lw,Sy,hll⟩:=hv3.ws;rw[Aw,Aw]at hll;refine(Cx hv4 Sy (AX hB hw3) (by omega)).mono ?_;rintro e w4 ⟨v4,rfl,hv4,hk4⟩;obtain⟨p5,m5,c5,rfl⟩:=hv4.sl;go_wp2;go_ret;exact⟨_,rfl,hv4.up (by omega),(Kp.of hb5 hB).trans hk4⟩
 ·go_wp2_with(at_builtin;refine Tt rfl _ _ rfl rfl hS rfl htW (by rw[Aw];omega) Cr ?_;intro v' w3 hv3 hk3;obtain⟨p3,m3,c3,rfl⟩:=hv3.sl;obtain⟨hB3,hv4,-,hw3,hb4⟩:=tail _ hk3;obtain⟨t0,-,-,-,-,t5⟩:=hB3.c6)
  refine(hQ _).mono ?_;rintro e W1 ⟨⟨t,rfl,ht⟩,hb5⟩;have hS1:=(hv3.nx hb5).nx (AJ W1 (.cells #[.string t] 9));have hk1:=hk3.trans (Kp.of (e:=9) (AB hb5 (AJ W1 (.cells #[.string t] 9))) hw3);go_wp2_with(at_builtin;refine Fh rfl _ _ rfl rfl hS1 [t] _ rfl (Ae.alloc _ _ _) (by rw[Aw,Aw];omega) (by simp;have:=hb5.size;omega) ?_;intro v' w2 hv2 hk2;obtain⟨p2,m2,c2,rfl⟩:=hv2.sl;obtain⟨-,hv6,-,iF,hb6⟩:=tail _ (hk1.trans hk2))
  obtain⟨lw,Sy,hll⟩:=hv2.ws;rw[Aw,Aw]at hll;refine(Cx hv6 Sy (AX hB iF) (by omega)).mono ?_;rintro e w4 ⟨v4,rfl,hv4,hk4⟩;obtain⟨p5,m5,c5,rfl⟩:=hv4.sl;go_wp2;go_ret;exact⟨_,rfl,hv4.up (by omega),(Kp.of hb6 hB).trans hk4⟩
end
def Words(w:World):Prop:=∀r,r<35->∃s:ByteArray,w.cell? ⟨2,r,none⟩=some (.string s)/\s.size<=10
theorem Words.kp{w':World}(h:Words w)(hb:AA6 w w'):Words w':=by grind [Words,AA]
def aA(r:Option Fm)(e:Ending):Prop:=match r with
 |some f=>∃s:ByteArray,s.size<=10/\e=.returned (.tuple #[.agg #[.string s,.bool f.d,.bool f.n,.int .i64 f.l,.int .i64 f.m],.bool true])
 |none=>e=.returned (.tuple #[.agg #[.string ⟨#[]⟩,.bool false,.bool false,.int .i64 0,.int .i64 0],.bool false])
theorem JZ{op:Int}(h:op<1\/34<op):BH op=none:=by
 unfold BH;iterate 12 rw[if_neg (by omega)]
theorem JV(op:Int)(w:World)(hW:Words w):Calls prog 179 #[.int .i64 op] w fun e w'=>AA6 w w'/\aA (BH op) e:=by
 by_cases h1:op<1
 ·rw[JZ (.inl h1)];have h1b:decide (op<1)=true:=decide_eq_true h1;go_enter func179,ntmps179;go_wp2;(refine rB rfl (by go_simp;try rfl) rfl ?_);refine⟨?_,rfl⟩;(repeat(first|with_reducible assumption|exact AJ _ _|exact AL|refine Below.drew ?_|refine Below.setCell ?_ (by first|exact AQ|(dsimp only;omega)) _|refine Below.alloc ?_ (by first|exact AQ|(simp;omega)|simp) _))
 by_cases h2:34<op
 ·rw[JZ (.inr h2)];have h1b:decide (op<1)=false:=decide_eq_false h1;have h2b:decide (34<op)=true:=decide_eq_true h2;go_enter func179,ntmps179;go_wp2;(refine rB rfl (by go_simp;try rfl) rfl ?_);refine⟨?_,rfl⟩;(repeat(first|with_reducible assumption|exact AJ _ _|exact AL|refine Below.drew ?_|refine Below.setCell ?_ (by first|exact AQ|(dsimp only;omega)) _|refine Below.alloc ?_ (by first|exact AQ|(simp;omega)|simp) _))
 obtain⟨s,hs,hz⟩:=hW op.toNat (by omega);have hs2:=fun o=>AA (AJ w o) hs;have hop:op=1\/op=2\/op=3\/op=4\/op=5\/op=6\/op=7\/op=8\/op=9\/op=10\/op=11\/op=12\/op=13\/op=14\/op=15\/op=16\/op=17\/op=18\/op=19\/op=20\/op=21\/op=22\/op=23\/op=24\/op=25\/op=26\/op=27\/op=28\/op=29\/op=30\/op=31\/op=32\/op=33\/op=34:=by omega
 clear hW h1 h2;rcases hop with rfl|rfl|rfl|rfl|rfl|rfl|rfl|rfl|rfl|rfl|rfl|rfl|rfl|rfl|rfl|rfl|rfl|rfl|rfl|rfl|rfl|rfl|rfl|rfl|rfl|rfl|rfl|rfl|rfl|rfl|rfl|rfl|rfl|rfl;all_goals
  simp only[Int.reduceToNat]at hs2;go_enter func179,ntmps179;go_wp2;(refine rB rfl (by go_simp;try rfl) rfl ?_);refine⟨?_,s,hz,rfl⟩;(repeat(first|with_reducible assumption|exact AJ _ _|exact AL|refine Below.drew ?_|refine Below.setCell ?_ (by first|exact AQ|(dsimp only;omega)) _|refine Below.alloc ?_ (by first|exact AQ|(simp;omega)|simp) _))
theorem R6{wa w9:World}(ha:AA6 wa w)(h9:AA6 w9 w){l:List ByteArray}{t:Value}(hl:Row DL 1 wa t l){vs:List Vr}(hv:Row IU 2 w9 u vs):Calls prog 183 #[t,u] w fun e w'=>e=.returned (.bool (FZ l vs))/\AA6 w w':=by
 obtain⟨p1,k1,rfl,-,n1,hl⟩:=hl;obtain⟨p2,k2,rfl,-,n2,hv⟩:=hv;generalize hf:FZ l vs=r0;replace hf:=Wx hf;go_enter func183,ntmps183;go_wp2;go_loopw[5] (fun i wr=>∃q:Nat,q<=l.length/\q<=vs.length/\i=.int .i64 (q:Int)/\Hid (FZ (l.drop q) (vs.drop q)=r0)/\AA6 w wr) (fun i _=>l.length-(intOf i).toNat);exact⟨0,AY,AY,rfl,hf,AL⟩;obtain⟨q,hq,hq2,rfl,hf,hb⟩:=hrel;replace hf:=hf.out;by_cases hend:q=l.length
 ·subst hend;rw[List.drop_length]at hf;by_cases Wp:l.length=vs.length
  ·rw[show vs.drop l.length=[] by rw[Wp,List.drop_length]]at hf;replace hf:true=r0:=hf;subst hf;have yF:((l.length:Int)==(vs.length:Int))=true:=(by simp[Wp]);rw[<-Wp]at yF;rw[<-Wp];go_wp2;go_ret;exact⟨rfl,hb⟩
  ·have hd:FZ [] (vs.drop l.length)=false:=by
    rw[J3];simp;omega
   rw[hd]at hf;subst hf;have yF:((l.length:Int)==(vs.length:Int))=false:=by
    rw[beq_eq_false_iff_ne];omega
   have AJk:¬l.length=vs.length:=Wp;go_wp2;go_ret;exact⟨rfl,hb⟩
 ·have hlt:q<l.length:=by omega
  have A8:(q:Int)<l.length:=by omega
  obtain⟨a,rfl,c0,-⟩:=hl q l[q] (by simp[hlt]);rw[Nat.mul_one]at c0;replace c0:=AA (AB ha hb) c0;have hdr:=(Below.refl wr.heap.size wr).drew;by_cases Wp:q=vs.length
  ·have hd:FZ (l.drop q) (vs.drop q)=false:=by
    rw[J3];simp;omega
   rw[hd]at hf;subst hf;have h3:¬(q:Int)<vs.length:=(by omega);have h3b:decide ((vs.length:Int)<=(q:Int))=true:=decide_eq_true (by omega);have h3c:(vs.length:Int)<=q:=(by omega);have h3d:vs.length<=q:=(by omega);go_wp2;refine AO (S:=fun _ v=>AA6 wr v) rfl (by kernel_rfl) hdr ?_;(iterate 17(first|(apply Ab.z rfl;intro L w1 _ _ _ z hK;go_simp;exact hK (z.s);rfl)|(refine Ab.skip rfl (fun L w1 hS hi=>(hS)) ?_;(try simp only[pE]))));refine Ab.nil fun w4 Bb=>?_;have hb5:=AB hb Bb;go_wp2;go_ret;exact⟨rfl,hb5⟩
  ·have hlt2:q<vs.length:=(by omega);have AGj:(q:Int)<vs.length:=(by omega);have h3b:decide ((vs.length:Int)<=(q:Int))=false:=decide_eq_false (by omega);have h3c:¬(vs.length:Int)<=q:=(by omega);have h3d:¬vs.length<=q:=(by omega);rw[List.drop_eq_getElem_cons hlt,List.drop_eq_getElem_cons hlt2,FZ]at hf;obtain⟨b,rfl,-,d1,-⟩:=hv q vs[q] (by simp[hlt2]);replace d1:=AA (AB h9 hb) d1;generalize l[q]=s at*;generalize vs[q]=y at*;have hF:=fun v=>Gt s y.t v;generalize Du s y.t=kk at*;replace hf:=Wx hf;go_wp2;refine AO (S:=fun _ v=>AA6 wr v) rfl (by kernel_rfl) hdr ?_;(iterate 17(first|(apply Ab.z rfl;intro L w1 _ _ _ z hK;(replace c0:=AA z.s c0;replace d1:=AA z.s d1);go_simp;exact hK (z.s);rfl)|(apply Ab.y rfl;intro L w1 _ _ z hK;go_simp;go_wp2_with((refine(hF _).mono ?_;rintro e w2 ⟨rfl,rfl⟩));(try simp only[pE]);exact hK.out _ (z.s);rfl)));refine Ab.nil fun w4 Bb=>?_;have hb5:=AB hb Bb;replace hf:=hf.out;cases kk
   ·replace hf:false=r0:=hf;subst hf;go_wp2;go_ret;exact⟨rfl,hb5⟩
   ·rw[Bool.true_and]at hf;replace hf:=Wx hf;go_wp2;go_roundw;exact⟨q+1,by omega,by omega,by go_num,hf,hb5⟩;simp[intOf];omega
section
def VT(i:Is):Prop:=(∀a∈i.as,Bo a.n)/\(∀f∈i.fr,Bo f.i/\∀b∈f.vs,Bo b.a.n)/\∀o∈i.ob,∀a∈o.vs,Bo a.n
structure Jd(w:World)(B xb:Nat)(cs:List Value)(T:TypeId)(w1:World):Prop where
 k:Kp 5 B w w1
 x:Ni w1 xb cs T
section
variable {w w1 w2 : World} {B C xb n : Nat} {cs : List Value} {T e : TypeId} {v : Value}
theorem Kp.old(h:Kp e B w w1)(hb:Below w.heap.size w1 w2)(hB:B<=w.heap.size):Kp e B w w2:=⟨h.b.trans (hb.mono hB),fun r hr hn=>by
 rw[hb.block r hr]
 exact h.k r hr hn⟩
theorem Jd.next(h:Jd w B xb cs T w1)(hB:B<=w.heap.size)(hb:AA6 w1 w2):Jd w B xb cs T w2:=⟨h.k.nx hB hb,h.x.nx hb⟩
theorem Jd.al(h:Jd w B xb cs T w1)(hB:B<=w.heap.size)(o:Obj):Jd w B xb cs T (w1.alloc o):=h.next hB (AJ _ o)
theorem Jd.str(h:Jd w B xb cs T w1)(hB:B<=w.heap.size)(hk:Kp 9 w.heap.size w1 w2)(hT:T≠9):Jd w B xb cs T w2:=⟨h.k.old hk.b hB,h.x.kp hk hT⟩
theorem Jd.u8(h:Jd w B xb cs T w1)(hk:Kp 5 B w1 w2)(hT:T≠5):Jd w B xb cs T w2:=⟨h.k.trans hk,h.x.kp hk hT⟩
theorem Jd.sz(h:Jd w B xb cs T w1):w.heap.size<=w1.heap.size:=h.k.b.size
theorem BU.str(h:BU w B v n)(hk:Kp 9 C w w1):BU w1 B v n:=by
 obtain⟨bs,h1,h2⟩:=h;exact⟨bs,h1,hk.row h2 (by decide)⟩
end
theorem DZ(a b:ByteArray):lens [a,b]=a.size+b.size+2:=by simp[lens,Aj];omega
theorem YE(a b c d:ByteArray):lens [a,b,c,d]=a.size+b.size+c.size+d.size+4:=by simp[lens,Aj];omega
theorem Rv(l:List Ag):En l+l.length<=100*JF l:=by
 induction l with
 |nil=>exact AQ
 |cons a r ih=>
  unfold En JF at*;simp only[Aj,List.length_cons];omega
theorem YF(l:List Ag)(q:Nat):En (l.take q)+En (l.drop q)=En l:=by
 unfold En;rw[<-D5,List.take_append_drop]
theorem Row.cut{α:Type}{E:World->Addr->α->Prop}{sz c:Nat}{p:Option Addr}{l:List α}(h:Row E sz w (.slice p n c) l){k:Nat}(hk:k<=l.length):Row E sz w (.slice p k c) (l.take k):=by
 obtain⟨p',c',e,h0,⟨h1,h2⟩,hl⟩:=h;obtain⟨rfl,rfl,rfl⟩:p=p'/\n=l.length/\c=c':=by simpa using e
 have hlen:(l.take k).length=k:=by simp;omega
 refine⟨p,c,by rw[hlen],fun e=>⟨by have:=(h0 e).1;omega,(h0 e).2⟩,⟨by omega,by omega⟩,fun i x hx=>hl i x ?_⟩;grind
theorem add_add(a:Addr)(m n:Nat):(a.add m).add n=a.add (m+n):=by
 obtain⟨g,o,s⟩:=a;by_cases hm:m=0
 ·subst hm;simp[Addr.add]
 ·by_cases hn:n=0
  ·subst hn;simp[Addr.add]
  ·have:m+n≠0:=(by omega);simp[Addr.add,hm,hn,Nat.add_assoc]
theorem Row.tail{α:Type}{E:World->Addr->α->Prop}{sz c m:Nat}{a b:Addr}{l:List α}(h:Row E sz w (.slice (some a) n c) l){k:Nat}(hk:k<=l.length)(hm:l.length-k<=m)(hb:k<l.length->b=a.add (k*sz)):Row E sz w (.slice (some b) (l.length-k) m) (l.drop k):=by grind [Row,add_add]
theorem fC{r:Option Fm}{e:Ending}(h:aA r e):∃(s:ByteArray) (d nn:Bool) (l m:Int) (ok:Bool),s.size<=10/\e=.returned (.tuple #[.agg #[.string s,.bool d,.bool nn,.int .i64 l,.int .i64 m],.bool ok]):=by
 cases r with
 |none=>exact⟨_,_,_,_,_,_,AY,h⟩
 |some f=>
  obtain⟨s,hs,h⟩:=h;exact⟨_,_,_,_,_,_,hs,h⟩
theorem YH(h0:AA6 w0 w)(hW:Words w0){vx u1 u2 u3:Value}{x:Is}(hv:BU w B v n)(hx:Pv w0 vx x u1 u2 u3)(hr:VT x)(hB:B<=w.heap.size)(hB0:w0.heap.size<=B)(hn:n+100*IJ x<=100000000):Calls prog 174 #[v,vx] w fun e w'=>∃v',e=.returned v'/\BU w' B v' (n+100*IJ x)/\Kp 5 B w w':=by
 obtain⟨rfl,⟨hz1,hz2⟩,hxa,mh,hxo⟩:=hx;have hcI:IJ x=1+x.d.size+x.fr.length+x.ob.length+x.n.size+JF x.as+Aj EW x.fr+Aj Fz x.ob:=rfl;have hlA:=Rv x.as;have h61:(⟨#[61]⟩:ByteArray).size=1:=rfl;have h97:(⟨#[97,116]⟩:ByteArray).size=2:=rfl;have AJw:(⟨#[111,98,106]⟩:ByteArray).size=3:=rfl;obtain⟨p0,m0,c0,rfl⟩:=hv.sl;have iw:=hxa;obtain⟨p1,k1,rfl,-,⟨hl1,hc1⟩,hxa⟩:=hxa;obtain⟨p2,k2,rfl,-,⟨hl2,hc2⟩,mh⟩:=mh;obtain⟨p3,k3,rfl,-,⟨hl3,hc3⟩,hxo⟩:=hxo;have hI:Jd w B w.heap.size [.int .i64 x.op,.string x.d,.string x.n,.slice p1 x.as.length k1,.slice p2 x.fr.length k2,.slice p3 x.ob.length k3] 133 _:=⟨Kp.of (AJ w _) hB,Ni.new w _ _⟩;have hO:=JV x.op _ (hW.kp (h0.trans (hI.k.b.mono hB0)));go_enter func174,ntmps174;go_wp2_with fail;refine hO.mono ?_;rintro e w1 ⟨hb1,ho⟩;obtain⟨wd,fd,fn,fl,fm,ok,hwd,rfl⟩:=fC ho;have hbw:=AB (AJ w _) hb1;have uy:=hv.nx (hbw.alloc hbw.size (.cells #[.string wd,.bool fd,.bool fn,.int .i64 fl,.int .i64 fm] 261));replace hI:=(hI.next hB hb1).al hB (.cells #[.string wd,.bool fd,.bool fn,.int .i64 fl,.int .i64 fm] 261);have hF:=Ni.new w1 [.string wd,.bool fd,.bool fn,.int .i64 fl,.int .i64 fm] 261;go_upto_if 19 with fail;generalize hW1:w1.alloc _=W at*;generalize w1.heap.size=fb at*;go_cut[7]from 20 to 24 (fun v wx=>Ce wx w.heap.size v (x.d.size+3)/\Jd w B w.heap.size [.int .i64 x.op,.string x.d,.string x.n,.slice p1 x.as.length k1,.slice p2 x.fr.length k2,.slice p3 x.ob.length k3] 133 wx/\Ni wx fb [.string wd,.bool fd,.bool fn,.int .i64 fl,.int .i64 fm] 261/\BU wx B (.slice p0 m0 c0) n)
 ·cases fd
  ·go_wp2;go_meet;exact⟨Ce.nil.up (AY),hI,hF,uy⟩
  ·have t1:=hI.x.b.c 1 _ rfl;(go_wp2_with(at_builtin;refine Fh rfl _ _ rfl rfl (Ce.nil (w:=W.alloc (.cells #[.string x.d,.string ⟨#[61]⟩] 9)) (B:=w.heap.size)) [x.d,⟨#[61]⟩] _ rfl (Ae.alloc _ _ _) (by rw[DZ];omega) (hI.al hB _).sz ?_;intro v' w3 hv3 hk3;obtain⟨p3,m3,c3,rfl⟩:=hv3.sl));go_meet;exact⟨hv3.up (by rw[DZ];omega),(hI.al hB _).str hB hk3 (by decide),(hF.al _).kp hk3 (by decide),(uy.nx (AJ _ _)).str hk3⟩
 obtain⟨hS,hI,hF,uy⟩:=hcut;obtain⟨ps,ms,cs,rfl⟩:=hS.sl;have t1:=hF.b.c 0 _ rfl;have t2:=hI.x.b.c 0 _ rfl;have hS1:=hS.nx (AJ wc (.cells #[.string wd] 9));go_upto_region 6 with(at_builtin;refine Fh rfl _ _ rfl rfl hS1 [wd] _ rfl (Ae.alloc _ _ _) (by rw[Aw];omega) (hI.al hB _).sz ?_;intro v' w3 hv3 hk3;obtain⟨pr,mr,cr,rfl⟩:=hv3.sl)
 have PW:=(hI.al hB _).str hB hk3 (by decide);have qB:=(hF.al _).kp hk3 (by decide);have hv4:=(uy.nx (AJ _ _)).str hk3;go_cut[43]from 30 to 43 (fun c wx=>∃b:Bool,c=.bool b/\(b=true->0<x.as.length)/\wx=w3)
 ·obtain⟨t0,-,-,t3⟩:=PW.x.b.c4;have hl2:∃b,decide (0<(x.as.length:Int))=b/\decide (0<x.as.length)=b/\(b=true->0<x.as.length):=⟨decide (0<x.as.length),by simp,rfl,BK⟩;obtain⟨b,hl3,hl4,hl5⟩:=hl2
  cases h26:(x.op==26)with
  |true=>
   go_wp2;go_meet
   exact⟨_,rfl,hl5,rfl⟩
  |false=>
   cases h27:(x.op==27)with
   |true=>
    go_wp2;go_meet
    exact⟨_,rfl,hl5,rfl⟩
   |false=>
    go_wp2;go_meet;exact⟨_,rfl,(fun h=>by simp at h),rfl⟩
 obtain⟨b,rfl,hb,rfl⟩:=hcut;obtain⟨w5,rfl⟩:=again wc;go_upto_if 43 with fail;have hgo:∀(v u:Value) (l:List Ag) (m:Nat) (w6:World),Jd w B w.heap.size [.int .i64 x.op,.string x.d,.string x.n,.slice p1 x.as.length k1,.slice p2 x.fr.length k2,.slice p3 x.ob.length k3] 133 w6->BU w6 B (.slice p0 m0 c0) n->Ce w6 w.heap.size v m->Row Lg 3 w0 u l->(∀a∈l,Bo a.n)->m+En l<=100000000->
   Calls prog 218 #[v,u] w6 fun e w7=>∃p7 m7 c7,e=.returned (.slice p7 m7 c7)/\Ce w7 w.heap.size (.slice p7 m7 c7) (m+En l)/\Jd w B w.heap.size [.int .i64 x.op,.string x.d,.string x.n,.slice p1 x.as.length k1,.slice p2 x.fr.length k2,.slice p3 x.ob.length k3] 133 w7/\BU w7 B (.slice p0 m0 c0) n:=fun v u l m w6 g1 g2 g3 g4 g5 g6=>
  (Ow (h0.trans (g1.k.b.mono hB0)) g3 g4 g5 g1.sz (AX hB0 hB) g6).mono fun e w7 ⟨v',e1,e2,e3⟩=>by
   obtain⟨p7,m7,c7,rfl⟩:=e2.sl;exact⟨p7,m7,c7,e1,e2,g1.str hB e3 (by decide),g2.str e3⟩
 go_cut[7]from 44 to 69 (fun v wx=>Ce wx w.heap.size v (x.d.size+16+x.n.size+En x.as)/\Jd w B w.heap.size [.int .i64 x.op,.string x.d,.string x.n,.slice p1 x.as.length k1,.slice p2 x.fr.length k2,.slice p3 x.ob.length k3] 133 wx/\BU wx B (.slice p0 m0 c0) n)
 ·have t3:=PW.x.b.c 3 _ rfl;cases b
  ·have t2:=qB.b.c 2 _ rfl;cases fn
   ·go_wp2_with fail;refine(hgo _ _ _ _ _ PW hv4 hv3 iw hr.1 (by rw[Aw];omega)).mono ?_;rintro e w7 ⟨p7,m7,c7,rfl,g1,g2,g3⟩;go_wp2;go_meet;exact⟨g1.up (by rw[Aw];omega),g2,g3⟩
   ·have t4:=PW.x.b.c 2 _ rfl;have hS1:=hv3.nx (AJ w5 (.cells #[.string x.n] 9));(go_upto_region 12 with(at_builtin;refine Fh rfl _ _ rfl rfl hS1 [x.n] _ rfl (Ae.alloc _ _ _) (by rw[Aw,Aw];omega) (PW.al hB _).sz ?_;intro v' w6 hv6 wJ;obtain⟨p6,m6,c6,rfl⟩:=hv6.sl));have Yx:=(PW.al hB _).str hB wJ (by decide);have t3:=Yx.x.b.c 3 _ rfl;have hv7:=(hv4.nx (AJ _ _)).str wJ;go_wp2_with fail;refine(hgo _ _ _ _ _ Yx hv7 hv6 iw hr.1 (by rw[Aw,Aw];omega)).mono ?_;rintro e w7 ⟨p7,m7,c7,rfl,g1,g2,g3⟩;go_wp2;go_meet;exact⟨g1.up (by rw[Aw,Aw];omega),g2,g3⟩
  ·have hpos:=hb rfl;obtain⟨a1,rfl,-⟩:=hxa 0 x.as[0] (by simp[hpos]);have hcut:=YF x.as 1;go_wp2_with fail;refine(hgo _ _ _ _ _ PW hv4 hv3 (iw.cut (k:=1) (by omega)) (fun a ha=>hr.1 a (List.mem_of_mem_take ha)) (by rw[Aw];omega)).mono ?_;rintro e w6 ⟨p6,m6,c6,rfl,hv6,Yx,hv7⟩;have t4:=Yx.x.b.c 2 _ rfl;have hS1:=hv6.nx (AJ w6 (.cells #[.string x.n] 9));(go_upto_region 9 with(at_builtin;refine Fh rfl _ _ rfl rfl hS1 [x.n] _ rfl (Ae.alloc _ _ _) (by rw[Aw,Aw];omega) (Yx.al hB _).sz ?_;intro v' w8 hv8 hk8;obtain⟨p8,m8,c8,rfl⟩:=hv8.sl));have hI8:=(Yx.al hB _).str hB hk8 (by decide);have t3:=hI8.x.b.c 3 _ rfl;have QX:=(hv7.nx (AJ _ _)).str hk8;have AGe:(0:Int)<x.as.length:=(by omega);have hl2:∀(b:Addr) (m:Nat),x.as.length-1<=m->(1<x.as.length->b=a1.add (1*3))->Row Lg 3 w0 (.slice (some b) (x.as.length-1) m) (x.as.drop 1):=fun b m h1 h2=>iw.tail (by omega) h1 h2;go_wp2_with fail
   ·obtain rfl:k1=1:=(by omega);refine(hgo _ _ _ _ _ hI8 QX hv8 (hl2 _ _ (by omega) fun _=>by omega) (fun a ha=>hr.1 a (List.mem_of_mem_drop ha)) (by rw[Aw,Aw];omega)).mono ?_;rintro e w7 ⟨p7,m7,c7,rfl,g1,g2,g3⟩;go_wp2;go_meet;exact⟨g1.up (by rw[Aw,Aw];omega),g2,g3⟩
   ·refine(hgo _ _ _ _ _ hI8 QX hv8 (hl2 _ _ (by omega) fun _=>by simp[Addr.add]) (fun a ha=>hr.1 a (List.mem_of_mem_drop ha)) (by rw[Aw,Aw];omega)).mono ?_;rintro e w7 ⟨p7,m7,c7,rfl,g1,g2,g3⟩;go_wp2;go_meet;exact⟨g1.up (by rw[Aw,Aw];omega),g2,g3⟩
 obtain⟨hS,hI,hv⟩:=hcut;obtain⟨ps,ms,cs,rfl⟩:=hS.sl;obtain⟨M,hM⟩:∃M,M=n+100*(1+x.d.size+x.n.size+JF x.as):=⟨_,rfl⟩;go_wp2_with fail;obtain⟨lw,Sy,hll⟩:=hS.ws;refine(Cx hv Sy (AX hB hI.sz) (by omega)).mono ?_;rintro e w2 ⟨v2,rfl,hv2,hk2⟩;replace hI:=hI.u8 hk2 (by decide);replace hv2:=hv2.up (k:=M) (by omega);obtain⟨pv,mv,cv,rfl⟩:=hv2.sl;have hnM:M+100*(x.fr.length+Aj EW x.fr)+100*(x.ob.length+Aj Fz x.ob)=n+100*IJ x:=by omega
 go_wp2;go_loopw[0,8,9,10] (fun v i _ _ wr=>∃q:Nat,q<=x.fr.length/\i=.int .i64 (q:Int)/\BU wr B v (M+100*(q+Aj EW (x.fr.take q)))/\Jd w B w.heap.size [.int .i64 x.op,.string x.d,.string x.n,.slice p1 x.as.length k1,.slice p2 x.fr.length k2,.slice p3 x.ob.length k3] 133 wr) (fun _ i _ _ _=>x.fr.length-(intOf i).toNat);exact⟨0,AY,rfl,hv2.up (by omega),hI⟩;obtain⟨q,hq,rfl,hv,hI⟩:=hrel;obtain⟨pv,mv,cv,rfl⟩:=hv.sl;obtain⟨wo,rfl⟩:=again wr;by_cases hend:q=x.fr.length
 ·subst hend;rw[List.take_length]at hv;have b4:=hI.x.b.c 4 _ rfl;replace hxo:=Wx hxo;go_wp2;go_loopw[0,11] (fun v i wr=>∃q:Nat,q<=x.ob.length/\i=.int .i64 (q:Int)/\BU wr B v (M+100*(x.fr.length+Aj EW x.fr)+100*(q+Aj Fz (x.ob.take q)))/\Jd w B w.heap.size [.int .i64 x.op,.string x.d,.string x.n,.slice p1 x.as.length k1,.slice p2 x.fr.length k2,.slice p3 x.ob.length k3] 133 wr) (fun _ i _=>x.ob.length-(intOf i).toNat);exact⟨0,AY,rfl,hv.up (by omega),hI⟩;obtain⟨q,hq,rfl,hv,hI⟩:=hrel;obtain⟨pv,mv,cv,rfl⟩:=hv.sl;have b5:=hI.x.b.c 5 _ rfl;by_cases hend:q=x.ob.length
  ·subst hend;rw[List.take_length]at hv;go_wp2;go_ret;exact⟨_,rfl,hv.up (by omega),hI.k⟩
  ·have hlt:q<x.ob.length:=(by omega);have A8:(q:Int)<x.ob.length:=(by omega);obtain⟨a,rfl,⟨d0,y0⟩,uf,d1,hvf⟩:=hxo.out q x.ob[q] (by simp[hlt]);have qL:=hvf;obtain⟨pq,kq,rfl,-⟩:=hvf;have hsum:=BD Fz hlt;have J7:Fz x.ob[q]=x.ob[q].c.size+JF x.ob[q].vs:=rfl;have hle:=D5 Fz (x.ob.take (q+1)) (x.ob.drop (q+1));rw[List.take_append_drop]at hle;have hrv:=hr.2.2 x.ob[q] (List.getElem_mem hlt);have hla:=Rv x.ob[q].vs;generalize x.ob[q]=y at*;have hw:=fun v (hv:Jd w B w.heap.size [.int .i64 x.op,.string x.d,.string x.n,.slice p1 x.as.length k1,.slice p2 x.fr.length k2,.slice (some a) x.ob.length k3] 133 v)=>h0.trans (hv.k.b.mono hB0);have hId:=hI.next hB (Below.refl wr.heap.size wr).drew;generalize hN0:M+100*(x.fr.length+Aj EW x.fr)+100*(q+Aj Fz (x.ob.take q))=N0 at*;go_wp2
   refine AV (S:=GC (fun v1=>Jd w B w.heap.size [.int .i64 x.op,.string x.d,.string x.n,.slice p1 x.as.length k1,.slice p2 x.fr.length k2,.slice (some a) x.ob.length k3] 133 v1/\BU v1 B (.slice pv mv cv) N0) (R2 7 14 (fun v v1=>(∃p m c,v=.slice p m c)/\Ce v1 w.heap.size v (5+y.c.size)) (R1 14 15 (fun v v1=>(∃p m c,v=.slice p m c)/\Ce v1 w.heap.size v (5+y.c.size+En y.vs)))) 15
    (fun v v1=>(∃p m c,v=.slice p m c)/\BU v1 B v (M+100*(x.fr.length+Aj EW x.fr)+100*(q+1+Aj Fz (x.ob.take (q+1))))/\Jd w B w.heap.size [.int .i64 x.op,.string x.d,.string x.n,.slice p1 x.as.length k1,.slice p2 x.fr.length k2,.slice (some a) x.ob.length k3] 133 v1)) rfl (by kernel_rfl) (GC.start ⟨hId,hv.nx (Below.refl wr.heap.size wr).drew⟩) ?_
   (iterate 7((apply AU.z rfl;intro V L w1 _ _ _ z hK;(try(have hc:=z.f 15 (by kernel_rfl);have hI:=z.s.k hc;(have b5:=hI.1.x.b.c 5 _ rfl;have e0:=AA (hw _ hI.1) d0;have e1:=AA (hw _ hI.1) d1)));go_simp;exact hK (z.s.keep rfl rfl);intros;rfl)));refine AU.free (fun _=>rfl) (fun V L w1 K' Q' hS hi hR hd hK=>?_) ?_
   ·have yG:=hR.out 14 7 (by kernel_rfl) hi;have hc:=hR.out 15 14 (by kernel_rfl) yG;have hI:=hS.k hc;have hb:=AJ w1 (.cells #[.string ⟨#[111,98,106]⟩,.string y.c] 9);have hN:=Ce.new (B:=w.heap.size) w1 hI.1.sz [⟨#[111,98,106]⟩,y.c] (show 2<=maxLen by decide);go_simp;exact hK.out _ _ rfl (hS.made (CO (fun h=>absurd rfl h) (Cv fun _ _ h=>absurd h (by rw[yG];decide))) ⟨hI.1.next hB hb,hI.2.nx hb⟩ hc rfl ⟨⟨_,_,_,rfl⟩,hN.up (by rw[DZ];omega)⟩ rfl)
   (try simp only[pE]);(iterate 6((apply AU.z rfl;intro V L w1 _ _ _ z hK;(try(have hc:=z.f 15 (by kernel_rfl);have hI:=z.s.k hc;(have b5:=hI.1.x.b.c 5 _ rfl;have e0:=AA (hw _ hI.1) d0;have e1:=AA (hw _ hI.1) d1)));go_simp;exact hK (z.s.keep rfl rfl);intros;rfl)));refine AU.free (fun _=>rfl) (fun V L w1 K' Q' hS hi hR hd hK=>?_) ?_
   ·have hc:=hR.out 15 14 (by kernel_rfl) hi;obtain⟨⟨p5,m5,c5,hp⟩,hx⟩:=hS.val hc rfl (hd.out 7 (by kernel_rfl)) hi;have hI:=hS.k hc;rw[hp]at hx;simp only[hp];go_simp;(go_wp2_with(refine(Ow (hw _ hI.1) hx qL hrv hI.1.sz (AX hB0 hB) (by omega)).mono ?_;rintro e w2 ⟨v',rfl,h1,h2⟩));obtain⟨p6,m6,c6,rfl⟩:=h1.sl;exact hK.out _ _ (by simp only[hp];rfl) (hS.made (CO (fun _ h=>absurd rfl h) (Cv fun h=>absurd rfl h)) ⟨hI.1.str hB h2 (by decide),hI.2.str h2⟩ hc rfl ⟨⟨_,_,_,rfl⟩,h1⟩ rfl)
   (try simp only[pE]);refine AU.free (fun _=>rfl) (fun V L w1 K' Q' hS hi hR hd hK=>?_) ?_
   ·obtain⟨⟨p5,m5,c5,hp⟩,hx⟩:=hS.val hi rfl (hd.out 14 (by kernel_rfl)) hi;have hI:=hS.k hi;rw[hp]at hx;obtain⟨lw,Sy,hll⟩:=hx.ws;simp only[hp];go_simp;(go_wp2_with(refine(Cx hI.2 Sy (AX hB hI.1.sz) (by omega)).mono ?_;rintro e w2 ⟨v',rfl,h1,h2⟩));obtain⟨p6,m6,c6,rfl⟩:=h1.sl;exact hK.out _ _ (by simp only[hp];rfl) (GC.call ⟨⟨_,_,_,rfl⟩,h1.up (by omega),hI.1.u8 h2 (by decide)⟩)
   (try simp only[pE]);((refine AU.step (a1:=?_) (fun _=>rfl) (fun V L w1 K' Q' hS hi hR hd hK=>?_) ?_ ?_ ?_;rotate_left);(· (go_simp;(try simp only[pE]);exact hK.out _ (hS.keep rfl rfl)));(· (intro V;rfl));(· (exact fun L V V' Kt hl hv=>hv (15) (Classical.byContradiction fun h=>by have:=Kt (16) (15) (by kernel_rfl) (by simpa using h);rw[hl]at this;cases this))));refine AU.nil fun V w3 hS=>?_;obtain⟨⟨p5,m5,c5,GX⟩,LW,Pf⟩:=hS.done rfl;rw[GX]at LW;simp only[GX];go_wp2;go_roundw;exact⟨q+1,by omega,by go_num,LW,Pf⟩;simp[intOf];omega
 ·have hlt:q<x.fr.length:=by omega
  have A8:(q:Int)<x.fr.length:=by omega
  obtain⟨a,rfl,⟨d0,y0⟩,⟨d1,y1⟩,d2,uf,d3,hvf⟩:=mh q x.fr[q] (by simp[hlt]);obtain⟨pq,kq,rfl,-,⟨hq1,hq2⟩,hvs⟩:=hvf;have hsum:=BD EW hlt;have J7:EW x.fr[q]=x.fr[q].f.size+x.fr[q].b.size+Aj JL x.fr[q].vs:=rfl;have hle:=D5 EW (x.fr.take (q+1)) (x.fr.drop (q+1));rw[List.take_append_drop]at hle;obtain⟨hi,hrv⟩:=hr.2.1 x.fr[q] (List.getElem_mem hlt);have hP:=fun w=>KL hi w;generalize x.fr[q]=y at*;have hw:=fun v (hv:Jd w B w.heap.size [.int .i64 x.op,.string x.d,.string x.n,.slice p1 x.as.length k1,.slice (some a) x.fr.length k2,.slice p3 x.ob.length k3] 133 v)=>h0.trans (hv.k.b.mono hB0);have b4:=hI.x.b.c 4 _ rfl;have hId:=hI.next hB (Below.refl wo.heap.size wo).drew;go_wp2
  refine AV (S:=GC (fun v1=>Jd w B w.heap.size [.int .i64 x.op,.string x.d,.string x.n,.slice p1 x.as.length k1,.slice (some a) x.fr.length k2,.slice p3 x.ob.length k3] 133 v1/\BU v1 B (.slice pv mv cv) (M+100*(q+Aj EW (x.fr.take q)))) (R1 18 19 (fun v _=>∃t:ByteArray,v=.string t/\t.size<=20)) 19
   (fun v v1=>(∃pb,v=.slice (some ⟨pb,0,none⟩) 4 4)/\Ce v1 w.heap.size v (28+y.f.size+y.b.size)/\BU v1 B (.slice pv mv cv) (M+100*(q+Aj EW (x.fr.take q)))/\Jd w B w.heap.size [.int .i64 x.op,.string x.d,.string x.n,.slice p1 x.as.length k1,.slice (some a) x.fr.length k2,.slice p3 x.ob.length k3] 133 v1)) rfl (by kernel_rfl) (GC.start ⟨hId,hv.nx (Below.refl wo.heap.size wo).drew⟩) ?_
  iterate 18((apply AU.z rfl;intro V L w1 _ _ _ z hK;(try(have hc:=z.f 19 (by kernel_rfl);have hI:=z.s.k hc;(have b4:=hI.1.x.b.c 4 _ rfl;have e0:=AA (hw _ hI.1) d0;have e1:=AA (hw _ hI.1) d1;have e2:=AA (hw _ hI.1) d2)));go_simp;exact hK (z.s.keep rfl rfl);intros;rfl))
  refine AU.free (fun _=>rfl) (fun V L w1 K' Q' hS hi hR hd hK=>?_) ?_
  ·have hc:=hR.out.far (j:=19) (by kernel_rfl) hi;have hI:=hS.k hc;go_simp;(go_wp2_with(refine(hP _).mono ?_;rintro e w2 ⟨⟨t,rfl,ht⟩,hb⟩));exact hK.out _ _ rfl (hS.made (Cv fun h=>absurd rfl h) ⟨hI.1.next hB hb,hI.2.nx hb⟩ hc rfl ⟨t,rfl,ht⟩ rfl)
  (try simp only[pE]);refine AU.free (fun _=>rfl) (fun V L w1 K' Q' hS hi hR hd hK=>?_) ?_
  ·obtain⟨t,hp,ht⟩:=hS.val hi rfl (hd.out 18 (by kernel_rfl)) hi;have hI:=hS.k hi;simp only[hp];go_simp;have hN:=Ce.new (B:=w.heap.size) w1 hI.1.sz [⟨#[97,116]⟩,y.f,y.b,t] (show 4<=maxLen by decide);exact hK.out _ _ (by simp only[hp];rfl) (GC.call ⟨⟨_,rfl⟩,hN.up (by rw[YE];omega),hI.2.nx (AJ _ _),hI.1.al hB _⟩)
  (try simp only[pE]);((refine AU.step (a1:=?_) (fun _=>rfl) (fun V L w1 K' Q' hS hi hR hd hK=>?_) ?_ ?_ ?_;rotate_left);(· (go_simp;(try simp only[pE]);exact hK.out _ (hS.keep rfl rfl)));(· (intro V;rfl));(· (exact fun L V V' Kt hl hv=>hv (19) (Classical.byContradiction fun h=>by have:=Kt (20) (19) (by kernel_rfl) (by simpa using h);rw[hl]at this;cases this))));refine AU.nil fun V w3 hS=>?_;obtain⟨⟨pb,GX⟩,pG,hsO,hsI⟩:=hS.done rfl;rw[GX]at pG;simp only[GX];generalize hN1:28+y.f.size+y.b.size=N1 at*;generalize hN0:M+100*(q+Aj EW (x.fr.take q))=N0 at*;go_wp2;go_loopw[9,10] (fun v i wr=>∃j:Nat,j<=y.vs.length/\i=.int .i64 (j:Int)/\Ce wr w.heap.size v (N1+100*Aj JL (y.vs.take j))/\BU wr B (.slice pv mv cv) N0/\Jd w B w.heap.size [.int .i64 x.op,.string x.d,.string x.n,.slice p1 x.as.length k1,.slice (some a) x.fr.length k2,.slice p3 x.ob.length k3] 133 wr) (fun _ i _=>y.vs.length-(intOf i).toNat);exact⟨0,AY,rfl,pG.up (by omega),hsO,hsI⟩;obtain⟨j,hj,rfl,pG,hsO,hsI⟩:=hrel;obtain⟨ps,ms,cs,rfl⟩:=pG.sl;have e3:=AA (hw _ hsI) d3;have b4:=hsI.x.b.c 4 _ rfl;by_cases IZ:j=y.vs.length
  ·subst IZ;rw[List.take_length]at pG;obtain⟨lw,Sy,hll⟩:=pG.ws;go_wp2_with fail;refine(Cx hsO Sy (AX hB hsI.sz) (by omega)).mono ?_;rintro e w5 ⟨v5,rfl,hv5,hk5⟩;obtain⟨p5,m5,c5,rfl⟩:=hv5.sl;have TA:=hsI.u8 hk5 (by decide);go_wp2;go_roundw;exact⟨q+1,by omega,by go_num,hv5.up (by omega),TA⟩;simp[intOf];omega
  ·have hjt:j<y.vs.length:=(by omega);have hjI:(j:Int)<y.vs.length:=(by omega);obtain⟨a2,rfl,⟨f0,x0⟩,f1,⟨f2,x2⟩,f3⟩:=hvs j y.vs[j] (by simp[hjt]);have hs2:=BD JL hjt;have hcB:JL y.vs[j]=1+y.vs[j].n.size+y.vs[j].a.s.size:=rfl;have hle2:=D5 JL (y.vs.take (j+1)) (y.vs.drop (j+1));rw[List.take_append_drop]at hle2;have hA:=fun w=>MZ x2 (hrv y.vs[j] (List.getElem_mem hjt)) w;generalize y.vs[j]=z at*;have hId:=hsI.next hB (Below.refl wr.heap.size wr).drew;go_wp2
   refine AV (S:=GC (fun v1=>Jd w B w.heap.size [.int .i64 x.op,.string x.d,.string x.n,.slice p1 x.as.length k1,.slice (some a) x.fr.length k2,.slice p3 x.ob.length k3] 133 v1/\BU v1 B (.slice pv mv cv) N0/\Ce v1 w.heap.size (.slice ps ms cs) (N1+100*Aj JL (y.vs.take j))) (R2 21 22 (fun v _=>∃t:ByteArray,v=.string t/\t.size<=z.a.s.size+32) (R1 22 23 (fun v v1=>∃(t:ByteArray) (pb:Nat),t.size<=z.a.s.size+32/\v=.slice (some ⟨pb,0,none⟩) 2 2/\Ae v1 pb [.string z.n,.string t]))) 23
    (fun v v1=>∃p m c,v=.slice p m c/\Ce v1 w.heap.size v (N1+100*Aj JL (y.vs.take (j+1)))/\BU v1 B (.slice pv mv cv) N0/\Jd w B w.heap.size [.int .i64 x.op,.string x.d,.string x.n,.slice p1 x.as.length k1,.slice (some a) x.fr.length k2,.slice p3 x.ob.length k3] 133 v1)) rfl (by kernel_rfl) (GC.start ⟨hId,hsO.nx (Below.refl wr.heap.size wr).drew,pG.nx (Below.refl wr.heap.size wr).drew⟩) ?_
   (iterate 21((apply AU.z rfl;intro V L w1 _ _ _ z hK;(try(have hc:=z.f 23 (by kernel_rfl);have hI:=z.s.k hc;(have b4:=hI.1.x.b.c 4 _ rfl;have e3:=AA (hw _ hI.1) d3;have g0:=AA (hw _ hI.1) f0;have g1:=AA (hw _ hI.1) f1;have g2:=AA (hw _ hI.1) f2;have g3:=AA (hw _ hI.1) f3)));go_simp;exact hK (z.s.keep rfl rfl);intros;rfl)));refine AU.free (fun _=>rfl) (fun V L w1 K' Q' hS hi hR hd hK=>?_) ?_
   ·have hc:=hR.out.far (j:=23) (by kernel_rfl) hi;have h22:=hR.out 22 21 (by kernel_rfl) hi;have hI:=hS.k hc;go_simp;(go_wp2_with(refine(hA _).mono ?_;rintro e w2 ⟨⟨t,rfl,ht⟩,hb⟩));exact hK.out _ _ rfl (hS.made (CO (fun h=>absurd rfl h) (Cv fun _ _ h=>absurd h (by rw[h22];decide))) ⟨hI.1.next hB hb,hI.2.1.nx hb,hI.2.2.nx hb⟩ hc rfl ⟨t,rfl,ht⟩ rfl)
   (try simp only[pE]);refine AU.free (fun _=>rfl) (fun V L w1 K' Q' hS hi hR hd hK=>?_) ?_
   ·have hc:=hR.out 23 22 (by kernel_rfl) hi;obtain⟨t,hp,ht⟩:=hS.val hc rfl (hd.out 21 (by kernel_rfl)) hi;have hI:=hS.k hc;have hb:=AJ w1 (.cells #[.string z.n,.string t] 9);simp only[hp];go_simp;exact hK.out _ _ (by simp only[hp];rfl) (hS.made (CO (fun _ h=>absurd rfl h) (Cv fun h=>absurd rfl h)) ⟨hI.1.next hB hb,hI.2.1.nx hb,hI.2.2.nx hb⟩ hc rfl ⟨t,_,ht,rfl,Ae.alloc _ _ _⟩ rfl)
   (try simp only[pE]);refine AU.free (fun _=>rfl) (fun V L w1 K' Q' hS hi hR hd hK=>?_) ?_
   ·obtain⟨t,pb,ht,hp,hx⟩:=hS.val hi rfl (hd.out 22 (by kernel_rfl)) hi;have hI:=hS.k hi;refine Mc _ _ rfl rfl hI.2.2 [z.n,t] pb hp hx (by rw[DZ];omega) hI.1.sz (fun v' w' h1 h2=>?_);obtain⟨p5,m5,c5,rfl⟩:=h1.sl;exact hK.out _ _ rfl (GC.call ⟨_,_,_,rfl,h1.up (by rw[DZ];omega),hI.2.1.str h2,hI.1.str hB h2 (by decide)⟩)
   (try simp only[pE]);((refine AU.step (a1:=?_) (fun _=>rfl) (fun V L w1 K' Q' hS hi hR hd hK=>?_) ?_ ?_ ?_;rotate_left);(· (go_simp;(try simp only[pE]);exact hK.out _ (hS.keep rfl rfl)));(· (intro V;rfl));(· (exact fun L V V' Kt hl hv=>hv (23) (Classical.byContradiction fun h=>by have:=Kt (24) (23) (by kernel_rfl) (by simpa using h);rw[hl]at this;cases this))));refine AU.nil fun V w3 hS=>?_;obtain⟨p5,m5,c5,GX,ZM,LW,Pf⟩:=hS.done rfl;rw[GX]at ZM;simp only[GX];go_wp2;go_roundw;exact⟨j+1,by omega,by go_num,ZM,LW,Pf⟩;simp[intOf];omega
end
end Go.Proofs.YtlffomedflegdaaGreatDoor
