/- Part 41 of 49 of the proof: Rjs, Rjy, Rjd. -/
import Derived.Laws.AppendOwnNone
import Derived.Test.YtlffomedflegdaaGreatDoorPz00
import Derived.Test.YtlffomedflegdaaGreatDoorPz05
import Derived.Test.YtlffomedflegdaaGreatDoorPz07
import Derived.Test.YtlffomedflegdaaGreatDoorPz40
set_option linter.all false
set_option maxHeartbeats 16000000
set_option maxRecDepth 100000
namespace Go.Proofs.YtlffomedflegdaaGreatDoor
open Go.Proofs.Tryz
open Go.RowKit
variable {v:Value}{w:World}
section
abbrev rG(p:Pg):Prop:=∀f∈p.fs,f.ps.length<=30000/\f.vs.length<=30000
theorem sw:(prog.info? 71).map (fun i=>(i.zero,i.size,i.bytes))=some (some (.agg #[.string ⟨#[]⟩,.string ⟨#[]⟩]),2,32):=by kernel_rfl
def cN:Option Cl->ByteArray
 |some c=>c.n
 |none=>⟨#[]⟩
def cL:Option Cl->Nat
 |some c=>c.fs.length
 |none=>0
theorem rR.form{r:Option Cl}{e:Ending}(h:rR w r e):∃q c,e=.returned (.tuple #[.agg #[.string (cN r),.slice q (cL r) c],.bool r.isSome]):=by
 cases r with
 |none=>exact⟨none,0,h⟩
 |some c=>
  obtain⟨v,u,rfl,hv⟩:=h;obtain⟨q,k,rfl⟩:=hv.f.slice;exact⟨q,k,by rw[hv.e];rfl⟩
abbrev clT(n:ByteArray)(m:Nat)(ok:Bool)(q:Option Addr)(c:Nat):Value:=.tuple #[.agg #[.string n,.slice q m c],.bool ok]
def Pd(w0:World)(ca mv ex al:Nat)(n:ByteArray)(m:Nat)(ok:Bool)(V:Nat->Value)(L:Nat->Bool)(w1:World):Prop:=
 AA6 w0 w1/\(L ca=true->∃q c,V ca=clT n m ok q c)/\(L mv=true->∃q c,V mv=clT n m ok q c)/\(L ex=true->∃q c,V ex=.agg #[.string n,.slice q m c])/\
  (L al=true->∃p x y,V al=.pointer (some ⟨p,0,none⟩)/\w0.heap.size<=p/\p<w1.heap.size/\Ae w1 p [x,y])
section
variable {w0 w1 w2 : World} {ca mv ex al : Nat} {n : ByteArray} {m : Nat} {ok : Bool} {V : Nat -> Value} {L : Nat -> Bool}
theorem Pd.start{V:Nat->Value}(h:AA6 w0 w1):Pd w0 ca mv ex al n m ok V (fun _=>false) w1:=⟨h,(fun e=>by cases e),(fun e=>by cases e),(fun e=>by cases e),fun e=>by cases e⟩
theorem Pd.keep(h:Pd w0 ca mv ex al n m ok V L w1){i:Nat}(h1:(ca==i)=false)(h2:(mv==i)=false)(h3:(ex==i)=false)(h4:(al==i)=false):Pd w0 ca mv ex al n m ok V (upd L i) w1:=by
 unfold Pd;rw[upd_ne h1,upd_ne h2,upd_ne h3,upd_ne h4];exact h
theorem Pd.world(h:Pd w0 ca mv ex al n m ok V L w1)(hb:AA6 w1 w2):Pd w0 ca mv ex al n m ok V L w2:=by
 refine⟨AB h.1 hb,h.2.1,h.2.2.1,h.2.2.2.1,fun e=>?_⟩;obtain⟨p,x,y,h1,h2,h3,h4⟩:=h.2.2.2.2 e;exact⟨p,x,y,h1,h2,A9 h3 hb.size,h4.nx hb⟩
theorem Pd.put(h:Pd w0 ca mv ex al n m ok V L w1){i:Nat}(a1:ca=i->∃q c,v=clT n m ok q c)(a2:mv=i->∃q c,v=clT n m ok q c)(a3:ex=i->∃q c,v=.agg #[.string n,.slice q m c])(a4:al=i->∃p x y,v=.pointer (some ⟨p,0,none⟩)/\w0.heap.size<=p/\p<w1.heap.size/\Ae w1 p [x,y]):Pd w0 ca mv ex al n m ok (EB V i v) (upd L i) w1:=by
 refine⟨h.1,fun e=>?_,fun e=>?_,fun e=>?_,fun e=>?_⟩
 ·by_cases hi:ca=i
  ·rw[hi,BL];exact a1 hi
  ·rw[Br V v hi];rw[upd_ne (beq_false_of_ne hi)]at e;exact h.2.1 e
 ·by_cases hi:mv=i
  ·rw[hi,BL];exact a2 hi
  ·rw[Br V v hi];rw[upd_ne (beq_false_of_ne hi)]at e;exact h.2.2.1 e
 ·by_cases hi:ex=i
  ·rw[hi,BL];exact a3 hi
  ·rw[Br V v hi];rw[upd_ne (beq_false_of_ne hi)]at e;exact h.2.2.2.1 e
 ·by_cases hi:al=i
  ·rw[hi,BL];exact a4 hi
  ·rw[Br V v hi];rw[upd_ne (beq_false_of_ne hi)]at e;exact h.2.2.2.2 e
theorem Pd.fill(h:Pd w0 ca mv ex al n m ok V L w1){p:Nat}(hl:L al=true)(hp:V al=.pointer (some ⟨p,0,none⟩))(x y:Value):Pd w0 ca mv ex al n m ok V L ((w1.setCell ⟨p,0,none⟩ x).setCell ⟨p,1,none⟩ y):=by
 obtain⟨p',x',y',h1,h2,h3,h4⟩:=h.2.2.2.2 hl;rw[hp]at h1;obtain rfl:p=p':=by simpa using h1
 refine⟨(h.1.setCell (p:=⟨p,0,none⟩) h2 _).setCell (p:=⟨p,1,none⟩) h2 _,h.2.1,h.2.2.1,h.2.2.2.1,fun _=>⟨p,x,y,hp,h2,by simpa using h3,?_⟩⟩;exact(h4.set (i:=0) (by simp) x).set (i:=1) (by simp) y
end
end
theorem Ox(p:Pg)(t:ByteArray):Cg p t=(!Dq t||(Ai Cl.n t p.cs).isSome):=by
 unfold Cg Dq;by_cases h1:t=BA<;>by_cases h2:t=Ao<;>simp[h1,h2]
theorem M5(p:Pg)(l:List Vr):Dv p l=true↔(∀v∈l,Cg p v.t=true)/\(l.map Vr.n).Nodup:=by
 unfold Dv;rw[Bool.and_eq_true,List.all_eq_true,Ip];simp
theorem Hr{α:Type}{l:List α}{f:α->ByteArray}{q:Nat}(hq:q<l.length)(h:((l.take q).map f).Nodup)(hn:∀k,(h:k<q)->f l[k]≠f l[q]):((l.take (q+1)).map f).Nodup:=by
 rw[List.take_add_one,List.getElem?_eq_getElem hq];simp only[Option.toList_some,List.map_append,List.map_cons,List.map_nil];rw[List.nodup_append];refine⟨h,by simp,?_⟩;intro a ha b hb;obtain rfl:b=f l[q]:=by simpa using hb
 obtain⟨x,hx,rfl⟩:=List.mem_map.1 ha;obtain⟨i,hi,rfl⟩:=List.getElem_of_mem hx;simp only[List.length_take]at hi;rw[List.getElem_take];exact hn i (by omega)
theorem Jv{α:Type}{l:List α}{f:α->ByteArray}{k q:Nat}(hk:k<q)(hq:q<l.length)(h:f (l[k]'(by omega))=f l[q]):¬(l.map f).Nodup:=by
 intro hn;have h2:=List.pairwise_iff_getElem.1 hn k q (by simp;omega) (by simp;omega) hk;simp only[List.getElem_map]at h2;exact h2 h
theorem Ub{w0:World}(h0:AA6 w0 w){p:Pg}{u1 u2 u3 u4:Value}(hp:Cj w0 v p u1 u2 u3 u4){l:List Vr}{u:Value}{w9:World}(h9:AA6 w9 w)(hl:Row IU 2 w9 u l):Calls prog 125 #[v,u] w fun e w'=>e=.returned (.bool (Dv p l))/\AA6 w w':=by
 have hpv:=hp;obtain⟨rfl,-,-,-,-⟩:=hp;obtain⟨pl,kl,rfl,-,hn,hl⟩:=hl;have hC:=fun W (hW:AA6 w W) x=>Hq (AB h0 hW) hpv x;have hb1:=AJ w (.cells #[.bool p.ssa,u1,u2,u3,u4] 27);have hP:=Ae.alloc w [.bool p.ssa,u1,u2,u3,u4] 27;obtain⟨R,hR⟩:∃R,R=Dv p l:=⟨_,rfl⟩;rw[<-hR];have hR:=hidden hR;go_enter func125,ntmps125;go_wp2;go_loopw[5] (fun i wr=>∃q:Nat,q<=l.length/\i=.int .i64 (q:Int)/\AA6 w wr/\Ae wr w.heap.size [.bool p.ssa,u1,u2,u3,u4]/\(∀k,(h:k<l.length)->k<q->Cg p l[k].t=true)/\((l.take q).map Vr.n).Nodup) (fun i _=>l.length-(intOf i).toNat);exact⟨0,AY,rfl,hb1,hP,fun k _ h=>by omega,by simp⟩;obtain⟨q,hq,rfl,hb,hP,hK,hN⟩:=hrel;by_cases hend:q=l.length
 ·subst hend;have hR2:R=true:=by
   rw[hR.out,M5];refine⟨fun v hv=>?_,by simpa using hN⟩;obtain⟨k,hk,rfl⟩:=List.getElem_of_mem hv;exact hK k hk hk
  go_wp2;go_ret;exact⟨by rw[hR2];rfl,hb⟩
 ·have hlt:q<l.length:=by omega
  have A8:(q:Int)<l.length:=by omega
  obtain⟨a,rfl,⟨c0,z0⟩,c1,z1⟩:=hl q l[q] (by simp[hlt]);have hk9:=AB h9 hb;replace c0:=AA hk9 c0;replace c1:=AA hk9 c1;have hCx:=fun W (hW:AA6 wr W)=>hC W (AB hb hW) l[q].t;have wT:=fun W=>Ii l[q].t W;have hkn:=Ox p l[q].t;generalize(Ai Cl.n l[q].t p.cs)=r at*;generalize Dq l[q].t=rf at*;have hdr:=(Below.refl wr.heap.size wr).drew;go_wp2_with fail;refine AV (S:=Pd wr 6 7 8 10 (cN r) (cL r) r.isSome) rfl (by kernel_rfl) (Pd.start hdr) ?_;iterate 6((apply AU.z rfl;intro V L w1 _ _ _ z hK;(have hB:=hP.nx z.s.1;obtain⟨q0,q1,q2,q3,q4⟩:=hB.c5;have c1:=AA z.s.1 c1);go_simp;exact hK (z.s.keep rfl rfl rfl rfl);intros;rfl))
  refine AU.free (fun _=>rfl) (fun V L w1 K' Q' hS hi hR' hd hK=>?_) ?_
  ·go_simp;(go_wp2_with(go_at_call 94;refine(hCx _ hS.1).mono ?_;rintro e w2 ⟨hb,ho⟩;obtain⟨q2,c2,rfl⟩:=ho.form));(try simp only[pE]);exact hK.out _ _ rfl ((hS.world hb).put (fun _=>⟨_,_,rfl⟩) (fun e=>absurd e (by decide)) (fun e=>absurd e (by decide)) (fun e=>absurd e (by decide)))
  (try simp only[pE]);refine AU.free (fun _=>rfl) (fun V L w1 K' Q' hS hi hR' hd hK=>?_) ?_
  ·obtain⟨q2,c2,hV⟩:=hS.2.1 (hd.out 6 (by kernel_rfl));simp only[hV];go_simp;(try simp only[pE]);exact hK.out _ _ (by simp only[hV];rfl) (hS.put (fun e=>absurd e (by decide)) (fun _=>⟨_,_,rfl⟩) (fun e=>absurd e (by decide)) (fun e=>absurd e (by decide)))
  (try simp only[pE]);refine AU.free (fun _=>rfl) (fun V L w1 K' Q' hS hi hR' hd hK=>?_) ?_
  ·obtain⟨q2,c2,hV⟩:=hS.2.2.1 (hd.out 7 (by kernel_rfl));simp only[hV];go_simp;(try simp only[pE]);exact hK.out _ _ (by simp only[hV];rfl) (hS.put (fun e=>absurd e (by decide)) (fun e=>absurd e (by decide)) (fun _=>⟨_,_,rfl⟩) (fun e=>absurd e (by decide)))
  (try simp only[pE]);refine AU.val (.bool r.isSome) (fun _=>rfl) (fun V L w1 K' Q' hS hi hR' hd hK=>?_) ?_
  ·obtain⟨q2,c2,hV⟩:=hS.2.2.1 (hd.out 7 (by kernel_rfl));simp only[hV];go_simp;(try simp only[pE]);exact hK.out _ _ (by simp only[hV];rfl) (hS.keep rfl rfl rfl rfl)
  (try simp only[pE]);refine AU.free (fun _=>rfl) (fun V L w1 K' Q' hS hi hR' hd hK=>?_) ?_
  ·go_simp;(try simp only[pE]);exact hK.out _ _ rfl ((hS.world (AJ _ _)).put (fun e=>absurd e (by decide)) (fun e=>absurd e (by decide)) (fun e=>absurd e (by decide)) (fun _=>⟨_,_,_,rfl,hS.1.size,by simp,Ae.alloc _ _ _⟩))
  (try simp only[pE]);refine AU.val undef (fun _=>rfl) (fun V L w1 K' Q' hS hi hR' hd hK=>?_) ?_
  ·have hl:=hd.out 10 (by kernel_rfl);obtain⟨q2,c2,hV⟩:=hS.2.2.2.1 (hd.out 8 (by kernel_rfl));obtain⟨pb,x,y,hp,hp0,hp1,hx⟩:=hS.2.2.2.2 hl;obtain⟨f0,f1⟩:=hx.f2;obtain⟨d0,d1⟩:=hx.c2;simp only[hV,hp];go_simp;refine hK.out _ _ (by simp only[hV,hp];rfl) ((hS.fill hl hp _ _).keep rfl rfl rfl rfl)
  simp only[Act.put];(apply AU.z rfl;intro V L w1 _ _ _ z hK;go_simp;exact hK (z.s.keep rfl rfl rfl rfl);intros;rfl);refine AU.nil fun V w1 hS=>?_;have hbx:=hS.1;obtain⟨q2,c2,hV1⟩:=hS.2.1 rfl;obtain⟨q3,c3,hV2⟩:=hS.2.2.1 rfl;obtain⟨q4,c4,GX⟩:=hS.2.2.2.1 rfl;obtain⟨pb,x,y,hp,hp0,hp1,hx⟩:=hS.2.2.2.2 rfl;simp only[hV1,hV2,GX,hp];have hb2:=AB hb hbx;replace c0:=AA hbx c0;replace c1:=AA hbx c1;have hP2:=hP.nx hbx;go_wp2_with fail;refine(wT _).mono ?_;rintro e w2 ⟨rfl,rfl⟩;have hbad:rf=true->r.isSome=false->R=false:=fun h1 h2=>by
   rw[hR.out,Bool.eq_false_iff];intro h3;have h4:=((M5 p l).1 h3).1 l[q] (by simp);rw[hkn,h1,h2]at h4;cases h4
  cases hrf:(rf&& !r.isSome)
  ·have hkq:Cg p l[q].t=true:=by
    rw[hkn];revert hrf;cases rf<;>cases r.isSome<;>decide
   have hK':∀k,(h:k<l.length)->k<q+1->Cg p l[k].t=true:=fun k h h2=>by
    rcases Nat.lt_or_ge k q with h3|h3
    ·exact hK k h h3
    ·obtain rfl:k=q:=(by omega);exact hkq
   generalize hX:hidden hK'=hK2;generalize r.isSome=ok at*;cases rf;all_goals
    first|(have h:=hrf;simp only[Bool.true_and,Bool.not_eq_false']at h;subst h)|skip
    go_wp2;obtain⟨wo,rfl⟩:∃wo:World,wo=wr:=⟨_,rfl⟩;go_loopw[8] (fun i wr=>∃j:Nat,j<=q/\i=.int .i64 (j:Int)/\AA6 w1 wr/\∀k,(h:k<j)->(h2:k<l.length)->l[k].n≠l[q].n) (fun i _=>q-(intOf i).toNat);exact⟨0,AY,rfl,AL,fun k h=>by omega⟩;obtain⟨j,hj,rfl,hb3,hne⟩:=hrel;have hb4:=AB hb2 hb3;by_cases IZ:j=q
    ·subst IZ;have Qh:=Hr (f:=Vr.n) hlt hN fun k h=>hne k h (by omega);have gK:=hidden Qh;have hP3:=hP2.nx hb3;go_wp2;go_roundw;exact⟨j+1,by omega,by go_num,hb4,hP3,hK2.out,gK.out⟩;simp[intOf];omega
    ·have hjq:j<q:=(by omega);have qc:(j:Int)<q:=(by omega);obtain⟨a',ha',⟨d0,-⟩,-⟩:=hl j l[j] (by simp);obtain rfl:a=a':=(by simpa using ha');have hk9:=AB h9 hb4;replace d0:=AA hk9 d0;replace c0:=AA hb3 c0;have qU:j<l.length:=(by omega);have Zz:(j:Int)<l.length:=(by omega);have hno:=Jv (f:=Vr.n) hjq hlt;have hnx:l[j].n≠l[q].n->∀k,(h:k<j+1)->(h2:k<l.length)->l[k].n≠l[q].n:=fun h1 k h h2=>by
      rcases Nat.lt_or_ge k j with h3|h3
      ·exact hne k h3 h2
      ·obtain rfl:k=j:=(by omega);exact h1
     have hbad:l[j].n=l[q].n->R=false:=fun h=>by
      rw[hR.out,Bool.eq_false_iff];intro h3;exact hno h ((M5 p l).1 h3).2
     replace hnx:=hidden hnx;replace hbad:=hidden hbad;have hb5:=hb3.drew;have hb6:=hb4.drew;by_cases heq:l[j].n=l[q].n
     ·have e1:=EZ heq;have hR2:=hidden (hbad.out heq);generalize l[j].n=s1 at*;generalize l[q].n=s2 at*;go_wp2_with fail;refine AO (S:=fun _ v=>v=wr.drew) rfl (by kernel_rfl) rfl ?_;(iterate 11((apply Ab.z rfl;intro L w1 _ _ _ z hK;have hS:=z.s;(subst hS);go_simp;exact hK (rfl);rfl)));refine Ab.nil fun w4 Bb=>?_;subst Bb;go_wp2;go_ret;exact⟨by rw[hR2.out];rfl,hb6⟩
     ·have e1:=Ea heq;replace hnx:=hidden (hnx.out heq);generalize hs1:l[j].n=s1 at*;generalize hs2:l[q].n=s2 at*;go_wp2_with fail;refine AO (S:=fun _ v=>v=wr.drew) rfl (by kernel_rfl) rfl ?_;(iterate 11((apply Ab.z rfl;intro L w1 _ _ _ z hK;have hS:=z.s;(subst hS);go_simp;exact hK (rfl);rfl)));refine Ab.nil fun w4 Bb=>?_;subst Bb;go_wp2;go_roundw;exact⟨j+1,by omega,by go_num,hb5,hnx.out⟩;simp[intOf];omega
  ·simp only[Bool.and_eq_true,Bool.not_eq_true']at hrf;obtain⟨e1,e2⟩:=hrf;have hR2:=hbad e1 e2;subst e1;go_wp2;go_ret;exact⟨by rw[hR2];rfl,hb2⟩
theorem GI{P:Program}{ops:Array Oper}{rest:List Oper}{o:Oper}{a:Act}{Q:Exit->Act->World->Prop}(hgd:o.guard=none)(s x:Operand)(t:TypeId)(ho:o.op=.call {callee:=.builtin .append,args:=#[s,x],argTypes:=#[t,t]})(base:Nat) (e:TypeId) (i:TypeInfo) (z:Value) (size bytes:Nat) (ht:P.underlying t=some (.slice e)) (hi:P.info? e=some i) (hz:i.zero=some z)(hsize:i.size=size) (hby:i.bytes=bytes) (hzs:z.cells.size=size) (hsz:0<size)(v:Value) (n:Nat) (xs:List Value) (hs:a.eval s=v) (hown:w.ownsRow base e size v n xs)(pa:Option Addr) (m c:Nat) (news:List Value) (hx:a.eval x=.slice pa m c) (hnone:pa=none->m=0/\c=0) (hl:news.length=m*size)(hnews:∀ad,pa=some ad->∀j u,news[j]? =some u->w.cell? (ad.add j)=some u) (h1:∀u∈news,u.oneCell'=true)(h63:n+m<=maxLen) (hbytes:(n+m)*bytes<=140737488355328) (hbase:base<=w.heap.size)(h:∀v' w',w'.ownsRow base e size v' (n+m) (xs++news)->w.grownBy w' v.ownBlock->wpList P ops Q rest (a.put o.dst v') w'):wpList P ops Q (o::rest) a w:=by
 cases pa with
 |none=>
  obtain⟨rfl,rfl⟩:=hnone rfl;have hn:news=[]:=List.length_eq_zero_iff.1 (by rw[hl];simp);subst hn
  refine wpList_append_own_none hgd s x t ho base e i size ht hi v n xs hs hown hx (h v w (by simpa using hown) (NM _ _))
 |some ad=>exact wpList_append_own _ hgd s x t ho base e i z size bytes ht hi hz hsize hby hzs hsz v n xs hs hown ad m c news hx hl (hnews ad rfl) h1 h63 hbytes hbase fun v' w' h2 h3 _=>h v' w' h2 h3
theorem YP(p:Pg):G9 p=true↔(p.cs.map Cl.n).Nodup/\(p.xs.map Ex.n).Nodup/\(p.fs.map Fn.n).Nodup/\Dv p p.gs=true/\(∀c∈p.cs,Dv p c.fs=true)/\∀f∈p.fs,Cg p f.r=true/\Dv p (f.ps++f.vs)=true:=by
 unfold G9;simp only[Bool.and_eq_true,List.all_eq_true];iterate 3 rw[Ip]
 simp
theorem Uk{w0:World}(h0:AA6 w0 w){p:Pg}{u1 u2 u3 u4:Value}(hp:Cj w0 v p u1 u2 u3 u4)(Fu:rG p):Calls prog 70 #[v] w fun e w'=>e=.returned (.bool (G9 p))/\AA6 w w':=by
 have hpv:=hp;obtain⟨iv,hjV,hy0,hy1,hy2⟩:=info_parts sw;obtain⟨rfl,hc,hg,hx,hf⟩:=hp;have hg':=hg;have hC:=fun W (hW:AA6 w W) x=>Hq (AB h0 hW) hpv x;have hT:=fun W (hW:AA6 w W) (l:List Vr) (u:Value) w9 h9 hl=>Ub (w:=W) (AB h0 hW) hpv (l:=l) (u:=u) (w9:=w9) h9 hl;obtain⟨p1,k1,rfl,-,hn1,hc⟩:=hc;obtain⟨p2,k2,rfl⟩:=hg.slice;obtain⟨p3,k3,rfl,-,QY,hx⟩:=hx;obtain⟨p4,k4,rfl,-,iH,hf⟩:=hf;have hb1:=AJ w (.cells #[.bool p.ssa,.slice p1 p.cs.length k1,.slice p2 p.gs.length k2,.slice p3 p.xs.length k3,.slice p4 p.fs.length k4] 27);have hP:=Ae.alloc w [.bool p.ssa,.slice p1 p.cs.length k1,.slice p2 p.gs.length k2,.slice p3 p.xs.length k3,.slice p4 p.fs.length k4] 27;obtain⟨R,hR⟩:∃R,R=G9 p:=⟨_,rfl⟩;rw[<-hR];have hF:R=true↔G9 p=true:=by rw[hR]
 rw[YP]at hF;replace hF:=hidden hF;have hG:=hT _ hb1 p.gs _ _ (AB h0 hb1) hg';generalize Dv p p.gs=dg at*;go_enter func70,ntmps70;go_wp2_with fail;refine hG.mono ?_;rintro e w1 ⟨rfl,hb⟩;replace hb1:=AB hb1 hb;replace hP:=hP.nx hb;cases dg
 ·have hR:R=false:=by
   rw[Bool.eq_false_iff];intro h;have:=(hF.out.1 h).2.2.2.1;cases this
  replace hR:=hidden hR;go_wp2;go_ret;exact⟨by rw[hR.out];rfl,hb1⟩
 obtain⟨q0,q1,q2,q3,q4⟩:=hP.c5;go_wp2;obtain⟨wc,rfl⟩:∃wc:World,wc=w1:=⟨_,rfl⟩;go_loopw[3] (fun i wr=>∃q:Nat,q<=p.cs.length/\i=.int .i64 (q:Int)/\AA6 w wr/\Ae wr w.heap.size [.bool p.ssa,.slice p1 p.cs.length k1,.slice p2 p.gs.length k2,.slice p3 p.xs.length k3,.slice p4 p.fs.length k4]/\((p.cs.take q).map Cl.n).Nodup/\(∀k,(h:k<p.cs.length)->k<q->Dv p p.cs[k].fs=true)) (fun i _=>p.cs.length-(intOf i).toNat);exact⟨0,AY,rfl,hb1,hP,by simp,fun k _ h=>by omega⟩;obtain⟨q,hq,rfl,hb1,hP,hN,hI⟩:=hrel;have qf:=hP.c 1 _ rfl;by_cases hend:q=p.cs.length
 ·subst hend;rw[List.take_length]at hN;replace hN:=hidden hN;replace hI:=hidden hI;have hNc:=hN;have hIc:=hI;go_wp2;obtain⟨we,rfl⟩:∃we:World,we=wr:=⟨_,rfl⟩;go_loopw[5] (fun i wr=>∃q:Nat,q<=p.xs.length/\i=.int .i64 (q:Int)/\AA6 w wr/\Ae wr w.heap.size [.bool p.ssa,.slice p1 p.cs.length k1,.slice p2 p.gs.length k2,.slice p3 p.xs.length k3,.slice p4 p.fs.length k4]/\((p.xs.take q).map Ex.n).Nodup/\True) (fun i _=>p.xs.length-(intOf i).toNat);exact⟨0,AY,rfl,hb1,hP,by simp,trivial⟩;obtain⟨q,hq,rfl,hb1,hP,hN,hI⟩:=hrel;have qf:=hP.c 3 _ rfl;by_cases hend:q=p.xs.length
  ·subst hend;rw[List.take_length]at hN;replace hN:=hidden hN;replace hI:=hidden hI;have nJ:=hN;go_wp2;obtain⟨wf,rfl⟩:∃wf:World,wf=wr:=⟨_,rfl⟩;go_loopw[7] (fun i wr=>∃q:Nat,q<=p.fs.length/\i=.int .i64 (q:Int)/\AA6 w wr/\Ae wr w.heap.size [.bool p.ssa,.slice p1 p.cs.length k1,.slice p2 p.gs.length k2,.slice p3 p.xs.length k3,.slice p4 p.fs.length k4]/\((p.fs.take q).map Fn.n).Nodup/\(∀k,(h:k<p.fs.length)->k<q->Cg p p.fs[k].r=true/\Dv p (p.fs[k].ps++p.fs[k].vs)=true)) (fun i _=>p.fs.length-(intOf i).toNat);exact⟨0,AY,rfl,hb1,hP,by simp,fun k _ h=>by omega⟩;obtain⟨q,hq,rfl,hb1,hP,hN,hI⟩:=hrel;have qf:=hP.c 4 _ rfl;by_cases hend:q=p.fs.length
   ·subst hend;rw[List.take_length]at hN;replace hN:=hidden hN;replace hI:=hidden hI;have hR2:R=true:=by
     rw[hF.out];refine⟨hNc.out,nJ.out,hN.out,by simp,fun c hc=>?_,fun f hf=>?_⟩
     ·obtain⟨k,hk,rfl⟩:=List.getElem_of_mem hc;exact hIc.out k hk hk
     ·obtain⟨k,hk,rfl⟩:=List.getElem_of_mem hf;exact hI.out k hk hk
    replace hR2:=hidden hR2;go_wp2;go_ret;exact⟨by rw[hR2.out];rfl,hb1⟩
   ·have hlt:q<p.fs.length:=(by omega);have A8:(q:Int)<p.fs.length:=(by omega);go_wp2;obtain⟨wo,rfl⟩:∃wo:World,wo=wr:=⟨_,rfl⟩;go_loopw[8] (fun i wr=>∃j:Nat,j<=q/\i=.int .i64 (j:Int)/\AA6 wo wr/\∀k,(h:k<j)->(h2:k<p.fs.length)->Fn.n p.fs[k]≠Fn.n p.fs[q]) (fun i _=>q-(intOf i).toNat);exact⟨0,AY,rfl,AL,fun k h=>by omega⟩;obtain⟨j,hj,rfl,hb3,hne⟩:=hrel;have hb4:=AB hb1 hb3;replace hP:=hP.nx hb3;have qf:=hP.c 4 _ rfl;by_cases IZ:j=q
    ·subst IZ;have Qh:=Hr (f:=Fn.n) hlt hN fun k h=>hne k h (by omega);replace Qh:=hidden Qh;replace hI:=hidden hI;obtain⟨a,rfl,⟨c0,z0⟩,⟨c1,z1⟩,⟨v2,c2,r2⟩,⟨v3,c3,r3⟩,v4,c4,r4⟩:=hf j p.fs[j] (by simp);have hw:=AB h0 hb4;replace c0:=AA hw c0;replace c1:=AA hw c1;replace c2:=AA hw c2;replace c3:=AA hw c3;have hvf:=Fu p.fs[j] (by simp);have s2:=r2.sz;have s3:=r3.sz;obtain⟨q1,j1,rfl,m1,n1,r2⟩:=r2;obtain⟨q2,j2,rfl,m2,n2,r3⟩:=r3;have hs1:=LJ fun i x hx=>(r2 i x hx).imp fun a h=>⟨h.1,h.2.kp hw⟩;have hs2:=LJ fun i x hx=>(r3 i x hx).imp fun a h=>⟨h.1,h.2.kp hw⟩;have OJ:Cg p p.fs[j].r=false->R=false:=fun h=>by
      rw[Bool.eq_false_iff];intro h3;have h5:=((hF.out.1 h3).2.2.2.2.2 p.fs[j] (by simp)).1;rw[h]at h5;cases h5
     have K3:Dv p (p.fs[j].ps++p.fs[j].vs)=false->R=false:=fun h=>by
      rw[Bool.eq_false_iff];intro h3;have h5:=((hF.out.1 h3).2.2.2.2.2 p.fs[j] (by simp)).2;rw[h]at h5;cases h5
     have hnx:Cg p p.fs[j].r=true->Dv p (p.fs[j].ps++p.fs[j].vs)=true->∀k,(h:k<p.fs.length)->k<j+1->Cg p p.fs[k].r=true/\Dv p (p.fs[k].ps++p.fs[k].vs)=true:=fun h1 h1' k h h2=>by
      rcases Nat.lt_or_ge k j with h3|h3
      ·exact hI.out k h h3
      ·obtain rfl:k=j:=(by omega);exact⟨h1,h1'⟩
     have hkn:=Ox p p.fs[j].r;have hCx:=fun W (hW:AA6 wr W)=>hC W (AB hb4 hW) p.fs[j].r;have wT:=fun W=>Ii p.fs[j].r W;replace OJ:=hidden OJ;replace K3:=hidden K3;replace hnx:=hidden hnx;replace hkn:=hidden hkn;generalize Ai Cl.n p.fs[j].r p.cs=r at*;generalize Dq p.fs[j].r=rf at*;generalize hyy:p.fs[j]=y at*;go_upto_region 30 with fail;obtain⟨n0,oW,z1',hn0⟩:∃(n0:Option Addr) (oW z1':Nat),Hid (n0=none/\oW=0/\z1'=0):=⟨_,_,_,hidden ⟨rfl,rfl,rfl⟩⟩;have hown0:wr.ownsRow wr.heap.size 71 2 (.slice n0 oW z1') oW []:=by
      obtain⟨rfl,rfl,rfl⟩:=hn0.out;exact World.ownsRow_nil _ _ _ _
     rw[show(Value.slice none 0 0)=.slice n0 oW z1' by obtain⟨rfl,rfl,rfl⟩:=hn0.out;rfl];have hz0:Hid (oW+y.ps.length=y.ps.length):=hidden (by obtain⟨rfl,rfl,rfl⟩:=hn0.out;simp);go_wp2_with(at_builtin;go_loud (refine GI rfl _ _ 23 rfl wr.heap.size 71 iv _ 2 32 underlying23 hjV hy0 hy1 hy2 rfl (by decide) _ oW [] rfl hown0 q1 y.ps.length j1 (Dz y.ps) rfl m1 (Jb _) hs1 (NS _) ?c3 ?c4 (AQ) ?_))
     case c3=>have:=hvf.1;rw[hz0.out];unfold maxLen;omega
     case c4=>have:=hvf.1;rw[hz0.out];omega
     intro v1 W1 hown1 hg1;rw[hz0.out]at hown1;obtain⟨pu1,ku1,rfl⟩:=Bf hown1;have J8:=(Below.refl wr.heap.size wr).grown hg1 (AQ) (fun g e=>by obtain⟨rfl,rfl,rfl⟩:=hn0.out;cases e);have hPA:=hP.nx J8;replace qf:=hPA.c 4 _ rfl;have c3A:=AA J8 c3;go_wp2_with(at_builtin;go_loud (refine GI rfl _ _ 23 rfl wr.heap.size 71 iv _ 2 32 underlying23 hjV hy0 hy1 hy2 rfl (by decide) _ y.ps.length _ rfl hown1 q2 y.vs.length j2 (Dz y.vs) rfl m2 (Jb _) (fun ad e i u hu=>AA J8 (hs2 ad e i u hu)) (NS _) ?c3 ?c4 J8.size ?_))
     case c3=>have:=hvf.1;have:=hvf.2;unfold maxLen;omega
     case c4=>have:=hvf.1;have:=hvf.2;omega
     intro v2 W2 hown2 hg2;obtain⟨pu2,ku2,rfl⟩:=Bf hown2;have Db:=J8.grown hg2 J8.size fun g e=>(hown1.lt g e).1;have hPc:=hP.nx Db;have hrow:=dK (l:=y.ps++y.vs) (by rw[VG,List.length_append];exact hown2) (fun x hx=>(List.mem_append.1 hx).elim (s2 x) (s3 x)) (by rw[List.length_append];omega);have hlen:y.ps.length+y.vs.length=(y.ps++y.vs).length:=(by simp);rw[hlen]at hrow;rw[hlen];replace hrow:=hidden hrow;replace qf:=hPc.c 4 _ rfl;replace c1:=AA Db c1;have hCy:=fun W (hW:AA6 W2 W)=>hCx W (AB Db hW);have hbW2:=AB hb4 Db;generalize hvl:y.ps++y.vs=vl at*;clear hvl J8 hCx;have hdr:=(Below.refl W2.heap.size W2).drew;go_wp2_with fail;refine AV (S:=Pd W2 7 8 9 11 (cN r) (cL r) r.isSome) rfl (by kernel_rfl) (Pd.start hdr) ?_;(iterate 7((apply AU.z rfl;intro V L w1 _ _ _ z hK;(have hB:=hPc.nx z.s.1;obtain⟨q0,q1,q2,q3,q4⟩:=hB.c5;have qf:=AA z.s.1 qf;replace c1:=AA z.s.1 c1);go_simp;exact hK (z.s.keep rfl rfl rfl rfl);intros;rfl)));refine AU.free (fun _=>rfl) (fun V L w1 K' Q' hS hi hR' hd hK=>?_) ?_
     ·go_simp;(go_wp2_with(go_at_call 94;refine(hCy _ hS.1).mono ?_;rintro e w2 ⟨hb,ho⟩;obtain⟨q2,c2,rfl⟩:=ho.form));(try simp only[pE]);exact hK.out _ _ rfl ((hS.world hb).put (fun _=>⟨_,_,rfl⟩) (fun e=>absurd e (by decide)) (fun e=>absurd e (by decide)) (fun e=>absurd e (by decide)))
     (try simp only[pE]);refine AU.free (fun _=>rfl) (fun V L w1 K' Q' hS hi hR' hd hK=>?_) ?_
     ·obtain⟨q2,c2,hV⟩:=hS.2.1 (hd.out 7 (by kernel_rfl));simp only[hV];go_simp;(try simp only[pE]);exact hK.out _ _ (by simp only[hV];rfl) (hS.put (fun e=>absurd e (by decide)) (fun _=>⟨_,_,rfl⟩) (fun e=>absurd e (by decide)) (fun e=>absurd e (by decide)))
     (try simp only[pE]);refine AU.free (fun _=>rfl) (fun V L w1 K' Q' hS hi hR' hd hK=>?_) ?_
     ·obtain⟨q2,c2,hV⟩:=hS.2.2.1 (hd.out 8 (by kernel_rfl));simp only[hV];go_simp;(try simp only[pE]);exact hK.out _ _ (by simp only[hV];rfl) (hS.put (fun e=>absurd e (by decide)) (fun e=>absurd e (by decide)) (fun _=>⟨_,_,rfl⟩) (fun e=>absurd e (by decide)))
     (try simp only[pE]);refine AU.val (.bool r.isSome) (fun _=>rfl) (fun V L w1 K' Q' hS hi hR' hd hK=>?_) ?_
     ·obtain⟨q2,c2,hV⟩:=hS.2.2.1 (hd.out 8 (by kernel_rfl));simp only[hV];go_simp;(try simp only[pE]);exact hK.out _ _ (by simp only[hV];rfl) (hS.keep rfl rfl rfl rfl)
     (try simp only[pE]);refine AU.free (fun _=>rfl) (fun V L w1 K' Q' hS hi hR' hd hK=>?_) ?_
     ·go_simp;(try simp only[pE]);exact hK.out _ _ rfl ((hS.world (AJ _ _)).put (fun e=>absurd e (by decide)) (fun e=>absurd e (by decide)) (fun e=>absurd e (by decide)) (fun _=>⟨_,_,_,rfl,hS.1.size,by simp,Ae.alloc _ _ _⟩))
     (try simp only[pE]);refine AU.val undef (fun _=>rfl) (fun V L w1 K' Q' hS hi hR' hd hK=>?_) ?_
     ·have hl:=hd.out 11 (by kernel_rfl);obtain⟨q2,c2,hV⟩:=hS.2.2.2.1 (hd.out 9 (by kernel_rfl));obtain⟨pb,x,y',hp,hp0,hp1,hx⟩:=hS.2.2.2.2 hl;obtain⟨f0,f1⟩:=hx.f2;obtain⟨d0,d1⟩:=hx.c2;simp only[hV,hp];go_simp;refine hK.out _ _ (by simp only[hV,hp];rfl) ((hS.fill hl hp _ _).keep rfl rfl rfl rfl)
     simp only[Act.put];(apply AU.z rfl;intro V L w1 _ _ _ z hK;go_simp;exact hK (z.s.keep rfl rfl rfl rfl);intros;rfl);refine AU.nil fun V w1 hS=>?_;have hbx:=hS.1;obtain⟨q2,c2,hV1⟩:=hS.2.1 rfl;obtain⟨q3,c3,hV2⟩:=hS.2.2.1 rfl;obtain⟨q4,c4,GX⟩:=hS.2.2.2.1 rfl;obtain⟨pb,x,y',hp,hp0,hp1,hx⟩:=hS.2.2.2.2 rfl;simp only[hV1,hV2,GX,hp];clear hS hV1 hV2 GX hp hCy hdr hx hp0 hp1;have hb5:=AB hbW2 hbx;replace c1:=AA hbx c1;have wU:=hPc.nx hbx;obtain⟨g0,g1,g2,g3,g4⟩:=wU.c5;have hTx:=hT w1 hb5 _ _ _ hbx hrow.out;clear hrow hPc hbW2 Db qf;generalize Dv p vl=dd at*;generalize r.isSome=ok at*;go_wp2_with fail;refine hTx.mono ?_;rintro e w5 ⟨rfl,hb6⟩;clear hTx g0 g1 g2 g3 g4;have BJ:=AB hb5 hb6;replace c1:=AA hb6 c1;have hPe:=wU.nx hb6;have g4:=hPe.c 4 _ rfl;cases dd
     ·have hR2:=hidden (K3.out rfl);clear OJ K3 hnx hkn wT hPe wU hF;go_wp2;go_ret;exact⟨by rw[hR2.out];rfl,BJ⟩
     go_wp2_with fail;refine(wT _).mono ?_;rintro e w6 ⟨rfl,rfl⟩;clear wT;cases hrf:(rf&& !ok)
     ·have hky:Cg p y.r=true:=by
       rw[hkn.out];revert hrf;cases rf<;>cases ok<;>decide
      have gK:=hidden (hnx.out hky (by simp));clear OJ K3 hnx hkn hky wU;cases rf;all_goals
       first|(have h:=hrf;simp only[Bool.true_and,Bool.not_eq_false']at h;subst h)|skip
       clear hrf;go_wp2;go_roundw;exact⟨j+1,by omega,by go_num,BJ,hPe,Qh.out,gK.out⟩;simp[intOf];omega
     ·simp only[Bool.and_eq_true,Bool.not_eq_true']at hrf;obtain⟨e1,e2⟩:=hrf;have hR2:=hidden (OJ.out (by rw[hkn.out,e1,e2];rfl));subst e1;subst e2;clear OJ K3 hnx hkn hPe wU hF;go_wp2;go_ret;exact⟨by rw[hR2.out];rfl,BJ⟩
    ·have hjq:j<q:=(by omega);have qc:(j:Int)<q:=(by omega);have qU:j<p.fs.length:=(by omega);have Zz:(j:Int)<p.fs.length:=(by omega);obtain⟨a,ha,⟨c0,-⟩,-⟩:=hf q p.fs[q] (by simp);obtain⟨a',ha',⟨d0,-⟩,-⟩:=hf j p.fs[j] (by simp);subst ha;obtain rfl:a=a':=(by simpa using ha');replace c0:=AA (AB h0 hb4) c0;replace d0:=AA (AB h0 hb4) d0;have hno:=Jv (f:=Fn.n) hjq hlt;have hnx:Fn.n p.fs[j]≠Fn.n p.fs[q]->∀k,(h:k<j+1)->(h2:k<p.fs.length)->Fn.n p.fs[k]≠Fn.n p.fs[q]:=fun h1 k h h2=>by
      rcases Nat.lt_or_ge k j with h3|h3
      ·exact hne k h3 h2
      ·obtain rfl:k=j:=(by omega);exact h1
     have hbad:Fn.n p.fs[j]=Fn.n p.fs[q]->R=false:=fun h=>by
      rw[Bool.eq_false_iff];intro h3;exact hno h (hF.out.1 h3).2.2.1
     replace hnx:=hidden hnx;replace hbad:=hidden hbad;clear hne hno hN hP ha' hI hf;have hb5:=hb3.drew;have hb6:=hb4.drew;by_cases heq:Fn.n p.fs[j]=Fn.n p.fs[q]
     ·have e1:=EZ heq;have hR2:=hidden (hbad.out heq);clear hnx hbad heq hF;generalize Fn.n p.fs[j]=s1 at*;generalize Fn.n p.fs[q]=s2 at*;go_wp2_with fail;refine AO (S:=fun _ v=>v=wr.drew) rfl (by kernel_rfl) rfl ?_;(iterate 13((apply Ab.z rfl;intro L w1 _ _ _ z hK;have hS:=z.s;(subst hS);go_simp;exact hK (rfl);rfl)));refine Ab.nil fun w4 Bb=>?_;subst Bb;clear c0 d0 hb5 hb4 hb3 hb1;go_wp2;go_ret;exact⟨by rw[hR2.out];rfl,hb6⟩
     ·have e1:=Ea heq;replace hnx:=hidden (hnx.out heq);generalize hs1:Fn.n p.fs[j]=s1 at*;generalize hs2:Fn.n p.fs[q]=s2 at*;go_wp2_with fail;refine AO (S:=fun _ v=>v=wr.drew) rfl (by kernel_rfl) rfl ?_;(iterate 13((apply Ab.z rfl;intro L w1 _ _ _ z hK;have hS:=z.s;(subst hS);go_simp;exact hK (rfl);rfl)));refine Ab.nil fun w4 Bb=>?_;subst Bb;go_wp2;go_roundw;exact⟨j+1,by omega,by go_num,hb5,hnx.out⟩;simp[intOf];omega
  ·have hlt:q<p.xs.length:=(by omega);have A8:(q:Int)<p.xs.length:=(by omega);go_wp2;obtain⟨wo,rfl⟩:∃wo:World,wo=wr:=⟨_,rfl⟩;go_loopw[6] (fun i wr=>∃j:Nat,j<=q/\i=.int .i64 (j:Int)/\AA6 wo wr/\∀k,(h:k<j)->(h2:k<p.xs.length)->Ex.n p.xs[k]≠Ex.n p.xs[q]) (fun i _=>q-(intOf i).toNat);exact⟨0,AY,rfl,AL,fun k h=>by omega⟩;obtain⟨j,hj,rfl,hb3,hne⟩:=hrel;have hb4:=AB hb1 hb3;replace hP:=hP.nx hb3;have qf:=hP.c 3 _ rfl;by_cases IZ:j=q
   ·subst IZ;have Qh:=Hr (f:=Ex.n) hlt hN fun k h=>hne k h (by omega);replace Qh:=hidden Qh;replace hI:=hidden hI;go_wp2;go_roundw;exact⟨j+1,by omega,by go_num,hb4,hP,Qh.out,hI.out⟩;simp[intOf];omega
   ·have hjq:j<q:=(by omega);have qc:(j:Int)<q:=(by omega);have qU:j<p.xs.length:=(by omega);have Zz:(j:Int)<p.xs.length:=(by omega);obtain⟨a,ha,⟨c0,-⟩,-⟩:=hx q p.xs[q] (by simp);obtain⟨a',ha',⟨d0,-⟩,-⟩:=hx j p.xs[j] (by simp);subst ha;obtain rfl:a=a':=(by simpa using ha');replace c0:=AA (AB h0 hb4) c0;replace d0:=AA (AB h0 hb4) d0;have hno:=Jv (f:=Ex.n) hjq hlt;have hnx:Ex.n p.xs[j]≠Ex.n p.xs[q]->∀k,(h:k<j+1)->(h2:k<p.xs.length)->Ex.n p.xs[k]≠Ex.n p.xs[q]:=fun h1 k h h2=>by
     rcases Nat.lt_or_ge k j with h3|h3
     ·exact hne k h3 h2
     ·obtain rfl:k=j:=(by omega);exact h1
    have hbad:Ex.n p.xs[j]=Ex.n p.xs[q]->R=false:=fun h=>by
     rw[Bool.eq_false_iff];intro h3;exact hno h (hF.out.1 h3).2.1
    replace hnx:=hidden hnx;replace hbad:=hidden hbad;have hb5:=hb3.drew;have hb6:=hb4.drew;by_cases heq:Ex.n p.xs[j]=Ex.n p.xs[q]
    ·have e1:=EZ heq;have hR2:=hidden (hbad.out heq);generalize Ex.n p.xs[j]=s1 at*;generalize Ex.n p.xs[q]=s2 at*;go_wp2_with fail;refine AO (S:=fun _ v=>v=wr.drew) rfl (by kernel_rfl) rfl ?_;(iterate 13((apply Ab.z rfl;intro L w1 _ _ _ z hK;have hS:=z.s;(subst hS);go_simp;exact hK (rfl);rfl)));refine Ab.nil fun w4 Bb=>?_;subst Bb;go_wp2;go_ret;exact⟨by rw[hR2.out];rfl,hb6⟩
    ·have e1:=Ea heq;replace hnx:=hidden (hnx.out heq);generalize hs1:Ex.n p.xs[j]=s1 at*;generalize hs2:Ex.n p.xs[q]=s2 at*;go_wp2_with fail;refine AO (S:=fun _ v=>v=wr.drew) rfl (by kernel_rfl) rfl ?_;(iterate 13((apply Ab.z rfl;intro L w1 _ _ _ z hK;have hS:=z.s;(subst hS);go_simp;exact hK (rfl);rfl)));refine Ab.nil fun w4 Bb=>?_;subst Bb;go_wp2;go_roundw;exact⟨j+1,by omega,by go_num,hb5,hnx.out⟩;simp[intOf];omega
 ·have hlt:q<p.cs.length:=by omega
  have A8:(q:Int)<p.cs.length:=by omega
  go_wp2;obtain⟨wo,rfl⟩:∃wo:World,wo=wr:=⟨_,rfl⟩;go_loopw[4] (fun i wr=>∃j:Nat,j<=q/\i=.int .i64 (j:Int)/\AA6 wo wr/\∀k,(h:k<j)->(h2:k<p.cs.length)->Cl.n p.cs[k]≠Cl.n p.cs[q]) (fun i _=>q-(intOf i).toNat);exact⟨0,AY,rfl,AL,fun k h=>by omega⟩;obtain⟨j,hj,rfl,hb3,hne⟩:=hrel;have hb4:=AB hb1 hb3;replace hP:=hP.nx hb3;have qf:=hP.c 1 _ rfl;by_cases IZ:j=q
  ·subst IZ;have Qh:=Hr (f:=Cl.n) hlt hN fun k h=>hne k h (by omega);replace Qh:=hidden Qh;replace hI:=hidden hI;clear hN hne hb1 hb3;obtain⟨a,rfl,⟨c0,-⟩,u,c1,hr⟩:=hc j p.cs[j] (by simp);replace c0:=AA (AB h0 hb4) c0;replace c1:=AA (AB h0 hb4) c1;obtain⟨pf,kf,rfl⟩:=hr.slice;have hTx:=fun W (hW:AA6 wr W)=>hT W (AB hb4 hW) _ _ _ (AB h0 (AB hb4 hW)) hr;have hbad:Dv p p.cs[j].fs=false->R=false:=fun h=>by
    rw[Bool.eq_false_iff];intro h3;have h5:=(hF.out.1 h3).2.2.2.2.1 p.cs[j] (by simp);rw[h]at h5;cases h5
   have hnx:Dv p p.cs[j].fs=true->∀k,(h:k<p.cs.length)->k<j+1->Dv p p.cs[k].fs=true:=fun h1 k h h2=>by
    rcases Nat.lt_or_ge k j with h3|h3
    ·exact hI.out k h h3
    ·obtain rfl:k=j:=(by omega);exact h1
   clear hr hc hx hf hI;replace hbad:=hidden hbad;replace hnx:=hidden hnx;generalize hdd:Dv p p.cs[j].fs=dd at*;generalize hyy:p.cs[j]=y at*;clear hyy hdd;have hdr:=(Below.refl wr.heap.size wr).drew;go_wp2_with fail;refine AO (S:=fun _ v=>AA6 wr v) rfl (by kernel_rfl) hdr ?_;(iterate 9(first|(apply Ab.z rfl;intro L w1 _ _ _ z hK;(have hB:=hP.nx z.s;obtain⟨q0,q1,q2,q3,q4⟩:=hB.c5;replace c0:=AA z.s c0;replace c1:=AA z.s c1);go_simp;exact hK (z.s);rfl)|(apply Ab.y rfl;intro L w1 _ _ z hK;go_simp;go_wp2_with((refine(hTx _ z.s).mono ?_;rintro e w2 ⟨rfl,hb⟩));(try simp only[pE]);exact hK.out _ (AB z.s hb);rfl)));refine Ab.nil fun w4 Bb=>?_;have hb5:=AB hb4 Bb;replace hP:=hP.nx Bb;clear hdr hTx c0 c1 Bb qf;cases dd
   ·have hR2:=hidden (hbad.out rfl);clear hbad hnx hF hP;go_wp2;go_ret;exact⟨by rw[hR2.out];rfl,hb5⟩
   ·have gK:=hidden (hnx.out rfl);clear hbad hnx;go_wp2;go_roundw;exact⟨j+1,by omega,by go_num,hb5,hP,Qh.out,gK.out⟩;simp[intOf];omega
  ·have hjq:j<q:=(by omega);have qc:(j:Int)<q:=(by omega);have qU:j<p.cs.length:=(by omega);have Zz:(j:Int)<p.cs.length:=(by omega);obtain⟨a,ha,⟨c0,-⟩,-⟩:=hc q p.cs[q] (by simp);obtain⟨a',ha',⟨d0,-⟩,-⟩:=hc j p.cs[j] (by simp);subst ha;obtain rfl:a=a':=(by simpa using ha');replace c0:=AA (AB h0 hb4) c0;replace d0:=AA (AB h0 hb4) d0;have hno:=Jv (f:=Cl.n) hjq hlt;have hnx:Cl.n p.cs[j]≠Cl.n p.cs[q]->∀k,(h:k<j+1)->(h2:k<p.cs.length)->Cl.n p.cs[k]≠Cl.n p.cs[q]:=fun h1 k h h2=>by
    rcases Nat.lt_or_ge k j with h3|h3
    ·exact hne k h3 h2
    ·obtain rfl:k=j:=(by omega);exact h1
   have hbad:Cl.n p.cs[j]=Cl.n p.cs[q]->R=false:=fun h=>by
    rw[Bool.eq_false_iff];intro h3;exact hno h (hF.out.1 h3).1
   replace hnx:=hidden hnx;replace hbad:=hidden hbad;clear hne hno hN hP ha' hI hc hx hf;have hb5:=hb3.drew;have hb6:=hb4.drew;by_cases heq:Cl.n p.cs[j]=Cl.n p.cs[q]
   ·have e1:=EZ heq;have hR2:=hidden (hbad.out heq);clear hnx hbad heq hF;generalize Cl.n p.cs[j]=s1 at*;generalize Cl.n p.cs[q]=s2 at*;go_wp2_with fail;refine AO (S:=fun _ v=>v=wr.drew) rfl (by kernel_rfl) rfl ?_;(iterate 13((apply Ab.z rfl;intro L w1 _ _ _ z hK;have hS:=z.s;(subst hS);go_simp;exact hK (rfl);rfl)));refine Ab.nil fun w4 Bb=>?_;subst Bb;clear c0 d0 hb5 hb4 hb3 hb1;go_wp2;go_ret;exact⟨by rw[hR2.out];rfl,hb6⟩
   ·have e1:=Ea heq;replace hnx:=hidden (hnx.out heq);clear hbad heq hF;generalize hs1:Cl.n p.cs[j]=s1 at*;generalize hs2:Cl.n p.cs[q]=s2 at*;clear hs1 hs2;go_wp2_with fail;refine AO (S:=fun _ v=>v=wr.drew) rfl (by kernel_rfl) rfl ?_;(iterate 13((apply Ab.z rfl;intro L w1 _ _ _ z hK;have hS:=z.s;(subst hS);go_simp;exact hK (rfl);rfl)));refine Ab.nil fun w4 Bb=>?_;subst Bb;clear c0 d0 hb4 hb3 hb6;go_wp2;go_roundw;exact⟨j+1,by omega,by go_num,hb5,hnx.out⟩;simp[intOf];omega
end Go.Proofs.YtlffomedflegdaaGreatDoor
