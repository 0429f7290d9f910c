/- Part 13 of the proof: Og, Oh, Oi, Oj, Ok, Ol, Om, On. -/
import Derived.Test.YtlffomedflegdaaGreatDoorPd12
set_option linter.all false
set_option maxHeartbeats 16000000
set_option maxRecDepth 100000
namespace Go.Proofs.YtlffomedflegdaaGreatDoor
open Go.Proofs.Tryz
open Go.RowKit
open Go.Value renaming int→cI,string→cS,slice→cY,bool→cE
open Go.IntKind renaming i64→cJ
open Option renaming some→cP,none→cX
open Bool renaming false→cA,true→cC
variable {B N R c g k n pb s:Nat}{e:TypeId}{f:Fn}{fr:List Fn}{lg wh:Int}{q:Pg}{u v:Value}{w w0:World}{xs:List Value}{α:Type}
section
structure Qy(TS e:TypeId)(sz b:Nat):Prop where
 u:prog.underlying TS=cP (.slice e)
 i:∃z i,prog.info? e=cP i/\i.zero=cP z/\i.size=sz/\i.bytes=b/\z.cells.size=sz
 p:0<sz
def Qy.mk'{TS:TypeId}{sz b:Nat}{z:Value}(u:prog.underlying TS=cP (.slice e))(h:(prog.info? e).map (λi=>(i.zero,i.size,i.bytes))=cP (cP z,sz,b))(hz:z.cells.size=sz)(p:0<sz):Qy TS e sz b:=by
 obtain⟨i,h1,h2,h3,h4⟩:=Cq h;exact⟨u,⟨z,i,h1,h2,h3,h4,hz⟩,p⟩
section
variable {w : World} {B sz by' pb : Nat} {TS e : TypeId} {l : List Dt} {v : Value} {d : Dt} {fp fd : List Nat} {cs : List Value}
theorem VZ{o:Oper}{a:Act}{K:Act->World->Prop}{Q:Exit->Act->World->Prop}(hT:Qy TS e sz by')(s x:Operand)(ho:o.op=.call {callee:=.builtin .append,args:=#[s,x],argTypes:=#[TS,TS]}) (hs:a.eval s=v) (h:AZ w B e sz l v fp) (hn:fp.Nodup)(hx:a.eval x=cY (cP ⟨pb,0,cX⟩) 1 1) (hb:Ae w pb cs) (h1:∀u∈cs,u.oneCell'=cC) (hd:Af w B d pb 0 fd) (hnd:fd.Nodup) (hdj:∀b,b∈fd->b∉fp) (hdw:d.wd=sz) (hcs:cs.length=sz)(hl:l.length+1<=100000000) (hby:by'<=1000) (hB:B<=w.heap.size)(hK:∀v' w' fp',(∃p c,v'=cY p (l.length+1) c)->AZ w' B e sz (l++[d]) v' fp'->fp'.Nodup->(∀b,b∈fp'->b∈fp\/b∈fd\/w.heap.size<=b)->w.grownBy w' v.ownBlock->Below B w w'->K (a.put o.dst v') w'):o.wp prog a w K Q:=by
 obtain⟨z,i,hi,hz,hsz,hbt,hzs⟩:=hT.i;obtain⟨xs,hox⟩:=h.owns
 refine wp_append_own' s x TS ho B e i z sz by' hT.u hi hz hsz hbt hzs hT.p v _ xs hs hox ⟨pb,0,cX⟩ 1 1 cs hx (by simpa using hcs) (λj u hu=>by rw[Dk,Nat.zero_add];exact hb.c j u hu) h1 (by unfold maxLen;omega) (by
  have:(l.length+1)*by'<=100000000*1000:=Nat.mul_le_mul hl hby
  omega) hB λv' w' k1 k2 k3=>?_
 obtain⟨fp',m1,m2,m3⟩:=AZ.app1 h hn hox hb hd hnd hdj hdw hcs k1 k2 k3;obtain⟨p,c,rfl⟩:=Bf k1;exact hK _ _ fp' ⟨p,c,rfl⟩ m1 m2 m3 k2 ((Below.refl B w).grown k2 hB λk hk=>(hox.lt k hk).1)
theorem HY{ops:Array Oper}{rest:List Oper}{o:Oper}{a:Act}{Q:Exit->Act->World->Prop}(hgd:o.guard=cX)(hT:Qy TS e sz by')(s x:Operand)(ho:o.op=.call {callee:=.builtin .append,args:=#[s,x],argTypes:=#[TS,TS]}) (hs:a.eval s=v) (h:AZ w B e sz l v fp) (hn:fp.Nodup)(hx:a.eval x=cY (cP ⟨pb,0,cX⟩) 1 1) (hb:Ae w pb cs) (h1:∀u∈cs,u.oneCell'=cC) (hd:Af w B d pb 0 fd) (hnd:fd.Nodup) (hdj:∀b,b∈fd->b∉fp) (hdw:d.wd=sz) (hcs:cs.length=sz)(hl:l.length+1<=100000000) (hby:by'<=1000) (hB:B<=w.heap.size)(hK:∀v' w' fp',(∃p c,v'=cY p (l.length+1) c)->AZ w' B e sz (l++[d]) v' fp'->fp'.Nodup->(∀b,b∈fp'->b∈fp\/b∈fd\/w.heap.size<=b)->w.grownBy w' v.ownBlock->Below B w w'->wpList prog ops Q rest (a.put o.dst v') w'):wpList prog ops Q (o::rest) a w:=
 wpList_plain hgd λ_ hk=>VZ hT s x ho hs h hn hx hb h1 hd hnd hdj hdw hcs hl hby hB λv' w' fp' k0 k1 k2 k3 k4 k5=>hk _ _ (hK v' w' fp' k0 k1 k2 k3 k4 k5)
end
def P5:Qy 78 9 1 16:=.mk' (z:=cS .empty) underlying78 (by kernel_rfl) rfl (by decide)
def AAD:Qy 242 249 2 32:=.mk' (z:=.agg #[cI cJ 0,cY cX 0 0]) underlying242 (by kernel_rfl) rfl (by decide)
structure Lw where (n:Int) (ws:List ByteArray)
def xE(x:Lw):Dt:=.agg [dN x.n,.row 9 1 (x.ws.map dS)]
def rT(w:World)(a:Addr)(x:Lw):Prop:=w.cell? a=cP (cI cJ x.n)/\∃u,At w a 1 u/\Row DL 1 w u x.ws
theorem vLw{o:Nat}{F:List Nat}{x:Lw}(hx:x.ws.length<=10000000/\∀s∈x.ws,s.size<=10000000)(h:Af w B (xE x) g o F):rT w ⟨g,o,cX⟩ x:=by
 obtain⟨_,_,h1,h2⟩:=h.l.hd;obtain⟨_,_,h3,_⟩:=h2.hd;exact⟨h1.c,h3.view (λ_=>rfl) (λ_ _ _ _ a b=>vS a b) (by unfold Ln;omega) λs hs=>by have:=hx.2 s hs;unfold Sz;omega⟩
theorem Af.str{s:ByteArray}(hb:Ae w pb [cS s]):Af w B (dS s) pb 0 []:=by
 unfold dS Af;exact⟨hb.c 0 _ rfl,rfl,rfl⟩
structure LU(w w1:World)(m:Nat)(L:List Lw)(ls:List ByteArray)(bs:List UInt8)(out lv wv:Value)(F fl:List Nat):Prop where
 o:AZ w1 w.heap.size 249 2 (L.map xE) out F
 on:F.Nodup
 l:AZ w1 w.heap.size 9 1 (ls.map dS) lv fl
 ln:fl.Nodup
 d:∀b,b∈fl->b∉F
 y:w1.ownsRow w.heap.size 5 1 wv bs.length (bs.map TF)
 wd:∀k,wv.ownBlock=cP k->k∉F/\k∉fl
 b:AA6 w w1
 n:L.length<=m/\ls.length<=m/\bs.length<=m
 s:∀s∈ls,s.size<=10000000
 a:∀x∈L,x.ws≠ []/\x.ws.length<=10000000/\∀s∈x.ws,s.size<=10000000
section
variable {w w1 w2 : World} {m : Nat} {L : List Lw} {ls : List ByteArray} {bs : List UInt8} {out lv wv v' : Value} {F fl vY : List Nat}
def kI(h:w.ownsRow B e s v n xs)(hk:v.ownBlock=cP k):k<w.heap.size:=(h.lt k hk).2
theorem LU.shape(h:LU w w1 m L ls bs out lv wv F fl):(∃p c,out=cY p L.length c)/\(∃p c,lv=cY p ls.length c)/\∃p c,wv=cY p bs.length c:=⟨by simpa using h.o.slice,by simpa using h.l.slice,Bf h.y⟩
theorem LU.nx(h:LU w w1 m L ls bs out lv wv F fl)(hb:AA6 w1 w2):LU w w2 m L ls bs out lv wv F fl:=
 ⟨h.o.same λb hb'=>hb.block b (h.o.fp b hb').2,h.on,h.l.same λb hb'=>hb.block b (h.l.fp b hb').2,h.ln,h.d,Dh h.y hb (AQ),h.wd,AB h.b hb,h.n,h.s,h.a⟩
theorem LU.up(h:LU w w1 m L ls bs out lv wv F fl)(hk:m<=k):LU w w1 k L ls bs out lv wv F fl:=⟨h.o,h.on,h.l,h.ln,h.d,h.y,h.wd,h.b,by have:=h.n;omega,h.s,h.a⟩
theorem LU.now(h:LU w w1 m L ls bs out lv wv F fl):LU w w1 m L ls [] out lv (cY cX 0 0) F fl:=⟨h.o,h.on,h.l,h.ln,h.d,World.ownsRow_nil _ _ _ _,(λk e=>by cases e),h.b,⟨h.n.1,h.n.2.1,AY⟩,h.s,h.a⟩
theorem LU.nol(h:LU w w1 m L ls bs out lv wv F fl):LU w w1 m L [] bs out (cY cX 0 0) wv F []:=⟨h.o,h.on,.nil,by simp,by simp,h.y,λk e=>⟨(h.wd k e).1,by simp⟩,h.b,⟨h.n.1,AY,h.n.2.2⟩,by simp,h.a⟩
theorem LU.byte(h:LU w w1 m L ls bs out lv wv F fl)(c:UInt8)(ho:w2.ownsRow w.heap.size 5 1 v' (bs.length+1) (bs.map TF++[TF c]))(hg:w1.grownBy w2 wv.ownBlock)(hf:∀k,v'.ownBlock=cP k->wv.ownBlock=cP k\/w1.heap.size<=k):LU w w2 (m+1) L ls (bs++[c]) out lv v' F fl where
 o:=h.o.same λb hb=>hg.block b (h.o.fp b hb).2 λe=>(h.wd b e.symm).1 hb
 on:=h.on
 l:=h.l.same λb hb=>hg.block b (h.l.fp b hb).2 λe=>(h.wd b e.symm).2 hb
 ln:=h.ln
 d:=h.d
 y:=by rw[List.length_append,List.map_append];exact ho
 wd:=λk e=>by
  rcases hf k e with h1|h1
  ·exact h.wd k h1
  ·exact⟨λh2=>by have:=(h.o.fp k h2).2;omega,λh2=>by have:=(h.l.fp k h2).2;omega⟩
 b:=h.b.grown hg h.b.size λk hk=>(h.y.lt k hk).1
 n:=by have:=h.n;simp;omega
 s:=h.s
 a:=h.a
theorem LU.word(h:LU w w1 m L ls bs out lv wv F fl)(t:ByteArray)(ht:t.size<=10000000)(hl:AZ w2 w.heap.size 9 1 (ls.map dS++[dS t]) v' vY)(hn:vY.Nodup)(hf:∀b,b∈vY->b∈fl\/b∈([]:List Nat)\/w1.heap.size<=b)(hg:w1.grownBy w2 lv.ownBlock):LU w w2 (m+1) L (ls++[t]) [] out v' (cY cX 0 0) F vY where
 o:=h.o.same λb hb=>hg.block b (h.o.fp b hb).2 λe=>h.d b (h.l.own b e.symm) hb
 on:=h.on
 l:=by rw[List.map_append];exact hl
 ln:=hn
 d:=λb hb hF=>by
  rcases hf b hb with h1|h1|h1
  ·exact h.d b h1 hF
  ·cases h1
  ·have:=(h.o.fp b hF).2;omega
 y:=World.ownsRow_nil _ _ _ _
 wd:=λk e=>by cases e
 b:=h.b.grown hg h.b.size λk hk=>(h.l.fp k (h.l.own k hk)).1
 n:=by have:=h.n;simp;omega
 s:=λs hs=>by
  rcases List.mem_append.1 hs with h1|h1
  ·exact h.s s h1
  ·rw[List.mem_singleton.1 h1];exact ht
 a:=h.a
theorem LU.line(h:LU w w1 m L ls bs out lv wv F fl)(k:Int)(hne:ls≠ [])(hm:m<=10000000){F':List Nat}(ho:AZ w2 w.heap.size 249 2 (L.map xE++[xE ⟨k,ls⟩]) v' F')(hn:F'.Nodup)(hf:∀b,b∈F'->b∈F\/b∈fl\/w1.heap.size<=b)(hg:w1.grownBy w2 out.ownBlock):LU w w2 (m+1) (L++[⟨k,ls⟩]) [] bs v' (cY cX 0 0) wv F' [] where
 o:=by rw[List.map_append];exact ho
 on:=hn
 l:=.nil
 ln:=by simp
 d:=by simp
 y:=h.y.kept hg (by
  cases hw:wv.ownBlock with
  |none=>exact .inl rfl
  |some g=>exact .inr λe=>(h.wd g hw).1 (h.o.own g e.symm))
 wd:=λj e=>⟨λh2=>by
  rcases hf j h2 with h1|h1|h1
  ·exact(h.wd j e).1 h1
  ·exact(h.wd j e).2 h1
  ·have:=kI h.y e
   omega,by simp⟩
 b:=h.b.grown hg h.b.size λk hk=>(h.o.fp k (h.o.own k hk)).1
 n:=by have:=h.n;simp;omega
 s:=by simp
 a:=λx hx=>by
  rcases List.mem_append.1 hx with h1|h1
  ·exact h.a x h1
  ·rw[List.mem_singleton.1 h1];exact⟨hne,by have:=h.n;show ls.length<=_;omega,h.s⟩
end
theorem Uc(s:ByteArray)(hs:s.size<=1000000)(w:World):Calls prog 167 #[cS s] w λe w'=>AA6 w w'/\∃v at' why,e=.returned (.tuple #[v,cI cJ at',cI cJ why])/\(why=0->∃L,Row rT 2 w' v L/\L.length<=2000002/\∀x∈L,x.ws≠ []/\x.ws.length<=10000000/\∀s∈x.ws,s.size<=10000000):=by
 have hsI:¬(4194304:Int)<s.size:=by omega
 go_enter func167,ntmps167;go_wp2;go_loopw[5,6,7,8,9,10,11,12] (λout lv wv n rm bad i _ wr=>∃(q:Nat) (L:List Lw) (ls:List ByteArray) (bs:List UInt8) (F fl:List Nat) (k:Int) (r d:Bool),q<=s.size+1/\i=cI cJ (q:Int)/\LU w wr (2*q) L ls bs out lv wv F fl/\n=cI cJ k/\0<=k/\k<=q+1/\rm=cE r/\bad=cE d) (λ_ _ _ _ _ _ i _ _=>s.size+1-(intOf i).toNat);exact⟨0,[],[],[],[],[],1,cA,cA,by omega,rfl,⟨.nil,by simp,.nil,by simp,by simp,World.ownsRow_nil _ _ _ _,(λk e=>by cases e),AL,by simp,by simp,by simp⟩,rfl,by omega,by omega,rfl,rfl⟩;obtain⟨q,L,ls,bs,F,fl,k,r,d,hq,rfl,hS,rfl,hk0,hk1,rfl,rfl⟩:=hrel;obtain⟨⟨p1,c1,rfl⟩,⟨p2,c2,rfl⟩,p3,c3,rfl⟩:=hS.shape;obtain⟨wo,rfl⟩:=again wr;by_cases hend:q=s.size+1
 ·subst hend;have hgt:¬((s.size+1:Nat):Int)<=s.size:=by omega
  have hgt2:¬s.size+1<=s.size:=by omega
  go_wp2;go_ret3;refine⟨hS.b,_,_,_,rfl,λ_=>⟨L,?_,by have:=hS.n;omega,λx hx=>hS.a x hx⟩⟩;have hv:=hS.o.view (E:=rT) (ok:=λx:Lw=>x.ws.length<=10000000/\∀s∈x.ws,s.size<=10000000) (λ_=>rfl) (λx g o f h1 h2=>vLw h1 h2) (by have:=hS.n;unfold Ln;omega) (λx hx=>(hS.a x hx).2);exact hv
 ·have hle:(q:Int)<=s.size:=by omega
  have hle2:q<=s.size:=by omega
  go_upto_region 12 with fail;go_cut[12]from 22 to 31 (λe wx=>∃b:Bool,e=cE b/\(b=cA->q<s.size)/\wx=wo)
  ·cases he:((q:Int)==(s.size:Int))with
   |true=>
    go_wp2;go_meet
    exact⟨_,rfl,(λh=>by cases h),rfl⟩
   |false=>
    have hlt:q<s.size:=by
     have:(q:Int)≠s.size:=(by simpa using he);omega
    have A8:(q:Int)<s.size:=(by omega);go_wp2;go_meet;exact⟨_,rfl,λ_=>hlt,rfl⟩
  obtain⟨e,rfl,he,rfl⟩:=hcut;obtain⟨wo,rfl⟩:=again wc;go_upto_region 13 with fail;go_cut[39]from 32 to 38 (λe wx=>∃b:Bool,e=cE b/\wx=wo)
  ·cases e
   ·have hlt:=he rfl;have A8:(q:Int)<s.size:=(by omega);go_wp2;go_meet;exact⟨_,rfl,rfl⟩
   ·go_wp2;go_meet;exact⟨_,rfl,rfl⟩
  obtain⟨f,rfl,rfl⟩:=hcut;obtain⟨wo,rfl⟩:=again wc;go_upto_if 39 with fail;go_cut[9]from 9 to 9 (λe wx=>∃b:Bool,e=cE b/\wx=wo)
  ·cases f
   ·go_wp2;go_meet;exact⟨_,rfl,rfl⟩
   ·go_wp2;go_meet;exact⟨_,rfl,rfl⟩
  obtain⟨r,rfl,rfl⟩:=hcut;obtain⟨wo,rfl⟩:=again wc;go_upto_region 15 with fail;go_cut[55]from 40 to 54 (λx wx=>∃b:Bool,x=cE b/\(e=cC->b=cC)/\wx=wo)
  ·cases e
   ·have hlt:=he rfl;have A8:(q:Int)<s.size:=(by omega);cases r
    ·go_wp2;all_goals (go_meet;case rel=>exact⟨_,rfl,(λh=>by cases h),rfl⟩)
    ·go_wp2;go_meet;exact⟨_,rfl,(λh=>by cases h),rfl⟩
   ·go_wp2;go_meet;exact⟨_,rfl,(λ_=>rfl),rfl⟩
  obtain⟨g,rfl,hg,rfl⟩:=hcut;obtain⟨wo,rfl⟩:=again wc;go_upto_if 55 with fail;go_cut[6,7,10]from 56 to 82 (λlv wv bad wx=>∃(ls:List ByteArray) (bs:List UInt8) (fl:List Nat) (d:Bool),LU w wx (2*q+1) L ls bs (cY p1 L.length c1) lv wv F fl/\(∃p c,lv=cY p ls.length c)/\(∃p c,wv=cY p bs.length c)/\bad=cE d)
  ·cases g
   ·have hlt:q<s.size:=by
     cases e
     ·exact he rfl
     ·exact absurd (hg rfl) (by decide)
    have A8:(q:Int)<s.size:=(by omega);go_upto_region 19 with fail;go_cut[10]from 64 to 76 (λx wx=>∃b:Bool,x=cE b/\wx=wo)
    ·cases d
     ·go_wp2;all_goals (go_meet;case rel=>exact⟨_,rfl,rfl⟩)
     ·go_wp2;go_meet;exact⟨_,rfl,rfl⟩
    obtain⟨d,rfl,rfl⟩:=hcut;have hB2:=Ae.alloc wc [TF s[q]] 5;have hS2:=hS.nx (AJ wc (.cells #[TF s[q]] 5));have hn:=hS.n;obtain⟨i0,hi,hz0,hz1,hz2⟩:=Cq (P:=prog) (t:=5) (z:=cI .u8 0) (s:=1) (b:=1) (by kernel_rfl);(go_wp2_with(at_builtin;refine wpList_append_own' rfl _ _ 250 rfl w.heap.size 5 i0 _ 1 1 underlying250 hi hz0 hz1 hz2 rfl (by decide) _ bs.length (bs.map TF) rfl hS2.y ⟨wc.heap.size,0,cX⟩ 1 1 [TF s[q]] rfl rfl (λj u hu=>by rw[Dk,Nat.zero_add];exact hB2.c j u hu) (by simp[Value.oneCell']) (by unfold maxLen;omega) (by omega) hS2.b.size ?_;intro v' w3 ho hg hf;obtain⟨N7,Nh,rfl⟩:=Bf ho));go_meet;exact⟨ls,bs++[s[q]],fl,d,hS2.byte s[q] ho hg hf,⟨_,_,rfl⟩,⟨N7,Nh,by simp⟩,rfl⟩
   ·by_cases hbs:0<bs.length
    ·have wO:(0:Int)<bs.length:=(by omega);have hcv:=D7 underlying250 underlying5 underlying9 (show wo.ownsRow w.heap.size 5 1 (cY p3 bs.length c3) bs.length (bs.map Gg)from hS.y);have hB2:=Ae.alloc wo [cS ⟨bs.toArray⟩] 9;have hS2:=hS.nx (AJ wo (.cells #[cS ⟨bs.toArray⟩] 9));have hn:=hS.n;(go_wp2_with(at_builtin;refine HY rfl P5 _ _ rfl rfl hS2.l hS2.ln rfl hB2 (by simp[Value.oneCell']) (Af.str hB2) (by simp) (by simp) rfl rfl (by rw[List.length_map];omega) (by decide) hS2.b.size ?_;rintro v' w3 vY ⟨N7,Nh,rfl⟩ h1 h2 h3 h4-));rw[List.length_map]at h1;go_meet;exact⟨ls++[⟨bs.toArray⟩],[],vY,d,hS2.word _ (by show bs.toArray.size<=10000000;rw[List.size_toArray];omega) h1 h2 h3 h4,⟨N7,Nh,by simp⟩,⟨_,_,rfl⟩,rfl⟩
    ·have wO:¬(0:Int)<bs.length:=(by omega);go_wp2;go_meet;exact⟨ls,[],fl,d,hS.now.up (Aa),⟨_,_,rfl⟩,⟨_,_,rfl⟩,rfl⟩
  obtain⟨ls,bs,fl,d,hS,⟨p2,c2,rfl⟩,⟨p3,c3,rfl⟩,rfl⟩:=hcut;obtain⟨wo,rfl⟩:=again wc;go_upto_if 83 with fail;cases e
  ·go_wp2;go_roundw;exact⟨q+1,L,ls,bs,F,fl,k,r,d,by omega,by go_num,hS.up (by omega),rfl,hk0,by omega,rfl,rfl⟩;simp[intOf];omega
  ·cases d
   ·by_cases hls:0<ls.length
    ·have iI:(0:Int)<ls.length:=(by omega);have hB2:=Ae.alloc wo [cI cJ k,cY p2 ls.length c2] 249;have hS2:=hS.nx (AJ wo (.cells #[cI cJ k,cY p2 ls.length c2] 249));have hn:=hS.n;have hL:Af (wo.alloc (.cells #[cI cJ k,cY p2 ls.length c2] 249)) w.heap.size (xE ⟨k,ls⟩) wo.heap.size 0 (fl++[]):=Af.of (AP.cc (hB2.c 0 _ rfl) rfl (AP.cr (hB2.c 1 _ rfl) hS2.l AP.cn));rw[List.append_nil]at hL;(go_wp2_with(at_builtin;refine HY rfl AAD _ _ rfl rfl hS2.o hS2.on rfl hB2 (by simp[Value.oneCell']) hL hS2.ln hS2.d rfl rfl (by rw[List.length_map];omega) (by decide) hS2.b.size ?_;rintro v' w3 F' ⟨N7,Nh,rfl⟩ h1 h2 h3 h4-));rw[List.length_map]at h1;go_roundw;exact⟨q+1,L++[⟨k,ls⟩],[],bs,F',[],k+1,cA,cA,by omega,by go_num,(hS2.line k (by intro h;subst h;simp at hls) (by omega) h1 h2 h3 h4),by go_num,by omega,by omega,rfl,rfl⟩;simp[intOf];omega
    ·have iI:¬(0:Int)<ls.length:=(by omega);go_wp2;go_roundw;exact⟨q+1,L,[],bs,F,[],k+1,cA,cA,by omega,by go_num,hS.nol.up (by omega),by go_num,by omega,by omega,rfl,rfl⟩;simp[intOf];omega
   ·go_wp2;go_ret3;exact⟨hS.b,_,_,_,rfl,λh=>absurd h (by decide)⟩
end
section
open Word Num Dp
def zF(e:Ending):Prop:=∃(n:Int) (b:Bool),e=.returned (.tuple #[cI cJ n,cE b])/\Bo n
theorem eH(l:List UInt8):Bo (Nt l).1:=by
 unfold Nt;split
 ·exact FR _
 grind
theorem eG(l:List UInt8):Bo (LZ l).1:=by
 unfold LZ;split
 ·exact FR _
 grind
theorem JU(s:ByteArray)(hs:s.size<=10000000)(w:World):Calls prog 236 #[cS s] w λe w'=>zF e/\AA6 w w':=by
 by_cases h1:1<=s.size
 ·refine(Uv s w (by omega) h1).mono λe w' ⟨he,hb⟩=>⟨⟨_,_,he,eH _⟩,hb⟩
 ·obtain rfl:s=ByteArray.empty:=ByteArray.ext (Array.eq_empty_of_size_eq_zero (by show s.size=0;omega));have hb:=Below.refl w.heap.size w;have hz:wrap64 0=0:=by decide+kernel
  go_enter func236,ntmps236;go_wp2;refine wp_loop_rounds 1 ?_;rw[rounds_succ];go_wp2_with(first|((with_reducible refine(Mw _ _).mono ?_);rintro e w' ⟨rfl,rfl⟩)|((with_reducible refine(KL ⟨by decide,by decide⟩ _).mono ?_);rintro e w1 ⟨⟨t,rfl,-⟩,h⟩;replace hb:=AAt hb h;clear h))
  all_goals (go_ret2;exact⟨⟨_,_,rfl,by decide,by decide⟩,hb⟩)
def tK(s:ByteArray)(w:World):Calls prog 250 #[cS s] w λe w'=>zF e/\AA6 w w':=
 (bg s w).mono λ_ _ ⟨he,hb⟩=>⟨⟨_,_,he,eG _⟩,hb⟩
theorem uS(s:ByteArray)(hs:s.size<=10000000)(w:World):Calls prog 245 #[cS s] w λe w'=>AA6 w w'/\∃(x:Ag) (b:Bool),e=.returned (.tuple #[.agg #[cI cJ x.k,cS x.s,cI cJ x.n],cE b])/\x.s.size<=10000000:=by
 have hN:=λw=>JU s hs w;have hV:=λw=>tK s w;have hR:=λw=>JU (s.extract 1 s.size) (by rw[ByteArray.size_extract];omega) w;have hR0:=λw=>JU ⟨#[]⟩ (AY) w;go_enter func245,ntmps245;go_upto_if 15 with fail;generalize hW:w.alloc _=W at*;obtain⟨hb0,hA⟩:=ng hW;go_cut[4]from 15 to 17 (λv wx=>∃r:ByteArray,v=cS r/\r.size<=10000000/\wx=W)
 ·by_cases h1:0<s.size
  ·have Fw:(0:Int)<s.size:=(by omega);go_wp2;go_meet;exact⟨_,rfl,by rw[ByteArray.size_extract];omega,rfl⟩
  ·have Fw:¬(0:Int)<s.size:=(by omega);go_wp2;go_meet;exact⟨_,rfl,AY,rfl⟩
 obtain⟨r,rfl,hr,rfl⟩:=hcut;replace hR:=λw=>JU r hr w;go_wp2_with fail;refine(hN _).mono ?_;rintro e w1 ⟨⟨k1,b1,rfl,z1⟩,hb1⟩;go_wp2_with fail;refine(hV _).mono ?_;rintro e w2 ⟨⟨k2,b2,rfl,z2⟩,hb2⟩;go_wp2_with fail;refine(hR _).mono ?_;rintro e w3 ⟨⟨k3,b3,rfl,z3⟩,hb3⟩;have hb:=AB (AB (AB hb0 hb1) hb2) hb3;replace hA:=((hA.nx hb1).nx hb2).nx hb3;have hb3:=hb.alloc hb.size (.cells #[cI cJ 1,cS s,cI cJ 0,cI cJ 2,cS ⟨#[]⟩,cI cJ k1,cI cJ 3,cS ⟨#[]⟩,cI cJ k2,cI cJ 4,cS ⟨#[]⟩,cI cJ 0,cI cJ 5,cS ⟨#[]⟩,cI cJ k3] 327);replace hA:=hA.al (.cells #[cI cJ 1,cS s,cI cJ 0,cI cJ 2,cS ⟨#[]⟩,cI cJ k1,cI cJ 3,cS ⟨#[]⟩,cI cJ k2,cI cJ 4,cS ⟨#[]⟩,cI cJ 0,cI cJ 5,cS ⟨#[]⟩,cI cJ k3] 327);have z0:Bo 0:=⟨by decide,by decide⟩;have hel:Hid (∀(q:Nat) (v:World),q<5->Ae v w3.heap.size [cI cJ 1,cS s,cI cJ 0,cI cJ 2,cS ⟨#[]⟩,cI cJ k1,cI cJ 3,cS ⟨#[]⟩,cI cJ k2,cI cJ 4,cS ⟨#[]⟩,cI cJ 0,cI cJ 5,cS ⟨#[]⟩,cI cJ k3]->∃x:Ag,v.cell? ⟨w3.heap.size,q*3,cX⟩=cP (cI cJ x.k)/\v.cell? ⟨w3.heap.size,q*3+1,cX⟩=cP (cS x.s)/\v.cell? ⟨w3.heap.size,q*3+2,cX⟩=cP (cI cJ x.n)/\x.s.size<=10000000/\Bo x.n):=Wx λq v hq h=>by
  have:q=0\/q=1\/q=2\/q=3\/q=4:=by omega
  rcases this with rfl|rfl|rfl|rfl|rfl
  ·exact⟨⟨1,s,0⟩,h.c 0 _ rfl,h.c 1 _ rfl,h.c 2 _ rfl,hs,z0⟩
  ·exact⟨⟨2,_,k1⟩,h.c 3 _ rfl,h.c 4 _ rfl,h.c 5 _ rfl,AY,z1⟩
  ·exact⟨⟨3,_,k2⟩,h.c 6 _ rfl,h.c 7 _ rfl,h.c 8 _ rfl,AY,z2⟩
  ·exact⟨⟨4,_,0⟩,h.c 9 _ rfl,h.c 10 _ rfl,h.c 11 _ rfl,AY,z0⟩
  ·exact⟨⟨5,_,k3⟩,h.c 12 _ rfl,h.c 13 _ rfl,h.c 14 _ rfl,AY,z3⟩
 go_upto_region 8 with fail;generalize hW:w3.alloc _=W at*;obtain⟨-,hL⟩:=ng hW;have hw3:w.heap.size<=w3.heap.size:=hb.size;generalize w3.heap.size=lb at*;go_wp2;go_loopw[12] (λi wr=>∃q:Nat,q<=5/\i=cI cJ (q:Int)/\AA6 w wr/\Ae wr w.heap.size [cI cJ 0,cS ⟨#[]⟩,cI cJ 0]/\Ae wr lb [cI cJ 1,cS s,cI cJ 0,cI cJ 2,cS ⟨#[]⟩,cI cJ k1,cI cJ 3,cS ⟨#[]⟩,cI cJ k2,cI cJ 4,cS ⟨#[]⟩,cI cJ 0,cI cJ 5,cS ⟨#[]⟩,cI cJ k3]) (λi _=>5-(intOf i).toNat);exact⟨0,AY,rfl,hb3,hA,hL⟩;obtain⟨q,hq,rfl,hb,hA,hL⟩:=hrel;by_cases hend:q=5
 ·subst hend;obtain⟨r0,r1,r2⟩:=hA.c3;obtain⟨f0,f1,f2⟩:=hA.f3;go_wp2;(refine rB rfl (by go_simp;try rfl) rfl ?_);refine⟨?_,⟨0,⟨#[]⟩,0⟩,cA,rfl,AY⟩;(repeat(first|with_reducible assumption|exact AJ _ _|exact AL|refine Below.drew ?_|refine Below.setCell ?_ (by first|exact AQ|(dsimp only;omega)) _|refine Below.alloc ?_ (by first|exact AQ|(simp;omega)|simp) _))
 ·have hlt:q<5:=by omega
  have A8:(q:Int)<5:=by omega
  obtain⟨x,e0,e1,e2,xs,xn⟩:=hel.out q wr hlt hL;have Kt:=λv=>ND x.k x.s (Wx (by omega)) x.n _ rfl v;generalize KI x.k x.s.data.toList x.n=rv at Kt;have hPt:=λv=>MZ (x:=x) (by unfold Sz;omega) xn v;go_wp2_with fail;refine(Kt _).mono ?_;rintro e w5 ⟨rfl,hb5⟩;replace e0:=AA hb5 e0;replace e1:=AA hb5 e1;replace e2:=AA hb5 e2;replace hA:=hA.nx hb5;replace hL:=hL.nx hb5;replace hb:=AB hb hb5;cases rv
  ·go_wp2;go_roundw;exact⟨q+1,by omega,by go_num,hb,hA,hL⟩;simp[intOf];omega
  ·go_wp2_with fail;refine(hPt _).mono ?_;rintro e w6 ⟨⟨t,rfl,ht⟩,hb6⟩;replace e0:=AA hb6 e0;replace e1:=AA hb6 e1;replace e2:=AA hb6 e2;replace hA:=hA.nx hb6;replace hL:=hL.nx hb6;replace hb:=AB hb hb6
   cases hts:(t.toList==s.toList)with
   |true=>
    obtain⟨r0,r1,r2⟩:=hA.c3;obtain⟨f0,f1,f2⟩:=hA.f3;go_wp2;(refine rB rfl (by go_simp;try rfl) rfl ?_);refine⟨?_,x,cC,rfl,xs⟩
    (repeat(first|with_reducible assumption|exact AJ _ _|exact AL|refine Below.drew ?_|refine Below.setCell ?_ (by first|exact AQ|(dsimp only;omega)) _|refine Below.alloc ?_ (by first|exact AQ|(simp;omega)|simp) _))
   |false=>
    go_wp2;go_roundw;exact⟨q+1,by omega,by go_num,hb,hA,hL⟩;simp[intOf];omega
end
section
open Word Num Dp
abbrev nm(s:ByteArray):Bool:=Eb s.data.toList
abbrev Wz(l:List ByteArray):Prop:=l.length<=10000000/\∀s∈l,s.size<=10000000
def mU(e:Ending):Prop:=∃b:Bool,e=.returned (cE b)
def uW(n m:Int)(e:Ending):Prop:=∃r:Int,e=.returned (cI cJ r)/\(r=0->n<m)
def AAx(e:Ending):Prop:=∃(op:Int) (b:Bool),e=.returned (.tuple #[cI cJ op,cE b])/\(b=cC->1<=op/\op<=34)
theorem DN{l:List ByteArray}(hb:Ae w pb (l.map Value.string))(hz:Wz l):Row DL 1 w (cY (cP ⟨pb,0,cX⟩) l.length l.length) l:=by
 refine⟨cP ⟨pb,0,cX⟩,l.length,rfl,(λe=>by cases e),⟨by have:=hz.1;omega,AQ⟩,λi x hx=>⟨_,rfl,?_,?_⟩⟩
 ·rw[Dk,Nat.zero_add,Nat.mul_one];exact hb.c i _ (by simp[hx])
 grind
theorem Bn(h0:AA6 w0 w){l:List ByteArray}(hl:Row DL 1 w0 u l):Calls prog 230 #[u] w λe w'=>e=.returned (cE (l.all nm))/\w=w':=by
 obtain⟨p,c,rfl,-,⟨hn,-⟩,hl⟩:=hl;obtain⟨R,hR⟩:∃R,R=l.all nm:=⟨_,rfl⟩;rw[<-hR];go_enter func230,ntmps230;go_wp2;go_loopw[3] (λi wr=>∃q:Nat,q<=l.length/\i=cI cJ (q:Int)/\Hid (R=(l.drop q).all nm)/\wr=w) (λi _=>l.length-(intOf i).toNat);exact⟨0,AY,rfl,Wx hR,rfl⟩;clear hR;obtain⟨q,hq,rfl,hR,rfl⟩:=hrel;by_cases hend:q=l.length
 ·subst hend;have hR:=hR.out;rw[List.drop_length]at hR;obtain rfl:R=cC:=hR;go_wp2;go_ret;exact⟨rfl,rfl⟩
 ·have hlt:q<l.length:=by omega
  have A8:(q:Int)<l.length:=by omega
  have hR:=hR.out;rw[List.drop_eq_getElem_cons hlt,List.all_cons]at hR;obtain⟨a,rfl,d0,z0⟩:=hl q l[q] (by simp[hlt]);rw[Nat.mul_one]at d0;replace d0:=AA h0 d0;have hN:=λw=>KZ l[q] _ rfl (by unfold Sz at z0;omega) w;generalize l[q]=s at*;change R=(nm s&&_)at hR
  cases hs:nm s with
  |false=>
   rw[hs]at hR;change Eb s.data.toList=cA at hs;rw[hs]at hN;obtain rfl:R=cA:=(by simpa using hR);clear hl hs hR;go_wp2_with fail;refine(hN _).mono ?_;rintro e w2 ⟨rfl,rfl⟩;go_wp2;go_ret
   exact⟨rfl,rfl⟩
  |true=>
   rw[hs,Bool.true_and]at hR;change Eb s.data.toList=cC at hs;rw[hs]at hN;replace hR:=Wx hR;go_wp2_with fail;refine(hN _).mono ?_;rintro e w2 ⟨rfl,rfl⟩;go_wp2;go_roundw;exact⟨q+1,by omega,by go_num,hR,trivial⟩;simp[intOf];omega
theorem dz(s:ByteArray)(hs:s.size<=10000000)(w:World):Calls prog 246 #[cS s] w λe w'=>mU e/\w=w':=by
 have hN:=λw=>KZ s _ rfl (by omega) w;generalize Eb s.data.toList=b at hN
 cases h1:(s.toList==[105,110,116])with
 |true=>
  go_enter func246,ntmps246;go_wp2;go_ret
  exact⟨⟨_,rfl⟩,rfl⟩
 |false=>
  cases h2:(s.toList==[102,108,111,97,116])with
  |true=>
   go_enter func246,ntmps246;go_wp2;go_ret
   exact⟨⟨_,rfl⟩,rfl⟩
  |false=>
   go_enter func246,ntmps246;go_wp2_with fail;refine(hN _).mono ?_;rintro e w2 ⟨rfl,rfl⟩;go_wp2;go_ret;exact⟨⟨_,rfl⟩,rfl⟩
def D8(n m:Int)(w:World):Calls prog 234 #[cI cJ n,cI cJ m] w λe w'=>uW n m e/\w=w':=by
 by_cases h:m<=n
 ·go_enter func234,ntmps234;go_wp2;go_ret;exact⟨⟨_,rfl,λh=>absurd h (by decide)⟩,rfl⟩
 ·go_enter func234,ntmps234;go_wp2;go_ret;exact⟨⟨_,rfl,λ_=>by omega⟩,rfl⟩
theorem jw(s:ByteArray)(w:World)(hW:Words w):Calls prog 231 #[cS s] w λe w'=>AAx e/\w=w':=by
 go_enter func231,ntmps231;go_wp2;go_loop[4] (λi=>∃q:Nat,1<=q/\q<=35/\i=cI cJ (q:Int)) (λi=>35-(intOf i).toNat);exact⟨1,by omega,by omega,rfl⟩;obtain⟨q,hq1,hq,rfl⟩:=hrel;by_cases hend:q=35
 ·subst hend;go_wp2;go_ret2;exact⟨⟨_,_,rfl,λh=>absurd h (by decide)⟩,rfl⟩
 ·have hlt:(q:Int)<=34:=by omega
  have hlt2:(q:Int)<35:=by omega
  have hlt3:q<=34:=by omega
  obtain⟨t,ht,-⟩:=hW q (by omega)
  cases hts:(t.toList==s.toList)with
  |true=>
   go_wp2;go_ret2
   exact⟨⟨_,_,rfl,λ_=>⟨by omega,hlt⟩⟩,rfl⟩
  |false=>
   go_wp2;go_round;exact⟨q+1,by omega,by omega,by go_num⟩;simp[intOf];omega
end
section
open Word Num Dp
def AAv(l:List ByteArray)(e:Ending):Prop:=∃b:Bool,e=.returned (cE b)/\(b=cC->l.length=3/\nm (l.getD 1 Bv)=cC)
theorem CV{p:Option Addr}{l:List ByteArray}(h:Row DL 1 w (cY p n c) l){q:Nat}(hq:q<l.length):∃a,p=cP a/\w.cell? (a.add q)=cP (cS l[q]):=by
 obtain⟨p',c',e,-,-,hl⟩:=h;obtain⟨rfl,rfl,rfl⟩:p=p'/\n=l.length/\c=c':=by simpa using e
 obtain⟨a,rfl,h1,-⟩:=hl q l[q] (by simp[hq]);grind
theorem BQ{p:Option Addr}{l:List ByteArray}(h:Row DL 1 w (cY p n c) l){q:Nat}(hq:q+1<l.length):∃a,p=cP a/\w.cell? ⟨a.block,a.off+(q+1),cX⟩=cP (cS l[q+1]):=by
 obtain⟨a,h1,h2⟩:=CV h hq;refine⟨a,h1,?_⟩;have:a.add (q+1)=⟨a.block,a.off+(q+1),cX⟩:=by simp[Addr.add]
 grind
theorem Dl{l:List ByteArray}(h:Wz l){q:Nat}(hq:q<l.length):l[q].size<=10000000:=h.2 _ (List.getElem_mem hq)
theorem Gr(h0:AA6 w0 w){l:List ByteArray}(hl:Row DL 1 w0 u l)(hz:Wz l):Calls prog 235 #[u] w λe w'=>AAv l e/\AA6 w w':=by
 obtain⟨p,c,rfl⟩:=hl.slice
 cases h3:((l.length:Int)==3)with
 |false=>
  go_enter func235,ntmps235;go_wp2;go_ret
  exact⟨⟨_,rfl,λh=>by cases h⟩,AL⟩
 |true=>
  have hl3:l.length=3:=by
   have:(l.length:Int)=3:=(by simpa using h3);omega
  have Fw:(1:Int)<l.length:=by omega
  have Qj:(2:Int)<l.length:=by omega
  have C8:1<l.length:=by omega
  have LQ:2<l.length:=by omega
  obtain⟨a,rfl,d1⟩:=BQ hl (q:=0) C8;obtain⟨a',ea,d2⟩:=BQ hl (q:=1) LQ;simp only[Nat.zero_add,Nat.reduceAdd]at d1 d2;obtain rfl:a=a':=by simpa using ea
  replace d1:=AA h0 d1;replace d2:=AA h0 d2;have hz1:=Dl hz C8;have hz2:=Dl hz LQ;have hg:l.getD 1 Bv=l[1]:=by rw[List.getD_eq_getElem?_getD,List.getElem?_eq_getElem C8];rfl
  have hb:=AJ w (.cells #[cS l[1]] 9);have hN:=Bn (Below.refl (w.alloc (.cells #[cS l[1]] 9)).heap.size _) (DN (l:=[l[1]]) (Ae.alloc w [cS l[1]] 9) ⟨show 1<=10000000 by decide,by simpa using hz1⟩);simp only[List.length_cons,List.length_nil,Nat.zero_add,List.all_cons,List.all_nil,Bool.and_true]at hN;have hK:=λw=>dz l[2] hz2 w;replace hl3:=Wx hl3;generalize l[1]=s1 at*;generalize l[2]=s2 at*;generalize hv:nm s1=v at*;replace hg:=Wx hg;replace hv:=Wx hv;go_enter func235,ntmps235;go_wp2_with fail;refine hN.mono ?_;rintro e w2 ⟨rfl,rfl⟩;replace d2:=AA hb d2;cases v
  ·go_wp2;go_ret;exact⟨⟨_,rfl,λh=>by cases h⟩,hb⟩
  ·go_wp2_with fail;refine(hK _).mono ?_;rintro e w2 ⟨⟨b,rfl⟩,rfl⟩;go_wp2;go_ret;exact⟨⟨_,rfl,λ_=>⟨hl3.out,by rw[hg.out];exact hv.out⟩⟩,hb⟩
def aF:Qy 129 77 3 32:=.mk' (z:=.agg #[cI cJ 0,cS .empty,cI cJ 0]) underlying129 (by kernel_rfl) rfl (by decide)
theorem aZ{x:Ag}(hb:Ae w pb [cI cJ x.k,cS x.s,cI cJ x.n]):Af w B (Ls x) pb 0 []:=Af.of (AP.cc (hb.c 0 _ rfl) rfl (AP.cc (hb.c 1 _ rfl) rfl (AP.cc (hb.c 2 _ rfl) rfl AP.cn)))
abbrev Az(al:List Ag):Prop:=∀a∈al,a.s.size<=10000000
def AA3(w w':World)(n:Nat)(e:Ending):Prop:=∃(v:Value) (b:Bool) (al:List Ag) (F:List Nat),e=.returned (.tuple #[v,cE b])/\(∃p m c,v=cY p m c)/\(b=cC->al.length=n/\AZ w' w.heap.size 77 3 (al.map Ls) v F/\F.Nodup/\Az al)
theorem FT(h0:AA6 w0 w){l:List ByteArray}(hl:Row DL 1 w0 u l)(hz:Wz l)(ob:Bool):Calls prog 233 #[u,cE ob] w λe w'=>AA3 w w' l.length e/\AA6 w w':=by
 have hlr:=hl;obtain⟨p,c,rfl⟩:=hl.slice;have hzl:=hz.1;go_enter func233,ntmps233;go_wp2;go_loopw[6,7,8,9] (λv i _ _ wr=>∃(q:Nat) (al:List Ag) (F:List Nat),q<=l.length/\i=cI cJ (q:Int)/\al.length=q/\AZ wr w.heap.size 77 3 (al.map Ls) v F/\F.Nodup/\Az al/\AA6 w wr) (λ_ i _ _ _=>l.length-(intOf i).toNat);exact⟨0,[],[],AY,rfl,rfl,.nil,by simp,(λa h=>by cases h),AL⟩;obtain⟨q,al,F,hq,rfl,hal,hv,hF,haz,hb⟩:=hrel;obtain⟨pv,cv,rfl⟩:=hv.slice;rw[List.length_map]at hv⊢;by_cases hend:q=l.length
 ·subst hend;replace hal:=Wx hal;go_wp2;go_ret2;exact⟨⟨_,cC,al,F,rfl,⟨_,_,_,rfl⟩,λ_=>⟨hal.out,hv,hF,haz⟩⟩,hb⟩
 ·have hlt:q<l.length:=by omega
  have A8:(q:Int)<l.length:=by omega
  obtain⟨a,rfl,d0⟩:=CV hlr hlt;replace d0:=AA (AB h0 hb) d0;have hG:=λw=>uS l[q] (Dl hz hlt) w;generalize l[q]=s at*;replace hal:=Wx hal;go_wp2_with fail;refine(hG _).mono ?_;rintro e w2 ⟨hb2,x,b,rfl,hxs⟩;have hb3:=(AB hb hb2).alloc (AB hb hb2).size (.cells #[cI cJ x.k,cS x.s,cI cJ x.n] 77);replace hv:=hv.same (w':=w2.alloc (.cells #[cI cJ x.k,cS x.s,cI cJ x.n] 77)) λb hb'=>(Below.heap_alloc _ _ _ (A9 (hv.fp b hb').2 hb2.size)).trans (hb2.block b (hv.fp b hb').2);go_upto_region 6 with fail;have hbl:w2.heap.size<(w2.alloc (.cells #[cI cJ x.k,cS x.s,cI cJ x.n] 77)).heap.size:=by simp
  generalize Cr:w2.alloc _=W at*;obtain⟨-,hB⟩:=ng Cr;clear Cr;generalize w2.heap.size=ab at*;go_cut[34]from 24 to 33 (λv wx=>∃r:Bool,v=cE r/\wx=W)
  ·have e0:=hB.c 0 _ rfl;cases b
   ·go_wp2;go_meet;exact⟨_,rfl,rfl⟩
   ·cases h5:(x.k==5)with
    |false=>
     go_wp2;go_meet
     exact⟨_,rfl,rfl⟩
    |true=>
     go_wp2;go_meet;exact⟨_,rfl,rfl⟩
  obtain⟨r,rfl,rfl⟩:=hcut;obtain⟨W,rfl⟩:=again wc;cases r
  ·obtain⟨e0,e1,e2⟩:=hB.c3;have hB2:=Ae.alloc W [cI cJ x.k,cS x.s,cI cJ x.n] 77;have hb4:=hb3.alloc hb3.size (.cells #[cI cJ x.k,cS x.s,cI cJ x.n] 77);replace hv:=hv.same (w':=W.alloc (.cells #[cI cJ x.k,cS x.s,cI cJ x.n] 77)) λb hb'=>Below.heap_alloc _ _ _ (hv.fp b hb').2;(go_wp2_with(at_builtin;refine HY rfl aF _ _ rfl rfl hv hF rfl hB2 (by simp[Value.oneCell']) (aZ hB2) (by simp) (by simp) rfl rfl (by rw[List.length_map,hal.out];omega) (by decide) hb4.size ?_;rintro v' w3 F' ⟨N7,Nh,rfl⟩ h1 h2 h3 h4 h5));have hb5:=hb4.trans h5;have h1':AZ w3 w.heap.size 77 3 ((al++[x]).map Ls) (cY N7 ((List.map Ls al).length+1) Nh) F':=(by rw[List.map_append];exact h1);rw[List.length_map]at h1';go_roundw
   ·exact⟨q+1,al++[x],F',by omega,by go_num,by simp[hal.out],h1',h2,λa ha=>(by
    rcases List.mem_append.1 ha with h|h
    ·exact haz a h
    ·rw[List.mem_singleton.1 h];exact hxs),hb5⟩
   simp[intOf];omega
  ·go_wp2;go_ret2;exact⟨⟨_,cA,[],[],rfl,⟨cX,0,0,rfl⟩,λh=>by cases h⟩,hb3⟩
end
section
open Word Num Dp
abbrev Bz(bl:List Bd):Prop:=∀x∈bl,x.n.size<=10000000/\x.a.s.size<=10000000
def VY(w w':World)(k n:Nat)(e:Ending):Prop:=∃(v:Value) (b:Bool) (bl:List Bd) (F:List Nat),e=.returned (.tuple #[v,cE b])/\(∃p m c,v=cY p m c)/\(b=cC->k<=n/\bl.length<=n/\AZ w' w.heap.size 234 4 (bl.map nT) v F/\F.Nodup/\Bz bl)
def AAI:Qy 230 234 4 48:=.mk' (z:=.agg #[cS .empty,cI cJ 0,cS .empty,cI cJ 0]) underlying230 (by kernel_rfl) rfl (by decide)
theorem uP{x:Bd}(hb:Ae w pb [cS x.n,cI cJ x.a.k,cS x.a.s,cI cJ x.a.n]):Af w B (nT x) pb 0 []:=
 Af.of (AP.cc (hb.c 0 _ rfl) rfl (AP.ca (l:=[dN x.a.k,dS x.a.s,dN x.a.n]) (AP.cc (hb.c 1 _ rfl) rfl (AP.cc (hb.c 2 _ rfl) rfl (AP.cc (hb.c 3 _ rfl) rfl AP.cn))) AP.cn))
theorem row_one{a:Addr}{m q:Nat}{l:List ByteArray}(h:Row DL 1 w (cY (cP a) n c) l)(hq:q+1<l.length)(hm:1<=m):Row DL 1 w (cY (cP ⟨a.block,a.off+(q+1),cX⟩) 1 m) [l[q+1]]:=by
 have hz:Sz l[q+1]:=by
  obtain⟨_,_,e,-,-,hl⟩:=h;obtain⟨b,-,-,hz⟩:=hl (q+1) l[q+1] (by simp[hq]);exact hz
 obtain⟨b,e,hc⟩:=BQ h hq;obtain rfl:a=b:=by simpa using e
 refine⟨_,m,rfl,(λe=>by cases e),⟨show 1<=140737488351232 by decide,hm⟩,λi x hx=>⟨_,rfl,?_⟩⟩;have hi:i=0:=by have:=(List.getElem?_eq_some_iff.1 hx).1;simpa using this
 subst hi;obtain rfl:l[q+1]=x:=by simpa using hx
 rw[Nat.zero_mul];exact⟨by simpa[Addr.add]using hc,hz⟩
theorem Oi(h0:AA6 w0 w){l:List ByteArray}(hl:Row DL 1 w0 u l)(hz:Wz l)(k:Nat)(hk:k<=100)(ob:Bool):Calls prog 237 #[u,cI cJ (k:Int),cE ob] w λe w'=>VY w w' k l.length e/\AA6 w w':=by
 have hlr:=hl;obtain⟨p,c,rfl,-,⟨-,hcap⟩,-⟩:=hl;have hzl:=hz.1;go_enter func237,ntmps237;go_upto_region 2 with fail;go_cut[23]from 12 to 22 (λv wx=>∃r:Bool,v=cE r/\(r=cA->k<=l.length/\(l.length-k)%2=0)/\wx=w)
 ·by_cases h1:l.length<k
  ·have Fw:(l.length:Int)<k:=(by omega);go_wp2;go_meet;exact⟨_,rfl,(λh=>by cases h),rfl⟩
  ·have Fw:¬(l.length:Int)<k:=(by omega);go_wp2;go_meet
   ·exact⟨_,rfl,λh=>⟨by omega,by
    have:((l.length:Int)-(k:Int))%2=0:=by simpa using h
    omega⟩,rfl⟩
 obtain⟨r,rfl,hr,rfl⟩:=hcut;cases r;rotate_left
 ·go_wp2;go_ret2;exact⟨⟨_,cA,[],[],rfl,⟨cX,0,0,rfl⟩,λh=>by cases h⟩,AL⟩
 obtain⟨hr1,hr2⟩:=hr rfl;replace hr2:=Wx hr2;go_wp2;go_loopw[8,9,10,11] (λv i _ _ wr=>∃(q:Nat) (bl:List Bd) (F:List Nat),q<=l.length/\i=cI cJ (q:Int)/\Hid ((l.length-q)%2=0)/\bl.length<=q/\AZ wr wc.heap.size 234 4 (bl.map nT) v F/\F.Nodup/\Bz bl/\AA6 wc wr) (λ_ i _ _ _=>l.length-(intOf i).toNat);exact⟨k,[],[],hr1,rfl,hr2,AY,.nil,by simp,(λa h=>by cases h),AL⟩;obtain⟨q,bl,F,hq,rfl,hmod,hbl,hv,hF,hbz,hb⟩:=hrel;obtain⟨wo,rfl⟩:=again wr;obtain⟨pv,cv,rfl⟩:=hv.slice;rw[List.length_map]at hv⊢;by_cases hend:q=l.length
 ·subst hend;go_wp2;go_ret2;exact⟨⟨_,cC,bl,F,rfl,⟨_,_,_,rfl⟩,λ_=>⟨hr1,hbl,hv,hF,hbz⟩⟩,hb⟩
 ·have hlt2:q+2<=l.length:=by have:=hmod.out;omega
  have hlt:q<l.length:=by omega
  have A8:(q:Int)<l.length:=by omega
  have AGh:(q:Int)+2<=(c:Int):=by omega
  have hwx:IntKind.i64.wrap ((q:Int)+1)=((q+1:Nat):Int):=IntWalk.i64_in _ (by omega);have AJF:IntKind.i64.wrap ((q:Int)+2)=((q+2:Nat):Int):=IntWalk.i64_in _ (by omega);obtain⟨a,rfl,d0⟩:=CV hlr hlt;have hw:=AB h0 hb;replace d0:=AA hw d0;have hlt1:q+1<l.length:=by omega
  have hA:=FT hw (row_one hlr hlt1 (m:=c-(q+1)) (by omega)) ⟨show 1<=10000000 by decide,by simpa using Dl hz hlt1⟩ ob;go_wp2_with fail;refine hA.mono ?_;rintro e w2 ⟨⟨v1,b1,al,F1,rfl,⟨p1,m1,c1,rfl⟩,h1⟩,hb2⟩;have hn1:al.length=1\/b1=cA:=by
   cases b1
   ·exact .inr rfl
   ·exact .inl (h1 rfl).1
  have d2:=AA hb2 d0;have hN:=Bn (Below.refl (w2.alloc (.cells #[cS l[q]] 9)).heap.size _) (DN (l:=[l[q]]) (Ae.alloc w2 [cS l[q]] 9) ⟨show 1<=10000000 by decide,by simpa using Dl hz hlt⟩);simp only[List.length_cons,List.length_nil,Nat.zero_add,List.all_cons,List.all_nil,Bool.and_true]at hN;have hzs:=Dl hz hlt;have hb3:=(AB hb hb2).alloc (AB hb hb2).size (.cells #[cS l[q]] 9);have hbn:=AB hb2 (AJ w2 (.cells #[cS l[q]] 9));replace hv:=hv.same (w':=w2.alloc (.cells #[cS l[q]] 9)) λb hb'=>hbn.block b (hv.fp b hb').2;have d3:=AA hbn d0;have h2:b1=cC->al.length=1/\AZ (w2.alloc (.cells #[cS l[q]] 9)) wo.heap.size 77 3 (al.map Ls) (cY p1 m1 c1) F1/\Az al:=λe=>by
   obtain⟨k1,k2,k3,k4⟩:=h1 e;exact⟨k1,k2.same λb hb'=>Below.heap_alloc _ _ _ (k2.fp b hb').2,k4⟩
  generalize hs1:l[q]=s1 at*;generalize nm s1=nv at*;go_wp2_with fail;refine hN.mono ?_;rintro e w3 ⟨rfl,rfl⟩;generalize hW:w2.alloc _=W at*;have hno:VY wc W k l.length (.returned (.tuple #[cY cX 0 0,cE cA])):=⟨_,cA,[],[],rfl,⟨cX,0,0,rfl⟩,λh=>by cases h⟩;cases nv
  ·go_wp2;go_ret2;exact⟨hno,hb3⟩
  cases b1
  ·go_wp2;go_ret2;exact⟨hno,hb3⟩
  obtain⟨k1,k2,k3⟩:=h2 rfl;obtain⟨x,rfl⟩:∃x,al=[x]:=List.length_eq_one_iff.1 k1;have hxz:x.s.size<=10000000:=k3 x (by simp)
  have hrow:=k2.view (E:=Lg) (ok:=VJ) MX (λx g o f h1 h2=>vA h1 h2) (by unfold Ln;simp) (λy hy=>by
   obtain rfl:=List.mem_singleton.1 hy;unfold VJ Sz
   omega)
  obtain⟨pa,ca,he,-,-,hat⟩:=hrow;obtain⟨ag,rfl,f0,⟨f1,-⟩,f2⟩:=hat 0 x rfl;obtain⟨rfl,rfl,rfl⟩:p1=cP ag/\m1=1/\c1=ca:=by simpa using he
  rw[Nat.zero_mul]at f0 f1 f2;change W.cell? ag=_ at f0;change W.cell? ⟨ag.block,ag.off+1,cX⟩=_ at f1;change W.cell? ⟨ag.block,ag.off+2,cX⟩=_ at f2;have Fw:(0:Int)<((1:Nat):Int):=by decide
  replace hv:=hv.same (w':=W.drew) λb hb'=>(Below.refl W.heap.size W).drew.block b (hv.fp b hb').2;have hbd:AA6 wc W.drew:=hb3.drew;go_wp2
  refine ALR (S:=GC (λv1=>AA6 W v1/\AZ v1 wc.heap.size 234 4 (bl.map nT) (cY pv bl.length cv) F/\AA6 wc v1) (R1 9 10 (λv v1=>∃pb,v=cY (cP ⟨pb,0,cX⟩) 1 1/\Ae v1 pb [cS s1,cI cJ x.k,cS x.s,cI cJ x.n])) 10
   (λv v1=>∃p c F',v=cY p (bl.length+1) c/\AZ v1 wc.heap.size 234 4 ((bl++[(⟨s1,x⟩:Bd)]).map nT) v F'/\F'.Nodup/\AA6 wc v1)) (GC.start ⟨(Below.refl W.heap.size W).drew,hv,hbd⟩) ?_
  iterate 9((refine AU.f (λz=>z.s.keep rfl rfl) (λz=>have hI:=z.s.k (z.f 10);ALS (AA hI.1 d3) (ALS (AA hI.1 f0) (ALS (AA hI.1 f1) (AA hI.1 f2)))) ?_))
  refine AU.free (λ_=>rfl) (λV L w1 K' Q' hS hi hR hd hK=>?_) ?_
  ·have hc:=hR.out 10 9 (by kernel_rfl) hi;have hI:=hS.k hc;have hb:=AJ w1 (.cells #[cS s1,cI cJ x.k,cS x.s,cI cJ x.n] 234);go_simp;(try simp only[pE]);exact hK.out _ _ rfl (hS.made (Cv λh=>absurd rfl h) ⟨AB hI.1 hb,hI.2.1.same λb hb'=>hb.block b (hI.2.1.fp b hb').2,AB hI.2.2 hb⟩ hc rfl ⟨_,rfl,Ae.alloc _ _ _⟩ rfl)
  (try simp only[pE]);refine AU.free (λ_=>rfl) (λV L w1 K' Q' hS hi hR hd hK=>?_) ?_
  ·obtain⟨pb,hp,hx⟩:=hS.val hi rfl (hd.out 9 (by kernel_rfl)) hi;have hI:=hS.k hi;refine VZ AAI _ _ rfl rfl hI.2.1 hF hp hx (by simp[Value.oneCell']) (uP (x:=⟨s1,x⟩) hx) (by simp) (by simp) rfl rfl (by rw[List.length_map];omega) (by decide) hI.2.2.size ?_;rintro v' w3 F' ⟨N7,Nh,rfl⟩ h1 h2 h3 h4 h5;rw[List.length_map]at h1⊢;exact hK.out _ _ rfl (GC.call ⟨_,_,F',rfl,by rw[List.map_append];exact h1,h2,hI.2.2.trans h5⟩)
  (try simp only[pE]);((refine AU.step (a1:=?_) (λ_=>rfl) (λV L w1 K' Q' hS hi hR hd hK=>?_) ?_ ?_ ?_;rotate_left);(· (go_simp;(try simp only[pE]);exact hK.out _ (hS.keep rfl rfl)));(· (intro V;rfl));(· (exact λL V V' Kt hl hv=>hv (10) (Classical.byContradiction λh=>by have:=Kt (11) (10) (by kernel_rfl) (by simpa using h);rw[hl]at this;cases this))));refine AU.nil λV w4 hS=>?_;obtain⟨p5,c5,F',GX,hv4,gM,hb4⟩:=hS.done rfl;rw[GX]at hv4;simp only[GX];have AEB:Bz (bl++[(⟨s1,x⟩:Bd)]):=λy hy=>by
   rcases List.mem_append.1 hy with h|h
   ·exact hbz y h
   ·rw[List.mem_singleton.1 h];exact⟨hzs,hxz⟩
  have hl4:(bl++[(⟨s1,x⟩:Bd)]).length=bl.length+1:=by simp
  rw[<-hl4]at hv4⊢;generalize bl++[(⟨s1,x⟩:Bd)]=bl2 at*;go_wp2;go_roundw;exact⟨q+2,bl2,F',by omega,by go_num,Wx (by have:=hmod.out;omega),by omega,hv4,gM,AEB,hb4⟩;simp[intOf];omega
end
section
open Word Num Dp
def Rw{α:Type}(k:Nat)(P:α->Prop)(l:List α):Prop:=l.length<=k/\∀v∈l,P v
def Rw.nil{P:α->Prop}:Rw k P []:=by simp[Rw]
theorem Rw.up{k':Nat}{P P':α->Prop}{l:List α}(h:Rw k P l)(hk:k<=k')(hP:∀v,P v->P' v):Rw k' P' l:=by grind [Rw]
theorem Rw.snoc{P P':α->Prop}{l:List α}(h:Rw k P l)(hP:∀v,P v->P' v){x:α}(hx:P' x):Rw (k+1) P' (l++[x]):=by grind [Rw]
def Rw.last{P:α->Prop}{l:List α}{x:α}(h:Rw k P (l++[x])):P x:=h.2 x (by simp)
theorem Rw.turn{k':Nat}{P P':α->Prop}{l:List α}{x y:α}(h:Rw k P (l++[x]))(hk:k<=k')(hP:∀v,P v->P' v)(hy:P' y):Rw k' P' (l++[y]):=by grind [Rw]
abbrev Tz(s:ByteArray):Prop:=s.size<=10000000
def um(x:Vr):Prop:=Tz x.n/\Tz x.t
def QW(k:Nat)(x:Cl):Prop:=nm x.n=cC/\Tz x.n/\Rw k um x.fs
def qEx(x:Ex):Prop:=nm x.n=cC/\Tz x.n
def qAg(x:Ag):Prop:=Tz x.s
def qBd(x:Bd):Prop:=Tz x.n/\Tz x.a.s
def qFr(x:Fr):Prop:=Tz x.f/\Tz x.b/\Rw 10000000 qBd x.vs
def qVt(x:Vt):Prop:=Tz x.c/\Rw 10000000 qAg x.vs
def gG(k:Nat)(x:Is):Prop:=RP x/\Tz x.d/\Tz x.n/\Rw 10000000 qAg x.as/\Rw k qFr x.fr/\Rw k qVt x.ob
def qIn(x:TH):Prop:=Tz x.b/\Tz x.a.s
def qPh(x:Ph):Prop:=Tz x.d/\Rw 10000000 qIn x.is
def qTm(x:Tm):Prop:=(x.k=1->x.to.length=1)/\(x.k=2->x.to.length=2)/\Tz x.a.s/\Rw 10 Tz x.to
def WI(k:Nat)(x:Bk):Prop:=Tz x.n/\Rw k qPh x.ps/\Rw k (gG k) x.cs/\qTm x.e
def QV(k:Nat)(x:Fn):Prop:=Tz x.n/\Tz x.r/\Rw k um x.ps/\Rw k um x.vs/\Rw k (WI k) x.bs
def WH(k:Nat)(x:Pg):Prop:=Rw k (QW k) x.cs/\Rw k um x.gs/\Rw k qEx x.xs/\Rw k (QV k) x.fs
section
variable {k k' : Nat} (hk : k <= k')
include hk
theorem QW.up{x:Cl}(h:QW k x):QW k' x:=⟨h.1,h.2.1,h.2.2.up hk λ_ h=>h⟩
theorem gG.up{x:Is}(h:gG k x):gG k' x:=⟨h.1,h.2.1,h.2.2.1,h.2.2.2.1,h.2.2.2.2.1.up hk λ_ h=>h,h.2.2.2.2.2.up hk λ_ h=>h⟩
theorem WI.up{x:Bk}(h:WI k x):WI k' x:=⟨h.1,h.2.1.up hk λ_ h=>h,h.2.2.1.up hk λ_ h=>gG.up hk h,h.2.2.2⟩
theorem QV.up{x:Fn}(h:QV k x):QV k' x:=⟨h.1,h.2.1,h.2.2.1.up hk λ_ h=>h,h.2.2.2.1.up hk λ_ h=>h,h.2.2.2.2.up hk λ_ h=>WI.up hk h⟩
theorem WH.up{x:Pg}(h:WH k x):WH k' x:=⟨h.1.up hk λ_ h=>QW.up hk h,h.2.1.up hk λ_ h=>h,h.2.2.1.up hk λ_ h=>h,h.2.2.2.up hk λ_ h=>QV.up hk h⟩
end
theorem Tz.sz{s:ByteArray}(h:Tz s):Sz s:=by grind
def Rw.ln{P:α->Prop}{l:List α}(h:Rw k P l)(hk:k<=10000000):Ln l:=by have:=h.1;unfold Ln;omega
theorem um.o{x:Vr}(h:um x):oq x:=⟨h.1.sz,h.2.sz⟩
theorem WH.o(hk:k<=10000000){x:Pg}(h:WH k x):oPg x:=by
 have m:(10000000:Nat)<=10000000:=AQ;refine⟨⟨h.1.ln hk,λc hc=>?_⟩,⟨h.2.1.ln hk,λv hv=>(h.2.1.2 v hv).o⟩,⟨h.2.2.1.ln hk,λv hv=>(h.2.2.1.2 v hv).2.sz⟩,h.2.2.2.ln hk,λf hf=>?_⟩
 ·obtain⟨h1,h2,h3⟩:=h.1.2 c hc;exact⟨h2.sz,h3.ln hk,λv hv=>(h3.2 v hv).o⟩
 ·obtain⟨h1,h2,h3,h4,h5⟩:=h.2.2.2.2 f hf;refine⟨h1.sz,h2.sz,⟨h3.ln hk,λv hv=>(h3.2 v hv).o⟩,⟨h4.ln hk,λv hv=>(h4.2 v hv).o⟩,h5.ln hk,λb hb=>?_⟩;obtain⟨g1,g2,g3,g4⟩:=h5.2 b hb;refine⟨g1.sz,⟨g2.ln hk,λx hx=>?_⟩,⟨g3.ln hk,λx hx=>?_⟩,g4.2.2.1.sz,g4.2.2.2.ln (by decide),λs hs=>(g4.2.2.2.2 s hs).sz⟩
  ·obtain⟨i1,i2⟩:=g2.2 x hx;exact⟨i1.sz,i2.ln m,λy hy=>⟨(i2.2 y hy).1.sz,(i2.2 y hy).2.sz⟩⟩
  ·obtain⟨-,i2,i3,i4,i5,i6⟩:=g3.2 x hx;refine⟨i2.sz,i3.sz,⟨i4.ln m,λy hy=>(i4.2 y hy).sz⟩,⟨i5.ln hk,λy hy=>?_⟩,i6.ln hk,λy hy=>?_⟩
   ·obtain⟨j1,j2,j3⟩:=i5.2 y hy;exact⟨j1.sz,j2.sz,j3.ln m,λz hz=>⟨(j3.2 z hz).1.sz,(j3.2 z hz).2.sz⟩⟩
   ·obtain⟨j1,j2⟩:=i6.2 y hy;exact⟨j1.sz,j2.ln m,λz hz=>(j2.2 z hz).sz⟩
structure qSt(q:Pg)(wh:Int):Prop where
 r:0<=wh/\wh<=9
 c:wh=1->q.cs≠ []
 f:3<=wh->q.fs≠ []
 b:5<=wh->wh<=8->∃fr f br b,q.fs=fr++[f]/\f.bs=br++[b]
 i:7<=wh->wh<=8->∃fr f br b cr x,q.fs=fr++[f]/\f.bs=br++[b]/\b.cs=cr++[x]
def IL(q:Pg)(wh lg:Int):Dt:=.agg [Qk q,dN wh,dN lg]
structure Ct(w:World)(B N R:Nat)(q:Pg)(wh lg:Int)(k:Nat):Prop where
 own:Own w B N (IL q wh lg) R 0
 typ:∃cur,w.heap[R]? =cP (.cells cur 247 (0,0))
 qq:WH k q
 ss:qSt q wh
 kk:k<=5000000
 ll:0<=lg/\lg<=k
theorem Vv{s:ByteArray}(h:nm s=cC):s≠BA/\s≠Ao/\s≠Fx/\s≠Bv:=by
 refine⟨?_,?_,?_,?_⟩<;>(intro e;subst e;revert h;decide)
def DC(w:World)(g:Nat)(e:TypeId):Prop:=∃cur,w.heap[g]? =cP (.cells cur e (0,0))
section
variable {w w1 : World} {B N R g : Nat} {q q' : Pg} {wh lg : Int} {k : Nat} {e T : TypeId}
theorem DC.Bw(h:DC w g e)(i:Nat):w.frozen? ⟨g,i,cX⟩=cA:=by
 obtain⟨cur,e⟩:=h;unfold World.frozen?;grind
theorem DC.lt(h:DC w g e):g<w.heap.size:=by grind [DC]
def DC.nx(h:DC w g e)(hb:AA6 w w1):DC w1 g e:=by
 have hl:=h.lt;obtain⟨cur,h⟩:=h;exact⟨cur,(hb.block g hl).trans h⟩
theorem QE(h:w.ownsRow B e s (cY (cP ⟨g,0,cX⟩) n c) n xs):DC w g e:=by
 rcases h.2 with⟨h1,_⟩|⟨g',cap,cur,h1,_,h2,_⟩
 ·cases h1
 ·obtain rfl:g=g':=by simpa using(Value.slice.inj h1).1
  exact⟨cur,h2⟩
def own_ne(h:w.ownsRow B e s v n xs)(hT:DC w g T)(hne:T≠e):v.ownBlock≠cP g:=λe1=>by
 obtain⟨cur,hT⟩:=hT;rcases h.2 with⟨rfl,_⟩|⟨g',cap,cur',rfl,_,h2,_⟩
 ·cases e1
 ·obtain rfl:g'=g:=by simpa[Value.ownBlock]using e1
  rw[hT]at h2;injection h2 with h2;injection h2 with _ h2;exact hne h2
def Ed(h:w.ownsRow B e s v n xs)(hg:g<B):v.ownBlock≠cP g:=λe1=>by
 have:=(h.lt g e1).1;omega
theorem Ct.kp(h:Ct w B N R q wh lg k)(hb:AA6 w w1):Ct w1 B N R q wh lg k:=⟨h.own.kp (hb.mono h.own.sz),DC.nx h.typ hb,h.qq,h.ss,h.kk,h.ll⟩
def Ct.Bw(h:Ct w B N R q wh lg k)(i:Nat):w.frozen? ⟨R,i,cX⟩=cA:=DC.Bw h.typ i
theorem Ct.lt(h:Ct w B N R q wh lg k):R<w.heap.size:=by grind [cases Ct]
theorem Ct.cw(h:Ct w B N R q wh lg k):w.cell? ⟨R,5,cX⟩=cP (cI cJ wh):=by
 have s0:=h.own.spot;unfold IL at s0;exact Aq.cell (s0.nth 1 rfl (n:=5) (by simp[Dt.DF,Ig]))
theorem Ct.cl(h:Ct w B N R q wh lg k):w.cell? ⟨R,6,cX⟩=cP (cI cJ lg):=by
 have s0:=h.own.spot;unfold IL at s0;exact Aq.cell (s0.nth 2 rfl (n:=6) (by simp[Dt.DF,Dt.wd,Ig,dN]))
def Ct.ssa(h:Ct w B N R q wh lg k):w.cell? ⟨R,0,cX⟩=cP (cE q.ssa):=by
 have s0:=h.own.spot;unfold IL at s0;have s1:=s0.nth 0 rfl rfl;unfold Qk at s1;exact Aq.cell (s1.nth 0 rfl rfl)
theorem Ew{cur:Array Value}(e1:w.heap[R]? =cP (.cells cur T (0,0)))(a:Addr)(v:Value):DC (w.setCell a v) R T:=by
 by_cases h:a.block=R
 ·subst h;unfold DC World.setCell;simp only[Array.getElem?_modify,if_true,e1,Option.map_some];split<;>exact⟨_,rfl⟩
 ·exact⟨cur,(Below.heap_setCell _ _ _ _ (λe=>h e.symm)).trans e1⟩
def Ct.setW(h:Ct w B N R q wh lg k)(n:Int)(hs:qSt q n):Ct (w.setCell ⟨R,5,cX⟩ (cI cJ n)) B N R q n lg k:=by
 have s0:=h.own.spot;unfold IL at s0;have s1:=s0.nth 1 rfl (n:=5) (by simp[Dt.DF,Ig]);obtain⟨cur,ht⟩:=h.typ;exact⟨s1.set1 (v1:=cI cJ n) rfl,Ew ht _ _,h.qq,hs,h.kk,h.ll⟩
def Ct.qH(h:Ct w B N R q wh lg k)(n:Int)(hn:0<=n/\n<=k):Ct (w.setCell ⟨R,6,cX⟩ (cI cJ n)) B N R q wh n k:=by
 have s0:=h.own.spot;unfold IL at s0;have s1:=s0.nth 2 rfl (n:=6) (by simp[Dt.DF,Dt.wd,Ig,dN]);obtain⟨cur,ht⟩:=h.typ;exact⟨s1.set1 (v1:=cI cJ n) rfl,Ew ht _ _,h.qq,h.ss,h.kk,hn⟩
def Ct.up(h:Ct w B N R q wh lg k)(hk:k+1<=5000000):Ct w B N R q wh lg (k+1):=⟨h.own,h.typ,WH.up (Aa) h.qq,h.ss,hk,by have:=h.ll;omega⟩
def Ct.low(h:Ct w B N R q wh lg k)(v:Value)(i:Nat):Below B w (w.setCell ⟨R,i,cX⟩ v):=(AL).setCell h.own.ge v
def Ct.sp(h:Ct w B N R q wh lg k):Aq w B N (IL q wh lg) R 0 (Qk q) R 0 (λy=> .agg [y,dN wh,dN lg]):=by
 have s0:=h.own.spot;unfold IL at s0;exact s0.nth 0 rfl rfl
end
theorem Ad.Yq{W:World}{bs ap st g0 o0:Nat}{one:List Value}{V:Nat->Value}{L:Nat->Bool}{q':Pg}{l:List Dt}{d:Dt}{F:Dt->Dt}(h:Ad W B e s bs ap st one n xs v ⟨g0,o0,cX⟩ V L w) (ha:L ap=cC) (hst:L st=cC) (hR:Ct W B N R q wh lg k) (h0:Aq W B N (IL q wh lg) R 0 (.row e s l) g0 o0 F) (hc:W.cell? ⟨g0,o0,cX⟩=cP v) (hx:W.ownsRow B e s v n xs) (hn:n=l.length) (he:247≠e)(hd:∀w1 pb,AA6 W w1->Ae w1 pb one->∃fd,Af w1 N d pb 0 fd/\fd.Nodup) (hdw:d.wd=s) (h1:one.length=s) (hF:F (.row e s (l++[d]))=IL q' wh lg) (hq:WH (k+1) q') (hs:qSt q' wh) (hk:k+1<=5000000):Ct w B w.heap.size R q' wh lg (k+1)/\Below B W w:=by
 obtain⟨⟨N',ho⟩,hb,-,w2,u,hw,hg2⟩:=h.done ha hst h0 (AL) hc hx hn (λw1 pb a1 a2 a3 a4=>hd w1 pb a1 a4) hdw h1;have hown:v.ownBlock≠cP R:=own_ne hx hR.typ he;refine⟨⟨(hF▸ho).up ho.sz (AQ),?_,hq,hs,hk,by have:=hR.ll;omega⟩,hb⟩;obtain⟨cur,ht⟩:=hR.typ;by_cases hg:g0=R
 ·subst hg hw;exact Ew (hg2.trans ht) _ _
 ·exact⟨cur,(h.far ha hst (λe=>hg e.symm) hown hR.lt).trans ht⟩
end
section
open Word Num Dp
def Gb(w:World)(B R k:Nat)(e:Ending)(w':World):Prop:=∃(b:Bool) (why:Int),e=.returned (.tuple #[cE b,cI cJ why])/\(b=cC->why=0->∃N q wh lg,Ct w' B N R q wh lg (k+1))/\(b=cA->AA6 w w')
theorem ABJ{w':World}{n:Int}(h:n≠0):Gb w B R k (.returned (.tuple #[cE cC,cI cJ n])) w':=⟨_,_,rfl,(λ_ e=>absurd e h),λe=>by cases e⟩
def mR(wh:Int)(e:Ending):Prop:=∃b:Bool,e=.returned (cE b)/\(b=cC->wh<=2\/wh=9)
def uX(wh:Int)(e:Ending):Prop:=∃b:Bool,e=.returned (cE b)/\(b=cC->5<=wh/\wh<=8)
theorem Ey(hR:Ct w B N R q wh lg k):Calls prog 169 #[.pointer (cP ⟨R,0,cX⟩)] w λe w'=>mR wh e/\w=w':=by
 have c:=hR.cw;go_enter func169,ntmps169
 cases h1:decide (wh<=2)with
 |true=>
  go_wp2;go_ret
  exact⟨⟨_,rfl,λ_=> .inl (BK h1)⟩,rfl⟩
 |false=>
  go_wp2;go_ret;exact⟨⟨_,rfl,λh=> .inr (by simpa using h)⟩,rfl⟩
theorem Hu(hR:Ct w B N R q wh lg k):Calls prog 232 #[.pointer (cP ⟨R,0,cX⟩)] w λe w'=>uX wh e/\w=w':=by
 have c:=hR.cw;go_enter func232,ntmps232
 cases h1:decide (5<=wh)with
 |true=>
  have h2:=BK h1;go_wp2;go_ret
  exact⟨⟨_,rfl,λh=>⟨h2,by simpa using h⟩⟩,rfl⟩
 |false=>
  go_wp2;go_ret;exact⟨⟨_,rfl,λh=>by cases h⟩,rfl⟩
section
variable {w : World} {B N R : Nat} {q : Pg} {wh lg : Int} {k : Nat}
theorem Ct.IV(h:Ct w B N R q wh lg k):∃v xs,w.cell? ⟨R,1,cX⟩=cP v/\w.ownsRow B 153 2 v q.cs.length xs/\(∃p c,v=cY p q.cs.length c)/\∃F,Aq w B N (IL q wh lg) R 0 (.row 153 2 (q.cs.map gP)) R 1 F/\∀l,F (.row 153 2 (l.map gP))=IL {q with cs:=l} wh lg:=by
 have s0:=h.sp;unfold Qk at s0;have s1:=s0.nth 1 rfl (n:=1) (by simp[Dt.DF,Dt.wd]);rw[Nat.zero_add]at s1;obtain⟨v,xs,h1,h2,h3⟩:=s1.owns;rw[List.length_map]at h2 h3;exact⟨v,xs,h1,h2,h3,_,s1,λl=>rfl⟩
theorem Ct.ADU(h:Ct w B N R q wh lg k):∃v xs,w.cell? ⟨R,2,cX⟩=cP v/\w.ownsRow B 71 2 v q.gs.length xs/\(∃p c,v=cY p q.gs.length c)/\∃F,Aq w B N (IL q wh lg) R 0 (.row 71 2 (q.gs.map IQ)) R 2 F/\∀l,F (.row 71 2 (l.map IQ))=IL {q with gs:=l} wh lg:=by
 have s0:=h.sp;unfold Qk at s0;have s1:=s0.nth 2 rfl (n:=2) (by simp[Dt.DF,Dt.wd]);rw[Nat.zero_add]at s1;obtain⟨v,xs,h1,h2,h3⟩:=s1.owns;rw[List.length_map]at h2 h3;exact⟨v,xs,h1,h2,h3,_,s1,λl=>rfl⟩
theorem Ct.ADT(h:Ct w B N R q wh lg k):∃v xs,w.cell? ⟨R,3,cX⟩=cP v/\w.ownsRow B 155 2 v q.xs.length xs/\(∃p c,v=cY p q.xs.length c)/\∃F,Aq w B N (IL q wh lg) R 0 (.row 155 2 (q.xs.map nS)) R 3 F/\∀l,F (.row 155 2 (l.map nS))=IL {q with xs:=l} wh lg:=by
 have s0:=h.sp;unfold Qk at s0;have s1:=s0.nth 3 rfl (n:=3) (by simp[Dt.DF,Dt.wd]);rw[Nat.zero_add]at s1;obtain⟨v,xs,h1,h2,h3⟩:=s1.owns;rw[List.length_map]at h2 h3;exact⟨v,xs,h1,h2,h3,_,s1,λl=>rfl⟩
theorem Ct.Tc(h:Ct w B N R q wh lg k):∃v xs,w.cell? ⟨R,4,cX⟩=cP v/\w.ownsRow B 66 5 v q.fs.length xs/\(∃p c,v=cY p q.fs.length c)/\∃F,Aq w B N (IL q wh lg) R 0 (.row 66 5 (q.fs.map dFn)) R 4 F/\∀l,F (.row 66 5 (l.map dFn))=IL {q with fs:=l} wh lg:=by
 have s0:=h.sp;unfold Qk at s0;have s1:=s0.nth 4 rfl (n:=4) (by simp[Dt.DF,Dt.wd]);rw[Nat.zero_add]at s1;obtain⟨v,xs,h1,h2,h3⟩:=s1.owns;rw[List.length_map]at h2 h3;exact⟨v,xs,h1,h2,h3,_,s1,λl=>rfl⟩
end
theorem Bg{a:Addr}{l:List ByteArray}(h:Row DL 1 w (cY (cP a) n c) l)(hq:0<l.length):w.cell? a=cP (cS l[0]):=by
 obtain⟨b,e,h1⟩:=CV h hq;obtain rfl:a=b:=by simpa using e
 simpa[Addr.add]using h1
def AAH:(prog.info? 153).map (λi=>(i.zero,i.size,i.bytes))=cP (cP (.agg #[cS .empty,cY cX 0 0]),2,40):=by kernel_rfl
theorem U3(h0:AA6 w0 w)(hR:Ct w B N R q wh lg k)(hB:w0.heap.size<=B)(hk:k+1<=5000000){l:List ByteArray}(hl:Row DL 1 w0 u l)(hz:Wz l)(hp:0<l.length)(hw:l[0]=⟨#[99,108,97,115,115]⟩):Calls prog 213 #[.pointer (cP ⟨R,0,cX⟩),u] w λe w'=>Gb w B R k e w'/\Below B w w':=by
 obtain⟨p,c,rfl⟩:=hl.slice;obtain⟨a,rfl,-⟩:=CV hl hp;have d0:=AA h0 (Bg hl hp);rw[hw]at d0;have PV:(0:Int)<l.length:=by omega
 have hBw:B<=w.heap.size:=by have:=hR.own.ge;have:=hR.lt;omega
 go_enter func213,ntmps213;go_upto_region 3 with fail;go_cut[34]from 19 to 33 (λv wx=>∃r:Bool,v=cE r/\(r=cA->(wh<=2\/wh=9)/\l.length=2/\nm (l.getD 1 Bv)=cC)/\AA6 w wx)
 ·have hO:=Ey hR;go_wp2_with fail;refine hO.mono ?_;rintro e w2 ⟨⟨b,rfl,hb0⟩,rfl⟩;cases b
  ·go_wp2;go_meet;exact⟨_,rfl,(λh=>by cases h),AL⟩
  replace hb0:=hb0 rfl
  cases h2:((l.length:Int) !=2)with
  |true=>
   go_wp2;go_meet
   exact⟨_,rfl,(λh=>by cases h),AL⟩
  |false=>
   have hl2:l.length=2:=by
    have:(l.length:Int)=2:=(by simpa using h2);omega
   have C8:1<l.length:=(by omega);have Fw:(1:Int)<l.length:=(by omega);obtain⟨a',ea,d1⟩:=BQ hl (q:=0) C8;obtain rfl:a=a':=(by simpa using ea);simp only[Nat.zero_add]at d1;replace d1:=AA h0 d1;have hg:l.getD 1 Bv=l[1]:=(by rw[List.getD_eq_getElem?_getD,List.getElem?_eq_getElem C8];rfl);have hz1:=Dl hz C8;have hb:=AJ w (.cells #[cS l[1]] 9);have hN:=Bn (Below.refl (w.alloc (.cells #[cS l[1]] 9)).heap.size _) (DN (l:=[l[1]]) (Ae.alloc w [cS l[1]] 9) ⟨show 1<=10000000 by decide,by simpa using hz1⟩);simp only[List.length_cons,List.length_nil,Nat.zero_add,List.all_cons,List.all_nil,Bool.and_true]at hN;rw[<-hg]at hN d1 hb;generalize l.getD 1 Bv=s1 at*;replace hl2:=Wx hl2;generalize hv:nm s1=v at*;clear hg hO;go_wp2_with fail;refine hN.mono ?_;rintro e w3 ⟨rfl,rfl⟩;cases v
   ·go_wp2;go_meet;exact⟨_,rfl,(λh=>by cases h),hb⟩
   ·go_wp2;go_meet;exact⟨_,rfl,(λ_=>⟨hb0,hl2.out,by trivial⟩),hb⟩
 obtain⟨r,rfl,hr,hb⟩:=hcut;replace hR:=hR.kp hb;have hBb:=hb.mono hBw;cases r;rotate_left
 ·go_wp2;go_ret2;exact⟨ABJ (by decide),hBb⟩
 obtain⟨WJ,hl2,hnm⟩:=hr rfl;have BO:=hR.kp (Below.refl wc.heap.size wc).drew;obtain⟨vc,xs,hc,hox,⟨pc,cc,rfl⟩,F,hsp,hF⟩:=BO.IV;have hc':wc.cell? ⟨R,1,cX⟩=cP (cY pc q.cs.length cc):=hc;have Qi:=λw=>D8 (q.cs.length:Int) 8 w;go_wp2_with fail;refine(Qi _).mono ?_;rintro e w3 ⟨⟨r,rfl,hr2⟩,rfl⟩;by_cases hr0:r=0;rotate_left
 ·have ADk:(r==0)=cA:=by simpa using hr0
  go_wp2;go_ret2;exact⟨⟨_,_,rfl,(λ_ h=>absurd h hr0),λh=>by cases h⟩,hBb⟩
 subst hr0;have hl8:=hr2 rfl;have C8:1<l.length:=by omega
 have Fw:(1:Int)<l.length:=by omega
 obtain⟨a',ea,d1⟩:=BQ hl (q:=0) C8;obtain rfl:a=a':=by simpa using ea
 simp only[Nat.zero_add]at d1;replace d1:=AA (AB h0 hb) d1;have hag:a.block<B:=A9 (World.block_lt_of_cell? w0 _ (Bg hl hp)) hB;have hg:l.getD 1 Bv=l[1]:=by rw[List.getD_eq_getElem?_getD,List.getElem?_eq_getElem C8];rfl
 have hz1:Tz l[1]:=Dl hz C8;rw[hg]at hnm;generalize l[1]=s1 at*;have EY:(cY pc q.cs.length cc).ownBlock≠cP R:=own_ne hox BO.typ (by decide);have DT:(cY pc q.cs.length cc).ownBlock≠cP a.block:=Ed hox hag;have hfz:=BO.Bw 1;have hlt:=BO.lt;have hsz:B<=wc.drew.heap.size:=AX hBw hb.size;replace hnm:=Wx hnm;go_wp2;clear hc';refine ALR (S:=Ad wc.drew B 153 2 10 11 15 [cS s1,cY cX 0 0] q.cs.length xs (cY pc q.cs.length cc) ⟨R,1,cX⟩) (Ad.start (AL)) ?_;iterate 10((refine AU.f (λz=>z.s.keep rfl rfl rfl) (λz=>have hs:=z.f 15;ALS (z.s.cellOf hs hc EY) (z.s.cellOf hs (show wc.drew.cell? ⟨a.block,a.off+1,cX⟩=cP (cS s1)from d1) DT)) ?_))
 (apply AU.w rfl;intro V L w1 _ _ _ z hK;go_simp;exact hK rfl (z.s.made (z.o 11) rfl _);(try simp only[pE]));(refine Ad.aq (AAH) (underlying22) (hox) ?_;(try simp only[pE]));iterate 3((refine AU.f (λz=>z.s.keep rfl rfl rfl) (λz=>z.f 15) ?_))
 (refine Ad.sv (λhS hi=>ALS (hS.cellOf hi hc EY) (hS.EA hi (o:=1) hlt hfz EY)) ?_;simp only[Act.put]);refine AU.nil λV w1 hS=>?_;obtain⟨Dc,hb4⟩:=hS.Yq (d:=gP ⟨s1,[]⟩) (q':={q with cs:=q.cs++[⟨s1,[]⟩]}) rfl rfl BO hsp hc hox (by simp) (by decide) (λw1 pb _ hx=>⟨[]++[],Af.of (AP.cc (hx.c 0 _ rfl) rfl (AP.cr (l:=[]) (hx.c 1 _ rfl) AZ.nil AP.cn)),by simp⟩) rfl rfl (by rw[<-hF,List.map_append];rfl) ⟨BO.qq.1.snoc (λ_ h=>QW.up (Aa) h) ⟨hnm.out,hz1,Rw.nil⟩,BO.qq.2.1.up (Aa) λ_ h=>h,BO.qq.2.2.1.up (Aa) λ_ h=>h,BO.qq.2.2.2.up (Aa) λ_ h=>QV.up (Aa) h⟩ ⟨BO.ss.r,(λ_=>by simp),BO.ss.f,(λh1 h2=>by omega),λh1 h2=>by omega⟩ hk;have hb5:=(hBb.trans ((Below.refl wc.heap.size wc).drew.mono (AX hBw hb.size))).trans hb4;have c5:=Dc.cw;have f5:=Dc.Bw 5;have CS:=Dc.setW 1 ⟨by omega,(λ_=>by simp),(λh=>absurd h (by decide)),(λh=>absurd h (by decide)),λh=>absurd h (by decide)⟩;have hb6:=hb5.trans (Dc.low (cI cJ 1) 5);go_wp2;go_ret2;exact⟨⟨_,_,rfl,(λ_ _=>⟨_,_,_,_,CS⟩),λh=>by cases h⟩,hb6⟩
end
section
open Word Num Dp
section
variable {w : World} {B N R : Nat} {q : Pg} {wh lg : Int} {k : Nat}
theorem Gi{o g0 o0:Nat}{d:Dt}{l1 l2:List Dt}{x:Dt}{F:Dt->Dt}(h:Aq w B N d g o (.row e s (l1++x::l2)) g0 o0 F):∃g' cap,w.cell? ⟨g0,o0,cX⟩=cP (cY (cP ⟨g',0,cX⟩) (l1.length+1+l2.length) cap)/\DC w g' e/\B<=g'/\Aq w B N d g o x g' (l1.length*s) (λy=>F (.row e s (l1++y::l2))):=by
 obtain⟨g',cap,h1,-,-,h2⟩:=h.row;obtain⟨v,xs,h3,h4,-⟩:=h.owns;rw[h1]at h3;obtain rfl:_=v:=by simpa using h3
 rw[show(l1++x::l2).length=l1.length+1+l2.length by simp;omega]at h4;exact⟨g',cap,h1,QE h4,h2.at.1,h2⟩
structure Ji(w:World)(B N R:Nat)(q:Pg)(wh lg:Int)(g o:Nat)(e:TypeId)(s:Nat)(l:List Dt)(n:Nat)(F:Dt->Dt)(v:Value)(xs:List Value):Prop where
 rc:w.cell? ⟨g,o,cX⟩=cP v
 rx:w.ownsRow B e s v n xs
 rs:∃p c,v=cY p n c
 rp:Aq w B N (IL q wh lg) R 0 (.row e s l) g o F
 rn:n=l.length
def rowAt{o:Nat}{l:List Dt}{F:Dt->Dt}(h:Aq w B N (IL q wh lg) R 0 (.row e s l) g o F)(hn:n=l.length):∃v xs,Ji w B N R q wh lg g o e s l n F v xs:=by
 obtain⟨v,xs,h1,h2,h3⟩:=h.owns;subst hn;exact⟨v,xs,h1,h2,h3,h,rfl⟩
theorem Ct.AAS(h:Ct w B N R q wh lg k){cr:List Cl}{c0:Cl}(hq:q.cs=cr++[c0]):∃CB cap F v xs,w.cell? ⟨R,1,cX⟩=cP (cY (cP ⟨CB,0,cX⟩) (cr.length+1) cap)/\DC w CB 153/\Ji w B N R q wh lg CB (cr.length*2+1) 71 2 (c0.fs.map IQ) c0.fs.length F v xs/\∀l,F (.row 71 2 (l.map IQ))=IL {q with cs:=cr++[{c0 with fs:=l}]} wh lg:=by
 obtain⟨_,_,_,_,_,F,s1,hF⟩:=h.IV;rw[hq,List.map_append,List.map_singleton]at s1;obtain⟨CB,cap,h1,h2,-,s2⟩:=Gi s1;rw[List.length_map]at h1 s2;have s3:=Aq.nth (l:=[dS c0.n,.row 71 2 (c0.fs.map IQ)]) s2 1 rfl (n:=1) (by simp[Dt.DF,Dt.wd,dS]);obtain⟨v,xs,hr⟩:=rowAt s3 (n:=c0.fs.length) (by simp);have key:∀c':Cl,F (.row 153 2 (cr.map gP++[gP c']))=IL {q with cs:=cr++[c']} wh lg:=λc'=>by
  rw[<-hF (cr++[c']),List.map_append,List.map_singleton]
 exact⟨CB,cap,_,v,xs,h1,h2,hr,λl=>key {c0 with fs:=l}⟩
structure RO(w:World)(B N R:Nat)(q:Pg)(wh lg:Int)(fr:List Fn)(f:Fn)(FB cap:Nat):Prop where
 lc:w.cell? ⟨R,4,cX⟩=cP (cY (cP ⟨FB,0,cX⟩) (fr.length+1) cap)
 lt:DC w FB 66
 lp:∃F v xs,Ji w B N R q wh lg FB (fr.length*5+2) 71 2 (f.ps.map IQ) f.ps.length F v xs/\∀l,F (.row 71 2 (l.map IQ))=IL {q with fs:=fr++[{f with ps:=l}]} wh lg
 lv:∃F v xs,Ji w B N R q wh lg FB (fr.length*5+3) 71 2 (f.vs.map IQ) f.vs.length F v xs/\∀l,F (.row 71 2 (l.map IQ))=IL {q with fs:=fr++[{f with vs:=l}]} wh lg
 lb:∃F v xs,Ji w B N R q wh lg FB (fr.length*5+4) 82 9 (f.bs.map Pb) f.bs.length F v xs/\∀l,F (.row 82 9 (l.map Pb))=IL {q with fs:=fr++[{f with bs:=l}]} wh lg
theorem Ct.Fy(h:Ct w B N R q wh lg k)(hq:q.fs=fr++[f]):∃FB cap,RO w B N R q wh lg fr f FB cap:=by
 obtain⟨_,_,_,_,_,F,s1,hF⟩:=h.Tc;rw[hq,List.map_append,List.map_singleton]at s1;obtain⟨FB,cap,h1,h2,-,s2⟩:=Gi s1;rw[List.length_map]at h1 s2;have key:∀f':Fn,F (.row 66 5 (fr.map dFn++[dFn f']))=IL {q with fs:=fr++[f']} wh lg:=λf'=>by
  rw[<-hF (fr++[f']),List.map_append,List.map_singleton]
 refine⟨FB,cap,h1,h2,?_,?_,?_⟩
 ·obtain⟨v,xs,hr⟩:=rowAt (Aq.nth (l:=[dS f.n,dS f.r,.row 71 2 (f.ps.map IQ),.row 71 2 (f.vs.map IQ),.row 82 9 (f.bs.map Pb)]) s2 2 rfl (n:=2) (by simp[Dt.DF,Dt.wd,dS])) (n:=f.ps.length) (by simp);exact⟨_,v,xs,hr,λl=>key {f with ps:=l}⟩
 ·obtain⟨v,xs,hr⟩:=rowAt (Aq.nth (l:=[dS f.n,dS f.r,.row 71 2 (f.ps.map IQ),.row 71 2 (f.vs.map IQ),.row 82 9 (f.bs.map Pb)]) s2 3 rfl (n:=3) (by simp[Dt.DF,Dt.wd,dS])) (n:=f.vs.length) (by simp);exact⟨_,v,xs,hr,λl=>key {f with vs:=l}⟩
 ·obtain⟨v,xs,hr⟩:=rowAt (Aq.nth (l:=[dS f.n,dS f.r,.row 71 2 (f.ps.map IQ),.row 71 2 (f.vs.map IQ),.row 82 9 (f.bs.map Pb)]) s2 4 rfl (n:=4) (by simp[Dt.DF,Dt.wd,dS])) (n:=f.bs.length) (by simp);exact⟨_,v,xs,hr,λl=>key {f with bs:=l}⟩
structure LastB(w:World)(B N R:Nat)(q:Pg)(wh lg:Int)(fr:List Fn)(f:Fn)(FB cap:Nat)(br:List Bk)(b:Bk)(BB cap2:Nat):Prop where
 lf:RO w B N R q wh lg fr f FB cap
 lc:w.cell? ⟨FB,fr.length*5+4,cX⟩=cP (cY (cP ⟨BB,0,cX⟩) (br.length+1) cap2)
 lt:DC w BB 82
 lp:∃F v xs,Ji w B N R q wh lg BB (br.length*9+1) 211 2 (b.ps.map PZ) b.ps.length F v xs/\∀l,F (.row 211 2 (l.map PZ))=IL {q with fs:=fr++[{f with bs:=br++[{b with ps:=l}]}]} wh lg
 li:∃F v xs,Ji w B N R q wh lg BB (br.length*9+2) 133 6 (b.cs.map TD) b.cs.length F v xs/\∀l,F (.row 133 6 (l.map TD))=IL {q with fs:=fr++[{f with bs:=br++[{b with cs:=l}]}]} wh lg
 le:∃F,Aq w B N (IL q wh lg) R 0 (TW b.e) BB (br.length*9+3) F/\∀t,F (TW t)=IL {q with fs:=fr++[{f with bs:=br++[{b with e:=t}]}]} wh lg
theorem Ct.lastB(h:Ct w B N R q wh lg k){FB cap:Nat}(hf:RO w B N R q wh lg fr f FB cap){br:List Bk}{b:Bk}(hb:f.bs=br++[b]):∃BB cap2,LastB w B N R q wh lg fr f FB cap br b BB cap2:=by
 obtain⟨F,v,xs,hr,hF⟩:=hf.lb;have s1:=hr.rp;rw[hb,List.map_append,List.map_singleton]at s1;obtain⟨BB,cap2,h1,h2,-,s2⟩:=Gi s1;rw[List.length_map]at h1 s2;have key:∀b':Bk,F (.row 82 9 (br.map Pb++[Pb b']))=IL {q with fs:=fr++[{f with bs:=br++[b']}]} wh lg:=λb'=>by
  rw[<-hF (br++[b']),List.map_append,List.map_singleton]
 refine⟨BB,cap2,hf,h1,h2,?_,?_,?_⟩
 ·obtain⟨v,xs,hr⟩:=rowAt (Aq.nth (l:=[dS b.n,.row 211 2 (b.ps.map PZ),.row 133 6 (b.cs.map TD),TW b.e]) s2 1 rfl (n:=1) (by simp[Dt.DF,Dt.wd,dS])) (n:=b.ps.length) (by simp);exact⟨_,v,xs,hr,λl=>key {b with ps:=l}⟩
 ·obtain⟨v,xs,hr⟩:=rowAt (Aq.nth (l:=[dS b.n,.row 211 2 (b.ps.map PZ),.row 133 6 (b.cs.map TD),TW b.e]) s2 2 rfl (n:=2) (by simp[Dt.DF,Dt.wd,dS])) (n:=b.cs.length) (by simp);exact⟨_,v,xs,hr,λl=>key {b with cs:=l}⟩
 ·exact⟨_,Aq.nth (l:=[dS b.n,.row 211 2 (b.ps.map PZ),.row 133 6 (b.cs.map TD),TW b.e]) s2 3 rfl (n:=3) (by simp[Dt.DF,Dt.wd,dS]),λt=>key {b with e:=t}⟩
structure AA4(w:World)(B N R:Nat)(q:Pg)(wh lg:Int)(fr:List Fn)(f:Fn)(br:List Bk)(b:Bk)(BB:Nat)(cr:List Is)(x:Is)(IB Nv:Nat):Prop where
 lc:w.cell? ⟨BB,br.length*9+2,cX⟩=cP (cY (cP ⟨IB,0,cX⟩) (cr.length+1) Nv)
 lt:DC w IB 133
 lf:∃F v xs,Ji w B N R q wh lg IB (cr.length*6+4) 232 4 (x.fr.map nR) x.fr.length F v xs/\∀l,F (.row 232 4 (l.map nR))=IL {q with fs:=fr++[{f with bs:=br++[{b with cs:=cr++[{x with fr:=l}]}]}]} wh lg
 lo:∃F v xs,Ji w B N R q wh lg IB (cr.length*6+5) 238 2 (x.ob.map nQ) x.ob.length F v xs/\∀l,F (.row 238 2 (l.map nQ))=IL {q with fs:=fr++[{f with bs:=br++[{b with cs:=cr++[{x with ob:=l}]}]}]} wh lg
theorem LastB.oH{FB cap:Nat}{br:List Bk}{b:Bk}{BB cap2:Nat}(h:LastB w B N R q wh lg fr f FB cap br b BB cap2){cr:List Is}{x:Is}(hb:b.cs=cr++[x]):∃IB Nv,AA4 w B N R q wh lg fr f br b BB cr x IB Nv:=by
 obtain⟨F,v,xs,hr,hF⟩:=h.li;have s1:=hr.rp;rw[hb,List.map_append,List.map_singleton]at s1;obtain⟨IB,Nv,h1,h2,-,s2⟩:=Gi s1;rw[List.length_map]at h1 s2;have key:∀x':Is,F (.row 133 6 (cr.map TD++[TD x']))=IL {q with fs:=fr++[{f with bs:=br++[{b with cs:=cr++[x']}]}]} wh lg:=λx'=>by
  rw[<-hF (cr++[x']),List.map_append,List.map_singleton]
 refine⟨IB,Nv,h1,h2,?_,?_⟩
 ·obtain⟨v,xs,hr⟩:=rowAt (Aq.nth (l:=[dN x.op,dS x.d,dS x.n,.row 77 3 (x.as.map Ls),.row 232 4 (x.fr.map nR),.row 238 2 (x.ob.map nQ)]) s2 4 rfl (n:=4) (by simp[Dt.DF,Dt.wd,dS,dN])) (n:=x.fr.length) (by simp);exact⟨_,v,xs,hr,λl=>key {x with fr:=l}⟩
 ·obtain⟨v,xs,hr⟩:=rowAt (Aq.nth (l:=[dN x.op,dS x.d,dS x.n,.row 77 3 (x.as.map Ls),.row 232 4 (x.fr.map nR),.row 238 2 (x.ob.map nQ)]) s2 5 rfl (n:=5) (by simp[Dt.DF,Dt.wd,dS,dN])) (n:=x.ob.length) (by simp);exact⟨_,v,xs,hr,λl=>key {x with ob:=l}⟩
end
end
end Go.Proofs.YtlffomedflegdaaGreatDoor
