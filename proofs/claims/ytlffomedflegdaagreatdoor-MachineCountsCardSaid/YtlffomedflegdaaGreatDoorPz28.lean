/- Part 28 of 49 of the proof: Og, Oh, Oi, Oj. -/
import Derived.Test.YtlffomedflegdaaGreatDoorPz00
import Derived.Test.YtlffomedflegdaaGreatDoorPz12
import Derived.Test.YtlffomedflegdaaGreatDoorPz23
import Derived.Test.YtlffomedflegdaaGreatDoorPz24
import Derived.Test.YtlffomedflegdaaGreatDoorPz27
set_option linter.all false
set_option maxHeartbeats 16000000
set_option maxRecDepth 100000
namespace Go.Proofs.YtlffomedflegdaaGreatDoor
open Go.Proofs.Tryz
open Go.RowKit
variable {B n pb q:Nat}{u:Value}{w w0:World}
section
structure Qy(TS e:TypeId)(sz b:Nat):Prop where
 u:prog.underlying TS=some (.slice e)
 i:∃z i,prog.info? e=some i/\i.zero=some z/\i.size=sz/\i.bytes=b/\z.cells.size=sz
 p:0<sz
theorem Qy.mk'{TS e:TypeId}{sz b:Nat}{z:Value}(u:prog.underlying TS=some (.slice e))(h:(prog.info? e).map (fun i=>(i.zero,i.size,i.bytes))=some (some z,sz,b))(hz:z.cells.size=sz)(p:0<sz):Qy TS e sz b:=by
 obtain⟨i,h1,h2,h3,h4⟩:=Cq h;exact⟨u,⟨z,i,h1,h2,h3,h4,hz⟩,p⟩
section
variable {w : World} {B sz by' pb : Nat} {TS e : TypeId} {l : List Dt} {v : Value} {d : Dt} {fp fd : List Nat} {cs : List Value}
theorem VZ{o:Oper}{a:Act}{K:Act->World->Prop}{Q:Exit->Act->World->Prop}(hT:Qy TS e sz by')(s x:Operand)(ho:o.op=.call {callee:=.builtin .append,args:=#[s,x],argTypes:=#[TS,TS]}) (hs:a.eval s=v) (h:AZ w B e sz l v fp) (hn:fp.Nodup)(hx:a.eval x=.slice (some ⟨pb,0,none⟩) 1 1) (hb:Ae w pb cs) (h1:∀u∈cs,u.oneCell'=true) (hd:Af w B d pb 0 fd) (hnd:fd.Nodup) (hdj:∀b,b∈fd->b∉fp) (hdw:d.wd=sz) (hcs:cs.length=sz)(hl:l.length+1<=100000000) (hby:by'<=1000) (hB:B<=w.heap.size)(hK:∀v' w' fp',(∃p c,v'=.slice p (l.length+1) c)->AZ w' B e sz (l++[d]) v' fp'->fp'.Nodup->(∀b,b∈fp'->b∈fp\/b∈fd\/w.heap.size<=b)->w.grownBy w' v.ownBlock->Below B w w'->K (a.put o.dst v') w'):o.wp prog a w K Q:=by
 obtain⟨z,i,hi,hz,hsz,hbt,hzs⟩:=hT.i;obtain⟨xs,hox⟩:=h.owns
 refine wp_append_own' s x TS ho B e i z sz by' hT.u hi hz hsz hbt hzs hT.p v _ xs hs hox ⟨pb,0,none⟩ 1 1 cs hx (by simpa using hcs) (fun j u hu=>by rw[Dk,Nat.zero_add];exact hb.c j u hu) h1 (by unfold maxLen;omega) (by
  have:(l.length+1)*by'<=100000000*1000:=Nat.mul_le_mul hl hby
  omega) hB fun v' w' k1 k2 k3=>?_
 obtain⟨fp',m1,m2,m3⟩:=AZ.app1 h hn hox hb hd hnd hdj hdw hcs k1 k2 k3;obtain⟨p,c,rfl⟩:=Bf k1;exact hK _ _ fp' ⟨p,c,rfl⟩ m1 m2 m3 k2 ((Below.refl B w).grown k2 hB fun k hk=>(hox.lt k hk).1)
theorem HY{ops:Array Oper}{rest:List Oper}{o:Oper}{a:Act}{Q:Exit->Act->World->Prop}(hgd:o.guard=none)(hT:Qy TS e sz by')(s x:Operand)(ho:o.op=.call {callee:=.builtin .append,args:=#[s,x],argTypes:=#[TS,TS]}) (hs:a.eval s=v) (h:AZ w B e sz l v fp) (hn:fp.Nodup)(hx:a.eval x=.slice (some ⟨pb,0,none⟩) 1 1) (hb:Ae w pb cs) (h1:∀u∈cs,u.oneCell'=true) (hd:Af w B d pb 0 fd) (hnd:fd.Nodup) (hdj:∀b,b∈fd->b∉fp) (hdw:d.wd=sz) (hcs:cs.length=sz)(hl:l.length+1<=100000000) (hby:by'<=1000) (hB:B<=w.heap.size)(hK:∀v' w' fp',(∃p c,v'=.slice p (l.length+1) c)->AZ w' B e sz (l++[d]) v' fp'->fp'.Nodup->(∀b,b∈fp'->b∈fp\/b∈fd\/w.heap.size<=b)->w.grownBy w' v.ownBlock->Below B w w'->wpList prog ops Q rest (a.put o.dst v') w'):wpList prog ops Q (o::rest) a w:=
 wpList_plain hgd fun _ hk=>VZ hT s x ho hs h hn hx hb h1 hd hnd hdj hdw hcs hl hby hB fun v' w' fp' k0 k1 k2 k3 k4 k5=>hk _ _ (hK v' w' fp' k0 k1 k2 k3 k4 k5)
end
theorem P5:Qy 78 9 1 16:=.mk' (z:=.string .empty) underlying78 (by kernel_rfl) rfl (by decide)
theorem AAD:Qy 242 249 2 32:=.mk' (z:=.agg #[.int .i64 0,.slice none 0 0]) underlying242 (by kernel_rfl) rfl (by decide)
structure Lw where (n:Int) (ws:List ByteArray)
def xE(x:Lw):Dt:=.agg [dN x.n,.row 9 1 (x.ws.map dS)]
def rT(w:World)(a:Addr)(x:Lw):Prop:=w.cell? a=some (.int .i64 x.n)/\∃u,At w a 1 u/\Row DL 1 w u x.ws
theorem vLw{g o:Nat}{F:List Nat}{x:Lw}(hx:x.ws.length<=10000000/\∀s∈x.ws,s.size<=10000000)(h:Af w B (xE x) g o F):rT w ⟨g,o,none⟩ x:=by
 obtain⟨_,_,h1,h2⟩:=h.l.hd;obtain⟨_,_,h3,_⟩:=h2.hd;exact⟨h1.c,h3.view (fun _=>rfl) (fun _ _ _ _ a b=>vS a b) (by unfold Ln;omega) fun s hs=>by have:=hx.2 s hs;unfold Sz;omega⟩
theorem Af.str{s:ByteArray}(hb:Ae w pb [.string s]):Af w B (dS s) pb 0 []:=by
 unfold dS Af;exact⟨hb.c 0 _ rfl,rfl,rfl⟩
structure LU(w w1:World)(m:Nat)(L:List Lw)(ls:List ByteArray)(bs:List UInt8)(out lv wv:Value)(F fl:List Nat):Prop where
 o:AZ w1 w.heap.size 249 2 (L.map xE) out F
 on:F.Nodup
 l:AZ w1 w.heap.size 9 1 (ls.map dS) lv fl
 ln:fl.Nodup
 d:∀b,b∈fl->b∉F
 y:w1.ownsRow w.heap.size 5 1 wv bs.length (bs.map TF)
 wd:∀k,wv.ownBlock=some k->k∉F/\k∉fl
 b:AA6 w w1
 n:L.length<=m/\ls.length<=m/\bs.length<=m
 s:∀s∈ls,s.size<=10000000
 a:∀x∈L,x.ws≠ []/\x.ws.length<=10000000/\∀s∈x.ws,s.size<=10000000
section
variable {w w1 w2 : World} {m : Nat} {L : List Lw} {ls : List ByteArray} {bs : List UInt8} {out lv wv v' : Value} {F fl vY : List Nat}
theorem kI{s k:Nat}{e:TypeId}{v:Value}{xs:List Value}(h:w.ownsRow B e s v n xs)(hk:v.ownBlock=some k):k<w.heap.size:=(h.lt k hk).2
theorem LU.shape(h:LU w w1 m L ls bs out lv wv F fl):(∃p c,out=.slice p L.length c)/\(∃p c,lv=.slice p ls.length c)/\∃p c,wv=.slice p bs.length c:=⟨by simpa using h.o.slice,by simpa using h.l.slice,Bf h.y⟩
theorem LU.nx(h:LU w w1 m L ls bs out lv wv F fl)(hb:AA6 w1 w2):LU w w2 m L ls bs out lv wv F fl:=
 ⟨h.o.same fun b hb'=>hb.block b (h.o.fp b hb').2,h.on,h.l.same fun b hb'=>hb.block b (h.l.fp b hb').2,h.ln,h.d,Dh h.y hb (AQ),h.wd,AB h.b hb,h.n,h.s,h.a⟩
theorem LU.up(h:LU w w1 m L ls bs out lv wv F fl){k:Nat}(hk:m<=k):LU w w1 k L ls bs out lv wv F fl:=⟨h.o,h.on,h.l,h.ln,h.d,h.y,h.wd,h.b,by have:=h.n;omega,h.s,h.a⟩
theorem LU.now(h:LU w w1 m L ls bs out lv wv F fl):LU w w1 m L ls [] out lv (.slice none 0 0) F fl:=⟨h.o,h.on,h.l,h.ln,h.d,World.ownsRow_nil _ _ _ _,(fun k e=>by cases e),h.b,⟨h.n.1,h.n.2.1,AY⟩,h.s,h.a⟩
theorem LU.nol(h:LU w w1 m L ls bs out lv wv F fl):LU w w1 m L [] bs out (.slice none 0 0) wv F []:=⟨h.o,h.on,.nil,by simp,by simp,h.y,fun k e=>⟨(h.wd k e).1,by simp⟩,h.b,⟨h.n.1,AY,h.n.2.2⟩,by simp,h.a⟩
theorem LU.byte(h:LU w w1 m L ls bs out lv wv F fl)(c:UInt8)(ho:w2.ownsRow w.heap.size 5 1 v' (bs.length+1) (bs.map TF++[TF c]))(hg:w1.grownBy w2 wv.ownBlock)(hf:∀k,v'.ownBlock=some k->wv.ownBlock=some k\/w1.heap.size<=k):LU w w2 (m+1) L ls (bs++[c]) out lv v' F fl where
 o:=h.o.same fun b hb=>hg.block b (h.o.fp b hb).2 fun e=>(h.wd b e.symm).1 hb
 on:=h.on
 l:=h.l.same fun b hb=>hg.block b (h.l.fp b hb).2 fun e=>(h.wd b e.symm).2 hb
 ln:=h.ln
 d:=h.d
 y:=by rw[List.length_append,List.map_append];exact ho
 wd:=fun k e=>by
  rcases hf k e with h1|h1
  ·exact h.wd k h1
  ·exact⟨fun h2=>by have:=(h.o.fp k h2).2;omega,fun h2=>by have:=(h.l.fp k h2).2;omega⟩
 b:=h.b.grown hg h.b.size fun k hk=>(h.y.lt k hk).1
 n:=by have:=h.n;simp;omega
 s:=h.s
 a:=h.a
theorem LU.word(h:LU w w1 m L ls bs out lv wv F fl)(t:ByteArray)(ht:t.size<=10000000)(hl:AZ w2 w.heap.size 9 1 (ls.map dS++[dS t]) v' vY)(hn:vY.Nodup)(hf:∀b,b∈vY->b∈fl\/b∈([]:List Nat)\/w1.heap.size<=b)(hg:w1.grownBy w2 lv.ownBlock):LU w w2 (m+1) L (ls++[t]) [] out v' (.slice none 0 0) F vY where
 o:=h.o.same fun b hb=>hg.block b (h.o.fp b hb).2 fun e=>h.d b (h.l.own b e.symm) hb
 on:=h.on
 l:=by rw[List.map_append];exact hl
 ln:=hn
 d:=fun b hb hF=>by
  rcases hf b hb with h1|h1|h1
  ·exact h.d b h1 hF
  ·cases h1
  ·have:=(h.o.fp b hF).2;omega
 y:=World.ownsRow_nil _ _ _ _
 wd:=fun k e=>by cases e
 b:=h.b.grown hg h.b.size fun k hk=>(h.l.fp k (h.l.own k hk)).1
 n:=by have:=h.n;simp;omega
 s:=fun s hs=>by
  rcases List.mem_append.1 hs with h1|h1
  ·exact h.s s h1
  ·rw[List.mem_singleton.1 h1];exact ht
 a:=h.a
theorem LU.line(h:LU w w1 m L ls bs out lv wv F fl)(k:Int)(hne:ls≠ [])(hm:m<=10000000){F':List Nat}(ho:AZ w2 w.heap.size 249 2 (L.map xE++[xE ⟨k,ls⟩]) v' F')(hn:F'.Nodup)(hf:∀b,b∈F'->b∈F\/b∈fl\/w1.heap.size<=b)(hg:w1.grownBy w2 out.ownBlock):LU w w2 (m+1) (L++[⟨k,ls⟩]) [] bs v' (.slice none 0 0) wv F' [] where
 o:=by rw[List.map_append];exact ho
 on:=hn
 l:=.nil
 ln:=by simp
 d:=by simp
 y:=h.y.kept hg (by
  cases hw:wv.ownBlock with
  |none=>exact .inl rfl
  |some g=>exact .inr fun e=>(h.wd g hw).1 (h.o.own g e.symm))
 wd:=fun j e=>⟨fun h2=>by
  rcases hf j h2 with h1|h1|h1
  ·exact(h.wd j e).1 h1
  ·exact(h.wd j e).2 h1
  ·have:=kI h.y e
   omega,by simp⟩
 b:=h.b.grown hg h.b.size fun k hk=>(h.o.fp k (h.o.own k hk)).1
 n:=by have:=h.n;simp;omega
 s:=by simp
 a:=fun x hx=>by
  rcases List.mem_append.1 hx with h1|h1
  ·exact h.a x h1
  ·rw[List.mem_singleton.1 h1];exact⟨hne,by have:=h.n;show ls.length<=_;omega,h.s⟩
end
theorem Uc(s:ByteArray)(hs:s.size<=1000000)(w:World):Calls prog 167 #[.string s] w fun e w'=>AA6 w w'/\∃v at' why,e=.returned (.tuple #[v,.int .i64 at',.int .i64 why])/\(why=0->∃L,Row rT 2 w' v L/\L.length<=2000002/\∀x∈L,x.ws≠ []/\x.ws.length<=10000000/\∀s∈x.ws,s.size<=10000000):=by
 have hsI:¬(4194304:Int)<s.size:=by omega
 go_enter func167,ntmps167;go_wp2;go_loopw[5,6,7,8,9,10,11,12] (fun out lv wv n rm bad i _ wr=>∃(q:Nat) (L:List Lw) (ls:List ByteArray) (bs:List UInt8) (F fl:List Nat) (k:Int) (r d:Bool),q<=s.size+1/\i=.int .i64 (q:Int)/\LU w wr (2*q) L ls bs out lv wv F fl/\n=.int .i64 k/\0<=k/\k<=q+1/\rm=.bool r/\bad=.bool d) (fun _ _ _ _ _ _ i _ _=>s.size+1-(intOf i).toNat);exact⟨0,[],[],[],[],[],1,false,false,by omega,rfl,⟨.nil,by simp,.nil,by simp,by simp,World.ownsRow_nil _ _ _ _,(fun k e=>by cases e),AL,by simp,by simp,by simp⟩,rfl,by omega,by omega,rfl,rfl⟩;obtain⟨q,L,ls,bs,F,fl,k,r,d,hq,rfl,hS,rfl,hk0,hk1,rfl,rfl⟩:=hrel;obtain⟨⟨p1,c1,rfl⟩,⟨p2,c2,rfl⟩,p3,c3,rfl⟩:=hS.shape;obtain⟨wo,rfl⟩:∃wo:World,wo=wr:=⟨_,rfl⟩;by_cases hend:q=s.size+1
 ·subst hend;have hgt:¬((s.size+1:Nat):Int)<=s.size:=by omega
  have hgt2:¬s.size+1<=s.size:=by omega
  go_wp2;go_ret3;refine⟨hS.b,_,_,_,rfl,fun _=>⟨L,?_,by have:=hS.n;omega,fun x hx=>hS.a x hx⟩⟩;have hv:=hS.o.view (E:=rT) (ok:=fun x:Lw=>x.ws.length<=10000000/\∀s∈x.ws,s.size<=10000000) (fun _=>rfl) (fun x g o f h1 h2=>vLw h1 h2) (by have:=hS.n;unfold Ln;omega) (fun x hx=>(hS.a x hx).2);exact hv
 ·have hle:(q:Int)<=s.size:=by omega
  have hle2:q<=s.size:=by omega
  go_upto_region 12 with fail;go_cut[12]from 22 to 31 (fun e wx=>∃b:Bool,e=.bool b/\(b=false->q<s.size)/\wx=wo)
  ·cases he:((q:Int)==(s.size:Int))with
   |true=>
    go_wp2;go_meet
    exact⟨_,rfl,(fun h=>by cases h),rfl⟩
   |false=>
    have hlt:q<s.size:=by
     have:(q:Int)≠s.size:=(by simpa using he);omega
    have A8:(q:Int)<s.size:=(by omega);go_wp2;go_meet;exact⟨_,rfl,fun _=>hlt,rfl⟩
  obtain⟨e,rfl,he,rfl⟩:=hcut;obtain⟨wo,rfl⟩:∃w1:World,w1=wc:=⟨_,rfl⟩;go_upto_region 13 with fail;go_cut[39]from 32 to 38 (fun e wx=>∃b:Bool,e=.bool b/\wx=wo)
  ·cases e
   ·have hlt:=he rfl;have A8:(q:Int)<s.size:=(by omega);go_wp2;go_meet;exact⟨_,rfl,rfl⟩
   ·go_wp2;go_meet;exact⟨_,rfl,rfl⟩
  obtain⟨f,rfl,rfl⟩:=hcut;obtain⟨wo,rfl⟩:∃w1:World,w1=wc:=⟨_,rfl⟩;go_upto_if 39 with fail;go_cut[9]from 9 to 9 (fun e wx=>∃b:Bool,e=.bool b/\wx=wo)
  ·cases f
   ·go_wp2;go_meet;exact⟨_,rfl,rfl⟩
   ·go_wp2;go_meet;exact⟨_,rfl,rfl⟩
  obtain⟨r,rfl,rfl⟩:=hcut;obtain⟨wo,rfl⟩:∃w1:World,w1=wc:=⟨_,rfl⟩;go_upto_region 15 with fail;go_cut[55]from 40 to 54 (fun x wx=>∃b:Bool,x=.bool b/\(e=true->b=true)/\wx=wo)
  ·cases e
   ·have hlt:=he rfl;have A8:(q:Int)<s.size:=(by omega);cases r
    ·go_wp2;all_goals (go_meet;case rel=>exact⟨_,rfl,(fun h=>by cases h),rfl⟩)
    ·go_wp2;go_meet;exact⟨_,rfl,(fun h=>by cases h),rfl⟩
   ·go_wp2;go_meet;exact⟨_,rfl,(fun _=>rfl),rfl⟩
  obtain⟨g,rfl,hg,rfl⟩:=hcut;obtain⟨wo,rfl⟩:∃w1:World,w1=wc:=⟨_,rfl⟩;go_upto_if 55 with fail;go_cut[6,7,10]from 56 to 82 (fun lv wv bad wx=>∃(ls:List ByteArray) (bs:List UInt8) (fl:List Nat) (d:Bool),LU w wx (2*q+1) L ls bs (.slice p1 L.length c1) lv wv F fl/\(∃p c,lv=.slice p ls.length c)/\(∃p c,wv=.slice p bs.length c)/\bad=.bool d)
  ·cases g
   ·have hlt:q<s.size:=by
     cases e
     ·exact he rfl
     ·exact absurd (hg rfl) (by decide)
    have A8:(q:Int)<s.size:=(by omega);go_upto_region 19 with fail;go_cut[10]from 64 to 76 (fun x wx=>∃b:Bool,x=.bool b/\wx=wo)
    ·cases d
     ·go_wp2;all_goals (go_meet;case rel=>exact⟨_,rfl,rfl⟩)
     ·go_wp2;go_meet;exact⟨_,rfl,rfl⟩
    obtain⟨d,rfl,rfl⟩:=hcut;have hB2:=Ae.alloc wc [TF s[q]] 5;have hS2:=hS.nx (AJ wc (.cells #[TF s[q]] 5));have hn:=hS.n;obtain⟨i0,hi,hz0,hz1,hz2⟩:=Cq (P:=prog) (t:=5) (z:=.int .u8 0) (s:=1) (b:=1) (by kernel_rfl);(go_wp2_with(at_builtin;refine wpList_append_own' rfl _ _ 250 rfl w.heap.size 5 i0 _ 1 1 underlying250 hi hz0 hz1 hz2 rfl (by decide) _ bs.length (bs.map TF) rfl hS2.y ⟨wc.heap.size,0,none⟩ 1 1 [TF s[q]] rfl rfl (fun j u hu=>by rw[Dk,Nat.zero_add];exact hB2.c j u hu) (by simp[Value.oneCell']) (by unfold maxLen;omega) (by omega) hS2.b.size ?_;intro v' w3 ho hg hf;obtain⟨N7,Nh,rfl⟩:=Bf ho));go_meet;exact⟨ls,bs++[s[q]],fl,d,hS2.byte s[q] ho hg hf,⟨_,_,rfl⟩,⟨N7,Nh,by simp⟩,rfl⟩
   ·by_cases hbs:0<bs.length
    ·have wO:(0:Int)<bs.length:=(by omega);have hcv:=D7 underlying250 underlying5 underlying9 (show wo.ownsRow w.heap.size 5 1 (.slice p3 bs.length c3) bs.length (bs.map Gg)from hS.y);have hB2:=Ae.alloc wo [.string ⟨bs.toArray⟩] 9;have hS2:=hS.nx (AJ wo (.cells #[.string ⟨bs.toArray⟩] 9));have hn:=hS.n;(go_wp2_with(at_builtin;refine HY rfl P5 _ _ rfl rfl hS2.l hS2.ln rfl hB2 (by simp[Value.oneCell']) (Af.str hB2) (by simp) (by simp) rfl rfl (by rw[List.length_map];omega) (by decide) hS2.b.size ?_;rintro v' w3 vY ⟨N7,Nh,rfl⟩ h1 h2 h3 h4-));rw[List.length_map]at h1;go_meet;exact⟨ls++[⟨bs.toArray⟩],[],vY,d,hS2.word _ (by show bs.toArray.size<=10000000;rw[List.size_toArray];omega) h1 h2 h3 h4,⟨N7,Nh,by simp⟩,⟨_,_,rfl⟩,rfl⟩
    ·have wO:¬(0:Int)<bs.length:=(by omega);go_wp2;go_meet;exact⟨ls,[],fl,d,hS.now.up (Aa),⟨_,_,rfl⟩,⟨_,_,rfl⟩,rfl⟩
  obtain⟨ls,bs,fl,d,hS,⟨p2,c2,rfl⟩,⟨p3,c3,rfl⟩,rfl⟩:=hcut;obtain⟨wo,rfl⟩:∃w1:World,w1=wc:=⟨_,rfl⟩;go_upto_if 83 with fail;cases e
  ·go_wp2;go_roundw;exact⟨q+1,L,ls,bs,F,fl,k,r,d,by omega,by go_num,hS.up (by omega),rfl,hk0,by omega,rfl,rfl⟩;simp[intOf];omega
  ·cases d
   ·by_cases hls:0<ls.length
    ·have iI:(0:Int)<ls.length:=(by omega);have hB2:=Ae.alloc wo [.int .i64 k,.slice p2 ls.length c2] 249;have hS2:=hS.nx (AJ wo (.cells #[.int .i64 k,.slice p2 ls.length c2] 249));have hn:=hS.n;have hL:Af (wo.alloc (.cells #[.int .i64 k,.slice p2 ls.length c2] 249)) w.heap.size (xE ⟨k,ls⟩) wo.heap.size 0 (fl++[]):=Af.of (AP.cc (hB2.c 0 _ rfl) rfl (AP.cr (hB2.c 1 _ rfl) hS2.l AP.cn));rw[List.append_nil]at hL;(go_wp2_with(at_builtin;refine HY rfl AAD _ _ rfl rfl hS2.o hS2.on rfl hB2 (by simp[Value.oneCell']) hL hS2.ln hS2.d rfl rfl (by rw[List.length_map];omega) (by decide) hS2.b.size ?_;rintro v' w3 F' ⟨N7,Nh,rfl⟩ h1 h2 h3 h4-));rw[List.length_map]at h1;go_roundw;exact⟨q+1,L++[⟨k,ls⟩],[],bs,F',[],k+1,false,false,by omega,by go_num,(hS2.line k (by intro h;subst h;simp at hls) (by omega) h1 h2 h3 h4),by go_num,by omega,by omega,rfl,rfl⟩;simp[intOf];omega
    ·have iI:¬(0:Int)<ls.length:=(by omega);go_wp2;go_roundw;exact⟨q+1,L,[],bs,F,[],k+1,false,false,by omega,by go_num,hS.nol.up (by omega),by go_num,by omega,by omega,rfl,rfl⟩;simp[intOf];omega
   ·go_wp2;go_ret3;exact⟨hS.b,_,_,_,rfl,fun h=>absurd h (by decide)⟩
end
section
open Word Num Dp
def zF(e:Ending):Prop:=∃(n:Int) (b:Bool),e=.returned (.tuple #[.int .i64 n,.bool b])/\Bo n
theorem eH(l:List UInt8):Bo (Nt l).1:=by
 unfold Nt;split
 ·exact FR _
 grind
theorem eG(l:List UInt8):Bo (LZ l).1:=by
 unfold LZ;split
 ·exact FR _
 grind
theorem JU(s:ByteArray)(hs:s.size<=10000000)(w:World):Calls prog 236 #[.string s] w fun e w'=>zF e/\AA6 w w':=by
 by_cases h1:1<=s.size
 ·refine(Uv s w (by omega) h1).mono fun e w' ⟨he,hb⟩=>⟨⟨_,_,he,eH _⟩,hb⟩
 ·obtain rfl:s=ByteArray.empty:=ByteArray.ext (Array.eq_empty_of_size_eq_zero (by show s.size=0;omega));have hb:=Below.refl w.heap.size w;have hz:wrap64 0=0:=by decide+kernel
  go_enter func236,ntmps236;go_wp2;refine wp_loop_rounds 1 ?_;rw[rounds_succ];go_wp2_with(first|((with_reducible refine(Mw _ _).mono ?_);rintro e w' ⟨rfl,rfl⟩)|((with_reducible refine(KL ⟨by decide,by decide⟩ _).mono ?_);rintro e w1 ⟨⟨t,rfl,-⟩,h⟩;replace hb:=AAt hb h;clear h))
  all_goals (go_ret2;exact⟨⟨_,_,rfl,by decide,by decide⟩,hb⟩)
theorem tK(s:ByteArray)(w:World):Calls prog 250 #[.string s] w fun e w'=>zF e/\AA6 w w':=
 (bg s w).mono fun _ _ ⟨he,hb⟩=>⟨⟨_,_,he,eG _⟩,hb⟩
theorem uS(s:ByteArray)(hs:s.size<=10000000)(w:World):Calls prog 245 #[.string s] w fun e w'=>AA6 w w'/\∃(x:Ag) (b:Bool),e=.returned (.tuple #[.agg #[.int .i64 x.k,.string x.s,.int .i64 x.n],.bool b])/\x.s.size<=10000000:=by
 have hN:=fun w=>JU s hs w;have hV:=fun w=>tK s w;have hR:=fun w=>JU (s.extract 1 s.size) (by rw[ByteArray.size_extract];omega) w;have hR0:=fun w=>JU ⟨#[]⟩ (AY) w;have hb0:=AJ w (.cells #[.int .i64 0,.string ⟨#[]⟩,.int .i64 0] 77);have hA:=Ae.alloc w [.int .i64 0,.string ⟨#[]⟩,.int .i64 0] 77;go_enter func245,ntmps245;go_upto_if 15 with fail;generalize hW:w.alloc _=W at*;go_cut[4]from 15 to 17 (fun v wx=>∃r:ByteArray,v=.string r/\r.size<=10000000/\wx=W)
 ·by_cases h1:0<s.size
  ·have Fw:(0:Int)<s.size:=(by omega);go_wp2;go_meet;exact⟨_,rfl,by rw[ByteArray.size_extract];omega,rfl⟩
  ·have Fw:¬(0:Int)<s.size:=(by omega);go_wp2;go_meet;exact⟨_,rfl,AY,rfl⟩
 obtain⟨r,rfl,hr,rfl⟩:=hcut;replace hR:=fun w=>JU r hr w;go_wp2_with fail;refine(hN _).mono ?_;rintro e w1 ⟨⟨k1,b1,rfl,z1⟩,hb1⟩;go_wp2_with fail;refine(hV _).mono ?_;rintro e w2 ⟨⟨k2,b2,rfl,z2⟩,hb2⟩;go_wp2_with fail;refine(hR _).mono ?_;rintro e w3 ⟨⟨k3,b3,rfl,z3⟩,hb3⟩;have hb:=AB (AB (AB hb0 hb1) hb2) hb3;replace hA:=((hA.nx hb1).nx hb2).nx hb3;have hL:=Ae.alloc w3 [.int .i64 1,.string s,.int .i64 0,.int .i64 2,.string ⟨#[]⟩,.int .i64 k1,.int .i64 3,.string ⟨#[]⟩,.int .i64 k2,.int .i64 4,.string ⟨#[]⟩,.int .i64 0,.int .i64 5,.string ⟨#[]⟩,.int .i64 k3] 327;have hb3:=hb.alloc hb.size (.cells #[.int .i64 1,.string s,.int .i64 0,.int .i64 2,.string ⟨#[]⟩,.int .i64 k1,.int .i64 3,.string ⟨#[]⟩,.int .i64 k2,.int .i64 4,.string ⟨#[]⟩,.int .i64 0,.int .i64 5,.string ⟨#[]⟩,.int .i64 k3] 327);replace hA:=hA.al (.cells #[.int .i64 1,.string s,.int .i64 0,.int .i64 2,.string ⟨#[]⟩,.int .i64 k1,.int .i64 3,.string ⟨#[]⟩,.int .i64 k2,.int .i64 4,.string ⟨#[]⟩,.int .i64 0,.int .i64 5,.string ⟨#[]⟩,.int .i64 k3] 327);have z0:Bo 0:=⟨by decide,by decide⟩;have hel:Hid (∀(q:Nat) (v:World),q<5->Ae v w3.heap.size [.int .i64 1,.string s,.int .i64 0,.int .i64 2,.string ⟨#[]⟩,.int .i64 k1,.int .i64 3,.string ⟨#[]⟩,.int .i64 k2,.int .i64 4,.string ⟨#[]⟩,.int .i64 0,.int .i64 5,.string ⟨#[]⟩,.int .i64 k3]->∃x:Ag,v.cell? ⟨w3.heap.size,q*3,none⟩=some (.int .i64 x.k)/\v.cell? ⟨w3.heap.size,q*3+1,none⟩=some (.string x.s)/\v.cell? ⟨w3.heap.size,q*3+2,none⟩=some (.int .i64 x.n)/\x.s.size<=10000000/\Bo x.n):=hidden fun q v hq h=>by
  have:q=0\/q=1\/q=2\/q=3\/q=4:=by omega
  rcases this with rfl|rfl|rfl|rfl|rfl
  ·exact⟨⟨1,s,0⟩,h.c 0 _ rfl,h.c 1 _ rfl,h.c 2 _ rfl,hs,z0⟩
  ·exact⟨⟨2,_,k1⟩,h.c 3 _ rfl,h.c 4 _ rfl,h.c 5 _ rfl,AY,z1⟩
  ·exact⟨⟨3,_,k2⟩,h.c 6 _ rfl,h.c 7 _ rfl,h.c 8 _ rfl,AY,z2⟩
  ·exact⟨⟨4,_,0⟩,h.c 9 _ rfl,h.c 10 _ rfl,h.c 11 _ rfl,AY,z0⟩
  ·exact⟨⟨5,_,k3⟩,h.c 12 _ rfl,h.c 13 _ rfl,h.c 14 _ rfl,AY,z3⟩
 go_upto_region 8 with fail;generalize hW:w3.alloc _=W at*;have hw3:w.heap.size<=w3.heap.size:=hb.size;generalize w3.heap.size=lb at*;go_wp2;go_loopw[12] (fun i wr=>∃q:Nat,q<=5/\i=.int .i64 (q:Int)/\AA6 w wr/\Ae wr w.heap.size [.int .i64 0,.string ⟨#[]⟩,.int .i64 0]/\Ae wr lb [.int .i64 1,.string s,.int .i64 0,.int .i64 2,.string ⟨#[]⟩,.int .i64 k1,.int .i64 3,.string ⟨#[]⟩,.int .i64 k2,.int .i64 4,.string ⟨#[]⟩,.int .i64 0,.int .i64 5,.string ⟨#[]⟩,.int .i64 k3]) (fun i _=>5-(intOf i).toNat);exact⟨0,AY,rfl,hb3,hA,hL⟩;obtain⟨q,hq,rfl,hb,hA,hL⟩:=hrel;by_cases hend:q=5
 ·subst hend;obtain⟨r0,r1,r2⟩:=hA.c3;obtain⟨f0,f1,f2⟩:=hA.f3;go_wp2;(refine rB rfl (by go_simp;try rfl) rfl ?_);refine⟨?_,⟨0,⟨#[]⟩,0⟩,false,rfl,AY⟩;(repeat(first|with_reducible assumption|exact AJ _ _|exact AL|refine Below.drew ?_|refine Below.setCell ?_ (by first|exact AQ|(dsimp only;omega)) _|refine Below.alloc ?_ (by first|exact AQ|(simp;omega)|simp) _))
 ·have hlt:q<5:=by omega
  have A8:(q:Int)<5:=by omega
  obtain⟨x,e0,e1,e2,xs,xn⟩:=hel.out q wr hlt hL;have Kt:=fun v=>ND x.k x.s (hidden (by omega)) x.n _ rfl v;generalize KI x.k x.s.data.toList x.n=rv at Kt;have hPt:=fun v=>MZ (x:=x) (by unfold Sz;omega) xn v;go_wp2_with fail;refine(Kt _).mono ?_;rintro e w5 ⟨rfl,hb5⟩;replace e0:=AA hb5 e0;replace e1:=AA hb5 e1;replace e2:=AA hb5 e2;replace hA:=hA.nx hb5;replace hL:=hL.nx hb5;replace hb:=AB hb hb5;cases rv
  ·go_wp2;go_roundw;exact⟨q+1,by omega,by go_num,hb,hA,hL⟩;simp[intOf];omega
  ·go_wp2_with fail;refine(hPt _).mono ?_;rintro e w6 ⟨⟨t,rfl,ht⟩,hb6⟩;replace e0:=AA hb6 e0;replace e1:=AA hb6 e1;replace e2:=AA hb6 e2;replace hA:=hA.nx hb6;replace hL:=hL.nx hb6;replace hb:=AB hb hb6
   cases hts:(t.toList==s.toList)with
   |true=>
    obtain⟨r0,r1,r2⟩:=hA.c3;obtain⟨f0,f1,f2⟩:=hA.f3;go_wp2;(refine rB rfl (by go_simp;try rfl) rfl ?_);refine⟨?_,x,true,rfl,xs⟩
    (repeat(first|with_reducible assumption|exact AJ _ _|exact AL|refine Below.drew ?_|refine Below.setCell ?_ (by first|exact AQ|(dsimp only;omega)) _|refine Below.alloc ?_ (by first|exact AQ|(simp;omega)|simp) _))
   |false=>
    go_wp2;go_roundw;exact⟨q+1,by omega,by go_num,hb,hA,hL⟩;simp[intOf];omega
end
section
open Word Num Dp
abbrev nm(s:ByteArray):Bool:=Eb s.data.toList
abbrev Wz(l:List ByteArray):Prop:=l.length<=10000000/\∀s∈l,s.size<=10000000
def mU(e:Ending):Prop:=∃b:Bool,e=.returned (.bool b)
def uW(n m:Int)(e:Ending):Prop:=∃r:Int,e=.returned (.int .i64 r)/\(r=0->n<m)
def AAx(e:Ending):Prop:=∃(op:Int) (b:Bool),e=.returned (.tuple #[.int .i64 op,.bool b])/\(b=true->1<=op/\op<=34)
theorem DN{l:List ByteArray}(hb:Ae w pb (l.map Value.string))(hz:Wz l):Row DL 1 w (.slice (some ⟨pb,0,none⟩) l.length l.length) l:=by
 refine⟨some ⟨pb,0,none⟩,l.length,rfl,(fun e=>by cases e),⟨by have:=hz.1;omega,AQ⟩,fun i x hx=>⟨_,rfl,?_,?_⟩⟩
 ·rw[Dk,Nat.zero_add,Nat.mul_one];exact hb.c i _ (by simp[hx])
 grind
theorem Bn(h0:AA6 w0 w){l:List ByteArray}(hl:Row DL 1 w0 u l):Calls prog 230 #[u] w fun e w'=>e=.returned (.bool (l.all nm))/\w=w':=by
 obtain⟨p,c,rfl,-,⟨hn,-⟩,hl⟩:=hl;obtain⟨R,hR⟩:∃R,R=l.all nm:=⟨_,rfl⟩;rw[<-hR];go_enter func230,ntmps230;go_wp2;go_loopw[3] (fun i wr=>∃q:Nat,q<=l.length/\i=.int .i64 (q:Int)/\Hid (R=(l.drop q).all nm)/\wr=w) (fun i _=>l.length-(intOf i).toNat);exact⟨0,AY,rfl,hidden hR,rfl⟩;clear hR;obtain⟨q,hq,rfl,hR,rfl⟩:=hrel;by_cases hend:q=l.length
 ·subst hend;have hR:=hR.out;rw[List.drop_length]at hR;obtain rfl:R=true:=hR;go_wp2;go_ret;exact⟨rfl,rfl⟩
 ·have hlt:q<l.length:=by omega
  have A8:(q:Int)<l.length:=by omega
  have hR:=hR.out;rw[List.drop_eq_getElem_cons hlt,List.all_cons]at hR;obtain⟨a,rfl,d0,z0⟩:=hl q l[q] (by simp[hlt]);rw[Nat.mul_one]at d0;replace d0:=AA h0 d0;have hN:=fun w=>KZ l[q] _ rfl (by unfold Sz at z0;omega) w;generalize l[q]=s at*;change R=(nm s&&_)at hR
  cases hs:nm s with
  |false=>
   rw[hs]at hR;change Eb s.data.toList=false at hs;rw[hs]at hN;obtain rfl:R=false:=(by simpa using hR);clear hl hs hR;go_wp2_with fail;refine(hN _).mono ?_;rintro e w2 ⟨rfl,rfl⟩;go_wp2;go_ret
   exact⟨rfl,rfl⟩
  |true=>
   rw[hs,Bool.true_and]at hR;change Eb s.data.toList=true at hs;rw[hs]at hN;replace hR:=hidden hR;go_wp2_with fail;refine(hN _).mono ?_;rintro e w2 ⟨rfl,rfl⟩;go_wp2;go_roundw;exact⟨q+1,by omega,by go_num,hR,trivial⟩;simp[intOf];omega
theorem dz(s:ByteArray)(hs:s.size<=10000000)(w:World):Calls prog 246 #[.string s] w fun e w'=>mU e/\w=w':=by
 have hN:=fun w=>KZ s _ rfl (by omega) w;generalize Eb s.data.toList=b at hN
 cases h1:(s.toList==[105,110,116])with
 |true=>
  go_enter func246,ntmps246;go_wp2;go_ret
  exact⟨⟨_,rfl⟩,rfl⟩
 |false=>
  cases h2:(s.toList==[102,108,111,97,116])with
  |true=>
   go_enter func246,ntmps246;go_wp2;go_ret
   exact⟨⟨_,rfl⟩,rfl⟩
  |false=>
   go_enter func246,ntmps246;go_wp2_with fail;refine(hN _).mono ?_;rintro e w2 ⟨rfl,rfl⟩;go_wp2;go_ret;exact⟨⟨_,rfl⟩,rfl⟩
theorem D8(n m:Int)(w:World):Calls prog 234 #[.int .i64 n,.int .i64 m] w fun e w'=>uW n m e/\w=w':=by
 by_cases h:m<=n
 ·go_enter func234,ntmps234;go_wp2;go_ret;exact⟨⟨_,rfl,fun h=>absurd h (by decide)⟩,rfl⟩
 ·go_enter func234,ntmps234;go_wp2;go_ret;exact⟨⟨_,rfl,fun _=>by omega⟩,rfl⟩
theorem jw(s:ByteArray)(w:World)(hW:Words w):Calls prog 231 #[.string s] w fun e w'=>AAx e/\w=w':=by
 go_enter func231,ntmps231;go_wp2;go_loop[4] (fun i=>∃q:Nat,1<=q/\q<=35/\i=.int .i64 (q:Int)) (fun i=>35-(intOf i).toNat);exact⟨1,by omega,by omega,rfl⟩;obtain⟨q,hq1,hq,rfl⟩:=hrel;by_cases hend:q=35
 ·subst hend;go_wp2;go_ret2;exact⟨⟨_,_,rfl,fun h=>absurd h (by decide)⟩,rfl⟩
 ·have hlt:(q:Int)<=34:=by omega
  have hlt2:(q:Int)<35:=by omega
  have hlt3:q<=34:=by omega
  obtain⟨t,ht,-⟩:=hW q (by omega)
  cases hts:(t.toList==s.toList)with
  |true=>
   go_wp2;go_ret2
   exact⟨⟨_,_,rfl,fun _=>⟨by omega,hlt⟩⟩,rfl⟩
  |false=>
   go_wp2;go_round;exact⟨q+1,by omega,by omega,by go_num⟩;simp[intOf];omega
end
section
open Word Num Dp
def AAv(l:List ByteArray)(e:Ending):Prop:=∃b:Bool,e=.returned (.bool b)/\(b=true->l.length=3/\nm (l.getD 1 Bv)=true)
theorem CV{p:Option Addr}{c:Nat}{l:List ByteArray}(h:Row DL 1 w (.slice p n c) l)(hq:q<l.length):∃a,p=some a/\w.cell? (a.add q)=some (.string l[q]):=by
 obtain⟨p',c',e,-,-,hl⟩:=h;obtain⟨rfl,rfl,rfl⟩:p=p'/\n=l.length/\c=c':=by simpa using e
 obtain⟨a,rfl,h1,-⟩:=hl q l[q] (by simp[hq]);grind
theorem BQ{p:Option Addr}{c:Nat}{l:List ByteArray}(h:Row DL 1 w (.slice p n c) l)(hq:q+1<l.length):∃a,p=some a/\w.cell? ⟨a.block,a.off+(q+1),none⟩=some (.string l[q+1]):=by
 obtain⟨a,h1,h2⟩:=CV h hq;refine⟨a,h1,?_⟩;have:a.add (q+1)=⟨a.block,a.off+(q+1),none⟩:=by simp[Addr.add]
 grind
theorem Dl{l:List ByteArray}(h:Wz l)(hq:q<l.length):l[q].size<=10000000:=h.2 _ (List.getElem_mem hq)
theorem Gr(h0:AA6 w0 w){l:List ByteArray}(hl:Row DL 1 w0 u l)(hz:Wz l):Calls prog 235 #[u] w fun e w'=>AAv l e/\AA6 w w':=by
 obtain⟨p,c,rfl⟩:=hl.slice
 cases h3:((l.length:Int)==3)with
 |false=>
  go_enter func235,ntmps235;go_wp2;go_ret
  exact⟨⟨_,rfl,fun h=>by cases h⟩,AL⟩
 |true=>
  have hl3:l.length=3:=by
   have:(l.length:Int)=3:=(by simpa using h3);omega
  have Fw:(1:Int)<l.length:=by omega
  have Qj:(2:Int)<l.length:=by omega
  have C8:1<l.length:=by omega
  have LQ:2<l.length:=by omega
  obtain⟨a,rfl,d1⟩:=BQ hl (q:=0) C8;obtain⟨a',ea,d2⟩:=BQ hl (q:=1) LQ;simp only[Nat.zero_add,Nat.reduceAdd]at d1 d2;obtain rfl:a=a':=by simpa using ea
  replace d1:=AA h0 d1;replace d2:=AA h0 d2;have hz1:=Dl hz C8;have hz2:=Dl hz LQ;have hg:l.getD 1 Bv=l[1]:=by rw[List.getD_eq_getElem?_getD,List.getElem?_eq_getElem C8];rfl
  have hb:=AJ w (.cells #[.string l[1]] 9);have hN:=Bn (Below.refl (w.alloc (.cells #[.string l[1]] 9)).heap.size _) (DN (l:=[l[1]]) (Ae.alloc w [.string l[1]] 9) ⟨show 1<=10000000 by decide,by simpa using hz1⟩);simp only[List.length_cons,List.length_nil,Nat.zero_add,List.all_cons,List.all_nil,Bool.and_true]at hN;have hK:=fun w=>dz l[2] hz2 w;replace hl3:=hidden hl3;generalize l[1]=s1 at*;generalize l[2]=s2 at*;generalize hv:nm s1=v at*;replace hg:=hidden hg;replace hv:=hidden hv;go_enter func235,ntmps235;go_wp2_with fail;refine hN.mono ?_;rintro e w2 ⟨rfl,rfl⟩;replace d2:=AA hb d2;cases v
  ·go_wp2;go_ret;exact⟨⟨_,rfl,fun h=>by cases h⟩,hb⟩
  ·go_wp2_with fail;refine(hK _).mono ?_;rintro e w2 ⟨⟨b,rfl⟩,rfl⟩;go_wp2;go_ret;exact⟨⟨_,rfl,fun _=>⟨hl3.out,by rw[hg.out];exact hv.out⟩⟩,hb⟩
theorem aF:Qy 129 77 3 32:=.mk' (z:=.agg #[.int .i64 0,.string .empty,.int .i64 0]) underlying129 (by kernel_rfl) rfl (by decide)
theorem aZ{x:Ag}(hb:Ae w pb [.int .i64 x.k,.string x.s,.int .i64 x.n]):Af w B (Ls x) pb 0 []:=Af.of (AP.cc (hb.c 0 _ rfl) rfl (AP.cc (hb.c 1 _ rfl) rfl (AP.cc (hb.c 2 _ rfl) rfl AP.cn)))
abbrev Az(al:List Ag):Prop:=∀a∈al,a.s.size<=10000000
def AA3(w w':World)(n:Nat)(e:Ending):Prop:=∃(v:Value) (b:Bool) (al:List Ag) (F:List Nat),e=.returned (.tuple #[v,.bool b])/\(∃p m c,v=.slice p m c)/\(b=true->al.length=n/\AZ w' w.heap.size 77 3 (al.map Ls) v F/\F.Nodup/\Az al)
theorem FT(h0:AA6 w0 w){l:List ByteArray}(hl:Row DL 1 w0 u l)(hz:Wz l)(ob:Bool):Calls prog 233 #[u,.bool ob] w fun e w'=>AA3 w w' l.length e/\AA6 w w':=by
 have hlr:=hl;obtain⟨p,c,rfl⟩:=hl.slice;have hzl:=hz.1;go_enter func233,ntmps233;go_wp2;go_loopw[6,7,8,9] (fun v i _ _ wr=>∃(q:Nat) (al:List Ag) (F:List Nat),q<=l.length/\i=.int .i64 (q:Int)/\al.length=q/\AZ wr w.heap.size 77 3 (al.map Ls) v F/\F.Nodup/\Az al/\AA6 w wr) (fun _ i _ _ _=>l.length-(intOf i).toNat);exact⟨0,[],[],AY,rfl,rfl,.nil,by simp,(fun a h=>by cases h),AL⟩;obtain⟨q,al,F,hq,rfl,hal,hv,hF,haz,hb⟩:=hrel;obtain⟨pv,cv,rfl⟩:=hv.slice;rw[List.length_map]at hv⊢;by_cases hend:q=l.length
 ·subst hend;replace hal:=hidden hal;go_wp2;go_ret2;exact⟨⟨_,true,al,F,rfl,⟨_,_,_,rfl⟩,fun _=>⟨hal.out,hv,hF,haz⟩⟩,hb⟩
 ·have hlt:q<l.length:=by omega
  have A8:(q:Int)<l.length:=by omega
  obtain⟨a,rfl,d0⟩:=CV hlr hlt;replace d0:=AA (AB h0 hb) d0;have hG:=fun w=>uS l[q] (Dl hz hlt) w;generalize l[q]=s at*;replace hal:=hidden hal;go_wp2_with fail;refine(hG _).mono ?_;rintro e w2 ⟨hb2,x,b,rfl,hxs⟩;have hb3:=(AB hb hb2).alloc (AB hb hb2).size (.cells #[.int .i64 x.k,.string x.s,.int .i64 x.n] 77);have hB:=Ae.alloc w2 [.int .i64 x.k,.string x.s,.int .i64 x.n] 77;replace hv:=hv.same (w':=w2.alloc (.cells #[.int .i64 x.k,.string x.s,.int .i64 x.n] 77)) fun b hb'=>(Below.heap_alloc _ _ _ (A9 (hv.fp b hb').2 hb2.size)).trans (hb2.block b (hv.fp b hb').2);go_upto_region 6 with fail;have hbl:w2.heap.size<(w2.alloc (.cells #[.int .i64 x.k,.string x.s,.int .i64 x.n] 77)).heap.size:=by simp
  generalize w2.alloc _=W at*;generalize w2.heap.size=ab at*;go_cut[34]from 24 to 33 (fun v wx=>∃r:Bool,v=.bool r/\wx=W)
  ·have e0:=hB.c 0 _ rfl;cases b
   ·go_wp2;go_meet;exact⟨_,rfl,rfl⟩
   ·cases h5:(x.k==5)with
    |false=>
     go_wp2;go_meet
     exact⟨_,rfl,rfl⟩
    |true=>
     go_wp2;go_meet;exact⟨_,rfl,rfl⟩
  obtain⟨r,rfl,rfl⟩:=hcut;obtain⟨W,rfl⟩:∃W:World,W=wc:=⟨_,rfl⟩;cases r
  ·obtain⟨e0,e1,e2⟩:=hB.c3;have hB2:=Ae.alloc W [.int .i64 x.k,.string x.s,.int .i64 x.n] 77;have hb4:=hb3.alloc hb3.size (.cells #[.int .i64 x.k,.string x.s,.int .i64 x.n] 77);replace hv:=hv.same (w':=W.alloc (.cells #[.int .i64 x.k,.string x.s,.int .i64 x.n] 77)) fun b hb'=>Below.heap_alloc _ _ _ (hv.fp b hb').2;(go_wp2_with(at_builtin;refine HY rfl aF _ _ rfl rfl hv hF rfl hB2 (by simp[Value.oneCell']) (aZ hB2) (by simp) (by simp) rfl rfl (by rw[List.length_map,hal.out];omega) (by decide) hb4.size ?_;rintro v' w3 F' ⟨N7,Nh,rfl⟩ h1 h2 h3 h4 h5));have hb5:=hb4.trans h5;have h1':AZ w3 w.heap.size 77 3 ((al++[x]).map Ls) (.slice N7 ((List.map Ls al).length+1) Nh) F':=(by rw[List.map_append];exact h1);rw[List.length_map]at h1';go_roundw
   ·exact⟨q+1,al++[x],F',by omega,by go_num,by simp[hal.out],h1',h2,fun a ha=>(by
    rcases List.mem_append.1 ha with h|h
    ·exact haz a h
    ·rw[List.mem_singleton.1 h];exact hxs),hb5⟩
   simp[intOf];omega
  ·go_wp2;go_ret2;exact⟨⟨_,false,[],[],rfl,⟨none,0,0,rfl⟩,fun h=>by cases h⟩,hb3⟩
end
end Go.Proofs.YtlffomedflegdaaGreatDoor
