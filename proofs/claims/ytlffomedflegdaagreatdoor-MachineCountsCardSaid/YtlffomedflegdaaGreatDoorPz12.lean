/- Part 12 of 49 of the proof: Md, Box2, FloW, FloIW, NumW, Me, Knb. -/
import Derived.Test.YtlffomedflegdaaGreatDoorRows
import Derived.WalkKit
import Derived.Lib.Hide
import Derived.WalkSpells
import Derived.WalkLawsBesides
import Derived.LoopTactic
import Derived.Test.YtlffomedflegdaaGreatDoorPz00
import Derived.Test.YtlffomedflegdaaGreatDoorPz02
import Derived.Test.YtlffomedflegdaaGreatDoorPz04
import Derived.Test.YtlffomedflegdaaGreatDoorPz05
import Derived.Test.YtlffomedflegdaaGreatDoorPz06
import Derived.Test.YtlffomedflegdaaGreatDoorPz11
set_option linter.all false
set_option maxHeartbeats 16000000
set_option maxRecDepth 100000
namespace Go.Proofs.YtlffomedflegdaaGreatDoor
open Go.Proofs.Tryz
open Go.RowKit
variable {B i p:Nat}{w w0:World}
theorem AZ.app1{w2:World}{s pb:Nat}{e:TypeId}{l:List Dt}{v v':Value}{d:Dt}{fp fd:List Nat}{cs xs:List Value}(h:AZ w B e s l v fp)(hn:fp.Nodup)(hx:w.ownsRow B e s v l.length xs)(hb:Ae w pb cs)(hd:Af w B d pb 0 fd)(hnd:fd.Nodup)(hdj:∀b,b∈fd->b∉fp)(hdw:d.wd=s) (hcs:cs.length=s) (ho:w2.ownsRow B e s v' (l.length+1) (xs++cs)) (hg:w.grownBy w2 v.ownBlock) (hf:∀k,v'.ownBlock=some k->v.ownBlock=some k\/w.heap.size<=k):∃fp',AZ w2 B e s (l++[d]) v' fp'/\fp'.Nodup/\∀b,b∈fp'->b∈fp\/b∈fd\/w.heap.size<=b:=by
 refine h.push (r:=[d]) (ga:=pb) (oa:=0) (fd:=fd) (news:=cs) hx ?_ (fun x hx=>by simp at hx;rw[hx];exact hdw) (by simp) (by simp[hcs]) (fun j hj=>?_) (by simpa using ho) hg hf hn hnd hdj
 ·unfold AP;exact⟨fd,[],by simp,hd,by unfold AP;rfl⟩
 grind [cases Ae]
theorem Tw{pb:Nat}{v:Vu}(hb:Ae w pb [.string v.1,.int .i64 v.2]):Af w B (C9 v) pb 0 []:=Af.of (AP.cc (hb.c 0 _ rfl) rfl (AP.cc (hb.c 1 _ rfl) rfl AP.cn))
abbrev NZ(a:Ag):Prop:=a.k=1\/a.k=2\/a.k=3\/a.k=4
theorem Md(h0:AA6 w0 w){M FB n cap b:Nat}{x:Lv}(hT:DX w M FB n cap b x){l:List Ag}{u:Value}(hl:Row Lg 3 w0 u l)(hk:∀a∈l,NZ a)(hn:l.length<=1000000):Calls prog 134 #[.pointer (some ⟨M,0,none⟩),u] w fun e w'=>AA6 w w'/\∃v fp,e=.returned v/\AZ w' w.heap.size 34 2 ((l.map (Ar x.vars)).map C9) v fp/\fp.Nodup:=by
 obtain⟨pl,cl,rfl,-,-,hl⟩:=hl;obtain⟨i0,hi,hz0,hz1,hz2⟩:=Cq VW;go_enter func134,ntmps134;go_wp2;go_loopw[5,10] (fun o i wr=>∃(q:Nat) (fp:List Nat),q<=l.length/\i=.int .i64 (q:Int)/\AZ wr w.heap.size 34 2 (((l.take q).map (Ar x.vars)).map C9) o fp/\fp.Nodup/\AA6 w wr) (fun _ i _=>l.length-(intOf i).toNat);exact⟨0,[],AY,rfl,.nil,by simp,AL⟩;obtain⟨q,fp,hq,rfl,hv,hnd,hb⟩:=hrel;by_cases hend:q=l.length
 ·subst hend;rw[List.take_length]at hv;go_wp2;go_ret;exact⟨hb,_,fp,rfl,hv,hnd⟩
 ·have hlt:q<l.length:=by omega
  have A8:(q:Int)<l.length:=by omega
  obtain⟨a,rfl,d0,⟨d1,-⟩,d2⟩:=hl q l[q] (by simp[hlt]);have hka:=hk l[q] (by simp);have hbw:=AB h0 hb;replace d0:=AA hbw d0;replace d1:=AA hbw d1;replace d2:=AA hbw d2;have hTr:=hT.kp hb;obtain⟨xs,hx⟩:=hv.owns;have hlen:(((l.take q).map (Ar x.vars)).map C9).length=q:=by simp;omega
  rw[hlen]at hx;have hTa:∀o,DX (wr.alloc o) M FB n cap b x:=fun o=>hTr.kp (AJ _ o);go_wp2_with fail;refine(Cm (hTa _) l[q] hka).mono ?_;rintro e w2 ⟨rfl,hb2⟩;obtain⟨-,hb3⟩:=BR (w:=wr) (c1:=[.int .i64 l[q].k,.string l[q].s,.int .i64 l[q].n]) (t1:=77) hb2;have hlq:l.take (q+1)=l.take q++[l[q]]:=List.take_succ_eq_append_getElem hlt;generalize hvq:Ar x.vars l[q]=vq at*;have hx2:=Dh hx hb3 (AQ);have hv2:AZ w2 w.heap.size 34 2 (((l.take q).map (Ar x.vars)).map C9) u5 fp:=hv.same (fun b hb=>hb3.block b (hv.fp b hb).2);have hbz:AA6 w w2:=hb.trans (hb3.mono hb.size);have hB2:=Ae.alloc w2 [.string vq.1,.int .i64 vq.2] 34;go_wp2_with(at_builtin;refine wpList_append_own' rfl _ _ 37 rfl w.heap.size 34 i0 _ 2 24 underlying37 hi hz0 hz1 hz2 rfl (by decide) _ q xs rfl (World.ownsRow.alloc hx2 _) ⟨w2.heap.size,0,none⟩ 1 1 [.string vq.1,.int .i64 vq.2] rfl rfl (fun j u hu=>by rw[Dk,Nat.zero_add];exact hB2.c j u hu) (by simp[Value.oneCell']) (by unfold maxLen;omega) (by omega) (by have:=hbz.size;simp;omega) ?_;intro v' w3 ho hg hf)
  have hv3:AZ (w2.alloc (Obj.cells #[.string vq.1,.int .i64 vq.2] 34)) w.heap.size 34 2 (((l.take q).map (Ar x.vars)).map C9) u5 fp:=hv2.same (fun b hb=>Below.heap_alloc _ _ _ (hv2.fp b hb).2);obtain⟨fp',k1,k2,-⟩:=AZ.app1 (d:=C9 vq) (w2:=w3) (v':=v') hv3 hnd (by rw[hlen];exact World.ownsRow.alloc hx2 _) hB2 (Tw hB2) (by simp) (by simp) rfl rfl (by rw[hlen];exact ho) hg hf;have hbf:AA6 w w3:=(hbz.alloc hbz.size _).grown hg (by have:=hbz.size;simp;omega) (fun k hk=>(hx2.lt k hk).1);have hfin:(((l.take (q+1)).map (Ar x.vars)).map C9)=((l.take q).map (Ar x.vars)).map C9++[C9 vq]:=by rw[hlq,List.map_append,List.map_append,List.map_singleton,List.map_singleton,hvq]
  rw[<-hfin]at k1;go_roundw;exact⟨q+1,fp',by omega,by go_num,k1,k2,hbf⟩;simp[intOf];omega
section
def DI(w0:World)(na ns:Nat)(zs cs:List Value)(V:Nat->Value)(L:Nat->Bool)(w1:World):Prop:=
 (L ns=true->L na=true)/\(L na=true->∃p,V na=.pointer (some ⟨p,0,none⟩)/\w0.heap.size<=p/\p<w1.heap.size/\Ae w1 p (if L ns=true then cs else zs))
structure Dw(w0:World)(na ns nb nt:Nat)(zs cs ds:List Value)(V:Nat->Value)(L:Nat->Bool)(w1:World):Prop where
 b:AA6 w0 w1
 x:DI w0 na ns zs cs V L w1
 y:DI w0 nb nt zs ds V L w1
 d:L na=true->L nb=true->V na≠V nb
section
variable {w0 w1 w2 : World} {na ns nb nt : Nat} {zs cs ds : List Value} {V : Nat -> Value} {L : Nat -> Bool}
theorem DI.keep(h:DI w0 na ns zs cs V L w1)(h1:(na==i)=false)(h2:(ns==i)=false):DI w0 na ns zs cs V (upd L i) w1:=by simp_all[DI,upd]
theorem DI.grown(h:DI w0 na ns zs cs V L w1){row:Option Nat}(hg:w1.grownBy w2 row)(hn:∀p,L na=true->V na=.pointer (some ⟨p,0,none⟩)->some p≠row):DI w0 na ns zs cs V L w2:=by
 refine⟨h.1,fun hl=>?_⟩;obtain⟨p,e,h3,h4,h5⟩:=h.2 hl;exact⟨p,e,h3,A9 h4 hg.size,h5.same (hg.block p h4 (hn p hl e))⟩
theorem DI.EB(h:DI w0 na ns zs cs V L w1)(h1:(na==i)=false)(v:Value):DI w0 na ns zs cs (EB V i v) L w1:=by
 unfold DI;rw[Br V v (by simpa using h1)];exact h
theorem DI.made(h:DI w0 na ns zs cs V L w1)(hns:(ns==na)=false)(hl:L na=false)(hB:w0.heap.size<=w1.heap.size)(t:TypeId):DI w0 na ns zs cs (Go.Proofs.YtlffomedflegdaaGreatDoor.EB V na (.pointer (some ⟨w1.heap.size,0,none⟩))) (upd L na) (w1.alloc (Obj.cells zs.toArray t)):=by
 have hno:L ns=false:=by
  cases hn:L ns with
  |false=>rfl
  |true=>have:=h.1 hn;rw[hl]at this;cases this
 refine⟨fun _=>Cc,fun _=>⟨w1.heap.size,BL _ _ _,hB,by simp,?_⟩⟩;rw[upd_ne hns,hno];exact Ae.alloc w1 zs t
theorem Dw.start(h:AA6 w0 w1):Dw w0 na ns nb nt zs cs ds V (fun _=>false) w1:=
 ⟨h,⟨(fun e=>Bool.noConfusion e),(fun e=>Bool.noConfusion e)⟩,⟨(fun e=>Bool.noConfusion e),(fun e=>Bool.noConfusion e)⟩,(fun e=>Bool.noConfusion e)⟩
theorem Dw.keep(h:Dw w0 na ns nb nt zs cs ds V L w1)(h1:(na==i)=false)(h2:(ns==i)=false)(h3:(nb==i)=false)(h4:(nt==i)=false):Dw w0 na ns nb nt zs cs ds V (upd L i) w1:=
 ⟨h.b,h.x.keep h1 h2,h.y.keep h3 h4,by rw[upd_ne h1,upd_ne h3];exact h.d⟩
theorem DI.fresh(h:DI w0 na ns zs cs V L w1)(hl:L na=true):V na≠ .pointer (some ⟨w1.heap.size,0,none⟩):=fun e=>by
 obtain⟨p,e',_,h4,_⟩:=h.2 hl;rw[e']at e;simp only[Value.pointer.injEq,Option.some.injEq,Addr.mk.injEq,and_true]at e;omega
theorem Dw.AAM(h:Dw w0 na ns nb nt zs cs ds V L w1)(h1:(ns==na)=false)(h2:(nb==na)=false)(h3:(nt==na)=false)(hl:L na=false)(t:TypeId):Dw w0 na ns nb nt zs cs ds (EB V na (.pointer (some ⟨w1.heap.size,0,none⟩))) (upd L na) (w1.alloc (Obj.cells zs.toArray t)):=
 ⟨h.b.alloc h.b.size _,h.x.made h1 hl h.b.size t,((h.y.grown (World.grownBy_alloc w1 _ none) (by simp)).EB h2 _).keep h2 h3,fun _ e=>by
  rw[upd_ne h2]at e;rw[BL,Br V _ (by simpa using h2)]
  exact Ne.symm (h.y.fresh e)⟩
theorem Dw.AAL(h:Dw w0 na ns nb nt zs cs ds V L w1)(h1:(nt==nb)=false)(h2:(na==nb)=false)(h3:(ns==nb)=false)(hl:L nb=false)(t:TypeId):Dw w0 na ns nb nt zs cs ds (EB V nb (.pointer (some ⟨w1.heap.size,0,none⟩))) (upd L nb) (w1.alloc (Obj.cells zs.toArray t)):=
 ⟨h.b.alloc h.b.size _,((h.x.grown (World.grownBy_alloc w1 _ none) (by simp)).EB h2 _).keep h2 h3,h.y.made h1 hl h.b.size t,fun e _=>by
  rw[upd_ne h2]at e;rw[BL,Br V _ (by simpa using h2)]
  exact h.x.fresh e⟩
theorem DI.at(h:DI w0 na ns zs cs V L w1)(hl:L na=true)(hn:L ns=false):∃p,V na=.pointer (some ⟨p,0,none⟩)/\w0.heap.size<=p/\p<w1.heap.size/\Ae w1 p zs:=by simp_all[DI,none]
theorem DI.done(h:DI w0 na ns zs cs V L w1)(hl:L na=true)(hn:L ns=true):∃p,V na=.pointer (some ⟨p,0,none⟩)/\w0.heap.size<=p/\p<w1.heap.size/\Ae w1 p cs:=by simp_all[DI,none]
theorem DI.fill(hl:L na=true)(hp:V na=.pointer (some ⟨p,0,none⟩))(hp0:w0.heap.size<=p)(hp1:p<w2.heap.size)(hx:Ae w2 p cs)(hns:(na==ns)=false):DI w0 na ns zs cs V (upd L ns) w2:=by simp_all[none,DI,upd]
theorem Dw.Z6(h:Dw w0 na ns nb nt zs cs ds V L w1)(hl:L na=true)(hp:V na=.pointer (some ⟨p,0,none⟩))(hp0:w0.heap.size<=p)(hp1:p<w2.heap.size)(hB:AA6 w0 w2)(hx:Ae w2 p cs)(hg:w1.grownBy w2 (some p))(h1:(na==ns)=false) (h2:(nb==ns)=false) (h3:(nt==ns)=false):Dw w0 na ns nb nt zs cs ds V (upd L ns) w2:=
 ⟨hB,DI.fill hl hp hp0 hp1 hx h1,(h.y.grown hg (fun q hq e=>by
  have:=h.d hl hq;rw[hp,e]at this;intro e';have e':q=p:=by simpa using e'
  rw[e']at this
  exact this rfl)).keep h2 h3,by rw[upd_ne h1,upd_ne h2];exact h.d⟩
theorem Dw.Z5(h:Dw w0 na ns nb nt zs cs ds V L w1)(hl:L nb=true)(hp:V nb=.pointer (some ⟨p,0,none⟩))(hp0:w0.heap.size<=p)(hp1:p<w2.heap.size)(hB:AA6 w0 w2)(hx:Ae w2 p ds)(hg:w1.grownBy w2 (some p))(h1:(nb==nt)=false) (h2:(na==nt)=false) (h3:(ns==nt)=false):Dw w0 na ns nb nt zs cs ds V (upd L nt) w2:=
 ⟨hB,(h.x.grown hg (fun q hq e=>by
  have:=h.d hq hl;rw[hp,e]at this;intro e';have e':q=p:=by simpa using e'
  rw[e']at this
  exact this rfl)).keep h2 h3,DI.fill hl hp hp0 hp1 hx h1,by rw[upd_ne h1,upd_ne h2];exact h.d⟩
theorem O8{a b:Value}:w.grownBy ((w.setCell ⟨p,0,none⟩ a).setCell ⟨p,1,none⟩ b) (some p):=by
 have h1:=JM w p 0 a;have h2:=JM (w.setCell ⟨p,0,none⟩ a) p 1 b;exact⟨h2.os.trans h1.os,h2.tape.trans h1.tape,h2.output.trans h1.output,AX h1.size h2.size,fun k hk hn=>(h2.block k (A9 hk h1.size) hn).trans (h1.block k hk hn)⟩
theorem Dw.call(h:Dw w0 na ns nb nt zs cs ds V L w1)(hb:AA6 w1 w2)(h1:(na==i)=false)(h2:(ns==i)=false)(h3:(nb==i)=false)(h4:(nt==i)=false):Dw w0 na ns nb nt zs cs ds V (upd L i) w2:=
 Dw.keep ⟨h.b.trans (hb.mono h.b.size),h.x.grown (Ez hb (AQ)) (by simp),h.y.grown (Ez hb (AQ)) (by simp),h.d⟩ h1 h2 h3 h4
theorem Ae.nY{a b:Value}(h:Ae w1 p [a,b])(x y:Value):Ae ((w1.setCell ⟨p,0,none⟩ x).setCell ⟨p,1,none⟩ y) p [x,y]:=(h.set (i:=0) (by simp) x).set (i:=1) (by simp) y
end
end
section
open Dp
@[go_sem] theorem mV (n:Int) (w:World):(callFunc 150 #[.int .u64 n]).run prog w=.ok (.value (.float .f64 n.toNat)) w:=by
 rw[run_callFunc_extern (e:=Extern.MathFloatBits.float64frombits) func150 (by kernel_rfl) (by kernel_rfl) (by kernel_rfl) (by kernel_rfl)];rfl
@[go_sem] theorem uh (n:Nat) (w:World):(callFunc 190 #[.float .f64 n]).run prog w=.ok (.value (.int .u64 n)) w:=by
 rw[run_callFunc_extern (e:=Extern.MathFloatBits.float64bits) func190 (by kernel_rfl) (by kernel_rfl) (by kernel_rfl) (by kernel_rfl)];rfl
theorem Ka(n:Int)(w:World):Calls prog 24 #[.int .i64 n] w fun e w'=>e=.returned (.int .i64 (Ba n))/\w=w':=by
 go_enter func24,ntmps24;go_wp2
 ·go_ret;exact⟨FQ (Xp (by assumption) (by assumption)).symm,rfl⟩
 ·go_ret;exact⟨FQ (Xq (by assumption)).symm,rfl⟩
 ·go_ret;exact⟨FQ (Xr (by assumption)).symm,rfl⟩
theorem MQ(n:Int)(w:World):Calls prog 133 #[.int .i64 n] w fun e w'=>e=.returned (.float .f64 (pb n))/\w=w':=by
 go_enter func133,ntmps133;go_wp2_with((with_reducible refine(Ka ..).mono ?_);rintro e w' ⟨rfl,rfl⟩)
 go_ret;exact⟨by rw[IntKind.wrap_u64];rfl,rfl⟩
theorem aB(x:Nat)(w:World):Calls prog 131 #[.float .f64 x] w fun e w'=>e=.returned (.int .i64 (Ba (wrap64 x)))/\w=w':=by
 go_enter func131,ntmps131;go_wp2_with((with_reducible refine(Ka ..).mono ?_);rintro e w' ⟨rfl,rfl⟩)
 go_ret;exact⟨rfl,rfl⟩
theorem XH(b:Bool)(w:World):Calls prog 196 #[.bool b] w fun e w'=>e=.returned (.tuple #[.int .i64 (tr b),.bool true])/\w=w':=by
 cases b<;>
 ·go_enter func196,ntmps196;go_wp2;go_ret2;exact⟨rfl,rfl⟩
theorem YJ(n:Int)(w:World):Calls prog 57 #[.int .i64 n] w fun e w'=>e=.returned (.bool (Bc (u64 n)))/\w=w':=by
 go_enter func57,ntmps57;go_wp2;go_ret;exact⟨EF (eB n),rfl⟩
theorem NG(n:Int)(w:World):Calls prog 34 #[.int .i64 n] w fun e w'=>e=.returned (.int .i64 (Ba n))/\w=w':=by
 cases h:Bc (u64 n);all_goals
  have hv:Ba n=if Bc (u64 n)then Pe else n:=rfl;rw[h]at hv;go_enter func34,ntmps34;go_wp2_with((with_reducible refine(YJ ..).mono ?_);rintro e w' ⟨rfl,rfl⟩)
  go_ret;exact⟨FQ hv.symm,rfl⟩
theorem rz{op a b n:Int}{y:Bool}(h:OA op a b=(n,y)):Ending.returned (.tuple #[.int .i64 n,.bool y])=.returned (.tuple #[.int .i64 (OA op a b).1,.bool (OA op a b).2]):=by rw[h]
theorem tZ(op a b:Int)(w:World):Calls prog 142 #[.int .i64 op,.int .i64 a,.int .i64 b] w fun e w'=>e=.returned (.tuple #[.int .i64 (OA op a b).1,.bool (OA op a b).2])/\AA6 w w':=by
 obtain⟨r1,w1,hr1,hb1,_,hv1⟩:=JD (P:=prog) .add (by simp) 199 (pb a) (pb b) w;obtain⟨r2,w2,hr2,hb2,_,hv2⟩:=JD (P:=prog) .sub (by simp) 199 (pb a) (pb b) w;obtain⟨r3,w3,hr3,hb3,_,hv3⟩:=JD (P:=prog) .mul (by simp) 199 (pb a) (pb b) w;obtain⟨r4,w4,hr4,hb4,_,hv4⟩:=JD (P:=prog) .quo (by simp) 199 (pb a) (pb b) w;have H1:=hidden hv1;have H2:=hidden hv2;have H3:=hidden hv3;have H4:=hidden hv4;clear hv1 hv2 hv3 hv4;go_enter func142,ntmps142;go_wp2_with(first|((with_reducible refine(MQ ..).mono ?_);rintro e w' ⟨rfl,rfl⟩)|((with_reducible refine(aB ..).mono ?_);rintro e w' ⟨rfl,rfl⟩)|((with_reducible refine(XH ..).mono ?_);rintro e w' ⟨rfl,rfl⟩))
 all_goals go_ret2
 all_goals refine⟨rz ?_,by first|assumption|exact AL⟩
 ·exact mH ‹_› H1.out
 ·exact l8 ‹_› H2.out
 ·exact mD ‹_› H3.out
 ·exact l9 ‹_› H4.out
 ·exact mG ‹_›
 ·exact mE ‹_›
 ·exact mF ‹_›
 ·exact fO ‹_› ‹_› ‹_› ‹_› ‹_› ‹_› ‹_›
theorem X6(n:Int)(w:World):Calls prog 75 #[.int .i64 n] w fun e w'=>e=.returned (.int .i64 (MR n))/\w=w':=by
 go_enter func75,ntmps75;go_wp2_with((with_reducible refine(aB ..).mono ?_);rintro e w' ⟨rfl,rfl⟩)
 go_ret;exact⟨rfl,rfl⟩
theorem aJ(op:Int)(w:World):Calls prog 141 #[.int .i64 op] w fun e w'=>e=.returned (.bool (decide (15<=op)&&decide (op<=21)))/\w=w':=by
 by_cases h1:15<=op;all_goals
  go_enter func141,ntmps141;go_wp2;all_goals go_ret
  all_goals exact⟨EF (by first|(simp_all;done)|(simp_all;omega)),rfl⟩
end
section
open Dp
theorem XJ(n:Int)(w:World)(hn:Bc (u64 n)=true):Calls prog 77 #[.int .i64 n] w fun e w'=>e=.returned (.int .i64 (CU n))/\w=w':=by
 have H:Hid (CU n=0):=by simp[CU,hn,Hid]
 have h0:(FloatKind.f64.format.order (pb n) (pb n) !=some Ordering.eq)=true:=by rw[IE (Zu n),Oy];exact hn
 go_enter func77,ntmps77;go_wp2_with((with_reducible refine(MQ ..).mono ?_);rintro e w' ⟨rfl,rfl⟩)
 go_ret;exact⟨FQ H.out.symm,rfl⟩
theorem XI(n:Int)(w:World)(h1: -9223372036854775808<=n)(h2:n<=9223372036854775807)(hn:Bc (u64 n)=false):Calls prog 77 #[.int .i64 n] w fun e w'=>e=.returned (.int .i64 (CU n))/\w=w':=by
 have hw:=UN n h1 h2 hn;have h0:(FloatKind.f64.format.order (pb n) (pb n) !=some Ordering.eq)=false:=by rw[IE (Zu n),Oy];exact hn
 have hp:pb n=u64 n:=Xu hn;rw[<-hp]at hw;clear hn hp;rcases hw with⟨c1,hv⟩|⟨c1,c2,hv⟩|⟨c1,c2,hv⟩
 ·have H:=hidden hv;unfold iO nW at c1;go_enter func77,ntmps77;go_wp2_with((with_reducible refine(MQ ..).mono ?_);rintro e w' ⟨rfl,rfl⟩)
  go_ret;exact⟨FQ H.out.symm,rfl⟩
 ·have H:=hidden hv;clear hv;unfold iO nW at c1;unfold vg xL at c2;go_enter func77,ntmps77;go_wp2_with((with_reducible refine(MQ ..).mono ?_);rintro e w' ⟨rfl,rfl⟩)
  go_ret;exact⟨FQ H.out.symm,rfl⟩
 ·have hr:=run_convert_float_int (P:=prog) w 199 2 .f64 .i64 (pb n) (CU n) (by rw[underlying199];rfl) underlying2 hv;unfold iO nW at c1;unfold vg xL at c2;go_enter func77,ntmps77;go_wp2_with((with_reducible refine(MQ ..).mono ?_);rintro e w' ⟨rfl,rfl⟩)
  go_ret;exact⟨rfl,rfl⟩
theorem XK(n:Int)(w:World)(h1: -9223372036854775808<=n)(h2:n<=9223372036854775807):Calls prog 77 #[.int .i64 n] w fun e w'=>e=.returned (.int .i64 (CU n))/\w=w':=by grind [XI,XJ]
end
section
open Num
theorem Jk{op a b n:Int}{y:Bool}(h:Kv op a b=(n,y)):Ending.returned (.tuple #[.int .i64 n,.bool y])=.returned (.tuple #[.int .i64 (Kv op a b).1,.bool (Kv op a b).2]):=by rw[h]
theorem Uu(b:Bool)(w:World):Calls prog 224 #[.bool b] w fun e w'=>e=.returned (.tuple #[.int .i64 (mX b),.bool true])/\w=w':=by
 cases b<;>
 ·go_enter func224,ntmps224;go_wp2;go_ret2;exact⟨rfl,rfl⟩
theorem dU(op a b:Int)(hop:op=4\/op=5)(w:World):Calls prog 197 #[.int .i64 op,.int .i64 a,.int .i64 b] w fun e w'=>e=.returned (.tuple #[.int .i64 (Kv op a b).1,.bool (Kv op a b).2])/\w=w':=by
 by_cases h0:b=0
 ·subst h0;have H:Hid (Kv op a 0=(0,false)):=by rcases hop with rfl|rfl<;>rfl
  rcases hop with rfl|rfl;all_goals
   go_enter func197,ntmps197;go_wp2;go_ret2;exact⟨Jk H.out,rfl⟩
 ·have hb0:(b==0)=false:=by simpa using h0
  by_cases h1:b= -1
  ·subst h1;rcases hop with rfl|rfl
   ·go_enter func197,ntmps197;go_wp2;go_ret2;exact⟨Jk (tu a),rfl⟩
   ·go_enter func197,ntmps197;go_wp2;go_ret2;exact⟨Jk (sD a),rfl⟩
  ·have hb1:(b== -1)=false:=(by simpa using h1);have H4:=hidden (uD (a:=a) h0);have H5:=hidden (sF (a:=a) h0);rcases hop with rfl|rfl;all_goals
    go_enter func197,ntmps197;go_wp2;go_ret2;refine⟨Jk ?_,rfl⟩
    first|exact H4.out|exact H5.out
theorem QO(op a b:Int)(hop:op<1\/10<op)(w:World):Calls prog 198 #[.int .i64 op,.int .i64 a,.int .i64 b] w fun e w'=>e=.returned (.tuple #[.int .i64 (Kv op a b).1,.bool (Kv op a b).2])/\w=w':=by
 by_cases h:op<1\/14<op
 ·have H:=hidden (mI (a:=a) (b:=b) h);have e1:(op==11)=false:=by rw[beq_eq_false_iff_ne];omega
  have e2:(op==12)=false:=by rw[beq_eq_false_iff_ne];omega
  have e3:(op==13)=false:=by rw[beq_eq_false_iff_ne];omega
  have e4:(op==14)=false:=by rw[beq_eq_false_iff_ne];omega
  go_enter func198,ntmps198;go_wp2;go_ret2;exact⟨Jk H.out,rfl⟩
 ·have hw:op=11\/op=12\/op=13\/op=14:=by omega
  rcases hw with rfl|rfl|rfl|rfl;all_goals
   go_enter func198,ntmps198;(go_wp2_with((with_reducible refine(Uu ..).mono ?_);rintro e w' ⟨rfl,rfl⟩));go_ret2;exact⟨rfl,rfl⟩
theorem kM(op a b:Int)(w:World):Calls prog 143 #[.int .i64 op,.int .i64 a,.int .i64 b] w fun e w'=>e=.returned (.tuple #[.int .i64 (Kv op a b).1,.bool (Kv op a b).2])/\w=w':=by
 have h63:=uR b;have hsl:=zU b;by_cases h:op<1\/10<op
 ·have e1:(op==1)=false:=by rw[beq_eq_false_iff_ne];omega
  have e2:(op==2)=false:=by rw[beq_eq_false_iff_ne];omega
  have e3:(op==3)=false:=by rw[beq_eq_false_iff_ne];omega
  have e4:(op==4)=false:=by rw[beq_eq_false_iff_ne];omega
  have e5:(op==5)=false:=by rw[beq_eq_false_iff_ne];omega
  have e6:(op==6)=false:=by rw[beq_eq_false_iff_ne];omega
  have e7:(op==7)=false:=by rw[beq_eq_false_iff_ne];omega
  have e8:(op==8)=false:=by rw[beq_eq_false_iff_ne];omega
  have e9:(op==9)=false:=by rw[beq_eq_false_iff_ne];omega
  have e10:(op==10)=false:=by rw[beq_eq_false_iff_ne];omega
  have H:=hidden h;go_enter func143,ntmps143;go_wp2_with((with_reducible refine(QO _ _ _ H.out _).mono ?_);rintro e w' ⟨rfl,rfl⟩)
  go_ret2;exact⟨rfl,rfl⟩
 ·by_cases h4:op=4\/op=5
  ·have H:=hidden h4;rcases h4 with rfl|rfl;all_goals
    go_enter func143,ntmps143;(go_wp2_with((with_reducible refine(dU _ _ _ H.out _).mono ?_);rintro e w' ⟨rfl,rfl⟩));go_ret2;exact⟨rfl,rfl⟩
  ·have hw:op=1\/op=2\/op=3\/op=6\/op=7\/op=8\/op=9\/op=10:=(by omega);rcases hw with rfl|rfl|rfl|rfl|rfl|rfl|rfl|rfl;all_goals
    go_enter func143,ntmps143;go_wp2;go_ret2;exact⟨rfl,rfl⟩
end
section
open Num Dp
structure Qd(w0 w:World)(B N M:Nat)(k:Hd)(s:St)(j:Int)(rest:List Lv)(x:Lv)(i:Is)(p1:Option Addr)(c1:Nat):Prop where
 h0:AA6 w0 w
 a:Row Lg 3 w0 (.slice p1 i.as.length c1) i.as
 m:Am w B N M k s j
 fr:s.frames=rest++[x]
 l:rest.length+1<=140737488351232
 x:x.i<=1000000
 n:i.as.length<=8
 k:∀a∈i.as,NZ a
abbrev BI(B M:Nat)(k:Hd)(s:St)(j:Int)(w:World)(e:Ending)(w':World):Prop:=e=.returned (.tuple #[])/\(∃N',Am w' B N' M k s j)/\Below B w w'
theorem Um{N M:Nat}{k:Hd}{s:St}{j:Int}{rest:List Lv}{x:Lv}{i:Is}{p1 p2 p3:Option Addr}{c1 l2 c2 l3 c3:Nat}(h:Qd w0 w B N M k s j rest x i p1 c1){a b:Ag}(has:i.as=[a,b])(hop:1<=i.op/\i.op<=21){t:St}(ht:(if i.op<=14 then(if(Kv i.op (Ar x.vars a).2 (Ar x.vars b).2).2=true then BP s rest x i.d (BA,(Kv i.op (Ar x.vars a).2 (Ar x.vars b).2).1)else Gd s 2) else BP s rest x i.d (if i.op<=18 then Ao else BA,(OA i.op (Ar x.vars a).2 (Ar x.vars b).2).1))=t):Calls prog 86 #[.pointer (some ⟨M,0,none⟩),.agg #[.int .i64 i.op,.string i.d,.string i.n,.slice p1 i.as.length c1,.slice p2 l2 c2,.slice p3 l3 c3]] w (BI B M k t j w):=by
 obtain⟨h0,hA,hM,hfr,hl,hx,-,hk⟩:=h;obtain⟨pa,ca,hpa,-,-,hA⟩:=hA;have hka:NZ a:=hk a (by rw[has];simp);have hkb:NZ b:=hk b (by rw[has];simp);obtain⟨aa,e1,d0,⟨d1,-⟩,d2⟩:=hA 0 a (by rw[has];rfl);obtain⟨xJ,e2,g0,⟨g1,-⟩,g2⟩:=hA 1 b (by rw[has];rfl);have hlen:i.as.length=2:=by rw[has];rfl
 rw[hlen]at hpa⊢;obtain⟨rfl,rfl⟩:p1=pa/\c1=ca:=by simpa using hpa
 subst e1;obtain rfl:aa=xJ:=by simpa using e2
 replace d0:w0.cell? aa=some (.int .i64 a.k):=d0;replace d1:w0.cell? ⟨aa.block,aa.off+1,none⟩=some (.string a.s):=d1;replace d2:w0.cell? ⟨aa.block,aa.off+2,none⟩=some (.int .i64 a.n):=d2;replace g0:w0.cell? ⟨aa.block,aa.off+3,none⟩=some (.int .i64 b.k):=g0;replace g1:w0.cell? ⟨aa.block,aa.off+3+1,none⟩=some (.string b.s):=g1;replace g2:w0.cell? ⟨aa.block,aa.off+3+2,none⟩=some (.int .i64 b.n):=g2;generalize i.d=dst at*;generalize i.n=nm at*;generalize i.op=op at*;obtain⟨hI,hb1⟩:=BR (w:=w) (c1:=[.int .i64 op,.string dst,.string nm,.slice (some aa) 2 c1,.slice p2 l2 c2,.slice p3 l3 c3]) (t1:=133) (AL);have Df:N<=w.heap.size:=hM.own.sz;have hBN:B<=N:=by have:=hM.own.ge;have:=hM.own.lt;omega
 replace ht:=hidden ht;go_enter func86,ntmps86;generalize Cr:w.alloc (.cells #[.int .i64 op,.string dst,.string nm,.slice (some aa) 2 c1,.slice p2 l2 c2,.slice p3 l3 c3] 133)=W at*;replace hM:=hM.kp (hb1.mono Df);obtain⟨FB,cap,bm,hT,-⟩:=hM.top hfr hl;have hw0:=AB h0 hb1;replace d0:=AA hw0 d0;replace d1:=AA hw0 d1;replace d2:=AA hw0 d2;replace g0:=AA hw0 g0;replace g1:=AA hw0 g1;replace g2:=AA hw0 g2;have TQ:N<=W.heap.size:=hM.own.sz;have iI:=hI.lt;have hva:=fun v (hT:DX v M FB rest.length cap bm x)=>Cm hT a hka;have hvb:=fun v (hT:DX v M FB rest.length cap bm x)=>Cm hT b hkb;generalize Yt:Ar x.vars a=ua at*;generalize hub:Ar x.vars b=ub at*;go_wp2_with fail;refine AV (S:=Dw W 12 14 13 15 [.string ⟨#[]⟩,.int .i64 0] [.string ua.1,.int .i64 ua.2] [.string ub.1,.int .i64 ub.2]) rfl (by kernel_rfl) (Dw.start Ac) ?_;iterate 5(first|(apply AU.z rfl;intro V L w1 _ _ _ z hK;((have hB:=hI.below iI z.s.b;have b3:=hB.c 3 _ rfl));go_simp;exact hK (z.s.keep rfl rfl rfl rfl);intros;rfl)|(apply AU.z rfl;intro V L w1 _ _ _ z hK;((have d0:=AA z.s.b d0;have d1:=AA z.s.b d1;have d2:=AA z.s.b d2));go_simp;exact hK (z.s.keep rfl rfl rfl rfl);intros;rfl))
 (apply AU.y rfl;intro V L w1 _ _ z hK;go_simp;go_wp2_with(((have hT:=hT.kp z.s.b);(refine(hva _ hT).mono ?_;rintro e w2 ⟨rfl,hb⟩)));(try simp only[pE]);exact hK.out _ (z.s.call hb rfl rfl rfl rfl);intros;rfl);iterate 5(first|(apply AU.z rfl;intro V L w1 _ _ _ z hK;((have hB:=hI.below iI z.s.b;have b3:=hB.c 3 _ rfl));go_simp;exact hK (z.s.keep rfl rfl rfl rfl);intros;rfl)|(apply AU.z rfl;intro V L w1 _ _ _ z hK;((have g0:=AA z.s.b g0;have g1:=AA z.s.b g1;have g2:=AA z.s.b g2));go_simp;exact hK (z.s.keep rfl rfl rfl rfl);intros;rfl))
 (apply AU.y rfl;intro V L w1 _ _ z hK;go_simp;go_wp2_with(((have hT:=hT.kp z.s.b);(refine(hvb _ hT).mono ?_;rintro e w2 ⟨rfl,hb⟩)));(try simp only[pE]);exact hK.out _ (z.s.call hb rfl rfl rfl rfl);intros;rfl);(apply AU.w rfl;intro V L w1 _ _ _ z hK;go_simp;exact hK rfl (z.s.AAM rfl rfl rfl z.i _);(try simp only[pE]));(apply AU.w rfl;intro V L w1 _ _ _ z hK;go_simp;exact hK rfl (z.s.AAL rfl rfl rfl z.i _);(try simp only[pE]));(apply AU.val undef (fun _=>rfl);intro V L w1 _ _ hS hi hR' hd hK;have hl:=hd.out (12) (by kernel_rfl);obtain⟨p,hp,hp0,hp1,hx⟩:=hS.x.at hl hi;have c0:=hx.c 0 _ rfl;have c1:=hx.c 1 _ rfl;have f0:=hx.f 0 (by decide);have f1:=hx.f 1 (by decide);go_simp;refine hK.out _ _ (by simp only[hp];rfl) (hS.Z6 hl hp hp0 (by simpa using hp1) ((hS.b.setCell hp0 _).setCell hp0 _) (hx.nY _ _) O8 rfl rfl rfl));(apply AU.val undef (fun _=>rfl);intro V L w1 _ _ hS hi hR' hd hK;have hl:=hd.out (13) (by kernel_rfl);obtain⟨p,hp,hp0,hp1,hx⟩:=hS.y.at hl hi;have c0:=hx.c 0 _ rfl;have c1:=hx.c 1 _ rfl;have f0:=hx.f 0 (by decide);have f1:=hx.f 1 (by decide);go_simp;refine hK.out _ _ (by simp only[hp];rfl) (hS.Z5 hl hp hp0 (by simpa using hp1) ((hS.b.setCell hp0 _).setCell hp0 _) (hx.nY _ _) O8 rfl rfl rfl));refine AU.nil fun V w1 hS5=>?_;obtain⟨px,hpx,-,-,PU⟩:=hS5.x.done rfl rfl;obtain⟨py,hpy,-,-,hxy⟩:=hS5.y.done rfl rfl;have hbW:=hS5.b;simp only[hpx,hpy];have pV:=hM.kp (hbW.mono TQ);have hI2:=hI.below iI hbW;have Db:Below B w w1:=((hb1.mono (by omega)).trans (hbW.mono (by omega)));obtain⟨i0,i1,i2,i3,i4,i5⟩:=hI2.c6;have x1:=PU.c 1 _ rfl;have y1:=hxy.c 1 _ rfl;by_cases VO:op<=14
 ·have hIs:=fun v=>aJ op v;have hib:(decide (15<=op)&&decide (op<=21))=false:=by simp;omega
  rw[hib]at hIs;have hDo:=fun v=>kM op ua.2 ub.2 v;replace ht:=ht.out;rw[if_pos VO]at ht;go_wp2_with fail;refine(hIs _).mono ?_;rintro e w2 ⟨rfl,rfl⟩;go_wp2_with fail;refine(hDo _).mono ?_;rintro e w2 ⟨rfl,rfl⟩
  cases hz:(Kv op ua.2 ub.2).2 with
  |true=>
   rw[hz,if_pos rfl]at ht;have hset:=Co pV hfr hl hx op dst nm (some aa) p2 p3 2 l2 l3 c1 c2 c3 (BA,(Kv op ua.2 ub.2).1);generalize(Kv op ua.2 ub.2).1=r at*;go_wp2_with fail;refine hset.mono ?_;rintro e w2 ⟨rfl,hm,hb⟩;rw[ht]at hm;go_wp2;go_end0
   exact⟨rfl,⟨_,hm⟩,Db.trans hb⟩
  |false=>
   rw[hz,if_neg (by decide)]at ht;have htr:=Mg pV 2;go_wp2_with fail;refine htr.mono ?_;rintro e w2 ⟨rfl,hm,hb⟩;rw[ht]at hm;go_wp2;go_end0;exact⟨rfl,⟨_,hm⟩,Db.trans hb⟩
 ·have hIs:=fun v=>aJ op v;have hib:(decide (15<=op)&&decide (op<=21))=true:=by simp;omega
  rw[hib]at hIs;have hDo:=fun v=>tZ op ua.2 ub.2 v;replace ht:=ht.out;rw[if_neg VO]at ht;have hwI:w.heap.size<w1.heap.size:=World.block_lt_of_cell? w1 ⟨w.heap.size,0,none⟩ i0;go_wp2_with fail;refine(hIs _).mono ?_;rintro e w2 ⟨rfl,rfl⟩;go_wp2_with fail;refine(hDo _).mono ?_;rintro e w3 ⟨rfl,hb3⟩;replace i0:=AA hb3 i0;replace i1:=AA hb3 i1;replace i2:=AA hb3 i2;replace i3:=AA hb3 i3;replace i4:=AA hb3 i4;replace i5:=AA hb3 i5;have TR:=pV.kp (hb3.mono pV.own.sz);have hb4:=Db.trans (hb3.mono (by have:=pV.own.sz;omega));generalize(OA op ua.2 ub.2).1=r at*;generalize(OA op ua.2 ub.2).2=r2 at*;by_cases h18:op<=18
  ·rw[if_pos h18]at ht;have hset:=Co TR hfr hl hx op dst nm (some aa) p2 p3 2 l2 l3 c1 c2 c3 (Ao,r);go_wp2_with fail;refine hset.mono ?_;rintro e w2 ⟨rfl,hm,hb⟩;rw[ht]at hm;go_wp2;go_end0;exact⟨rfl,⟨_,hm⟩,hb4.trans hb⟩
  ·rw[if_neg h18]at ht;have hset:=Co TR hfr hl hx op dst nm (some aa) p2 p3 2 l2 l3 c1 c2 c3 (BA,r);go_wp2_with fail;refine hset.mono ?_;rintro e w2 ⟨rfl,hm,hb⟩;rw[ht]at hm;go_wp2;go_end0;exact⟨rfl,⟨_,hm⟩,hb4.trans hb⟩
end
structure Qw(w:World)(v:Value)(x:Bk)(u1 u2 u3:Value):Prop where
 e:v=.agg #[.string x.n,u1,u2,.int .i64 x.e.k,.int .i64 x.e.a.k,.string x.e.a.s,.int .i64 x.e.a.n,u3,.int .i64 x.e.n]
 z:Sz x.n/\Sz x.e.a.s
 p:Row Px 2 w u1 x.ps
 c:Row WZ 6 w u2 x.cs
 t:Row DL 1 w u3 x.e.to
def JK(y:TH):Nat:=1+y.b.size+y.a.s.size
def Fb(y:Ph):Nat:=1+y.d.size+Aj JK y.is
def F6(y:ByteArray):Nat:=1+y.size
def G5(b:Bk):Nat:=1+b.n.size+b.e.a.s.size+Aj F6 b.e.to+Aj Fb b.ps+Aj IJ b.cs
theorem tH{k:Int}{A q:Nat}{l:List Is}(h:q<l.length)(he:GV k (A+Aj IJ (l.take q)+IJ l[q])):GV k (A+Aj IJ (l.take (q+1))):=
 he.cast (by rw[BD IJ h];omega)
theorem VI(h0:AA6 w0 w){x:Bk}{v u1 u2 u3:Value}(hv:Qw w0 v x u1 u2 u3):Calls prog 121 #[v,.int .i64 4000] w fun e w'=>AA6 w w'/\∃n:Int,e=.returned (.int .i64 n)/\Cn n 1125899906842624/\GV n (G5 x):=by
 obtain⟨rfl,⟨z1,z2⟩,hp,hc,ht⟩:=hv;have z1:=Qe z1;have z2:=Qe z2;obtain⟨p1,k1,rfl,-,hn1,hp⟩:=hp;obtain⟨p2,k2,rfl,-,hn2,hc⟩:=hc;obtain⟨p3,k3,rfl,-,QY,ht⟩:=ht;generalize hcb:G5 x=CB at*;unfold G5 at hcb;generalize x.e.a.s=es at*;generalize x.e.to=tl at*;have hb1:=AJ w (.cells #[.string x.n,.slice p1 x.ps.length k1,.slice p2 x.cs.length k2,.int .i64 x.e.k,.int .i64 x.e.a.k,.string es,.int .i64 x.e.a.n,.slice p3 tl.length k3,.int .i64 x.e.n] 82);have hB:=Ae.alloc w [.string x.n,.slice p1 x.ps.length k1,.slice p2 x.cs.length k2,.int .i64 x.e.k,.int .i64 x.e.a.k,.string es,.int .i64 x.e.a.n,.slice p3 tl.length k3,.int .i64 x.e.n] 82;have h1:=AB h0 hb1;generalize x.e.k=ek at*;generalize x.e.a.k=eak at*;generalize x.e.a.n=ean at*;generalize x.e.n=en at*;go_enter func121,ntmps121;by_cases c1:4000<x.ps.length
 ·have c1:(4000:Int)<x.ps.length:=by omega
  clear h1 hp hc ht;go_wp2;go_ret;exact⟨hb1,_,rfl,⟨by omega,by omega⟩,.big (by omega)⟩
 have c1I:¬(4000:Int)<x.ps.length:=by omega
 by_cases c2:4000<x.cs.length
 ·have c2:(4000:Int)<x.cs.length:=by omega
  clear h1 hp hc ht;go_wp2;go_ret;exact⟨hb1,_,rfl,⟨by omega,by omega⟩,.big (by omega)⟩
 have c2I:¬(4000:Int)<x.cs.length:=by omega
 by_cases c3:4000<tl.length
 ·have c3:(4000:Int)<tl.length:=by omega
  clear h1 hp hc ht;go_wp2;go_ret;exact⟨hb1,_,rfl,⟨by omega,by omega⟩,.big (by omega)⟩
 have c3I:¬(4000:Int)<tl.length:=by omega
 go_upto_if 38 with fail;refine(?_:∀W,W=w.alloc (.cells #[.string x.n,.slice p1 x.ps.length k1,.slice p2 x.cs.length k2,.int .i64 ek,.int .i64 eak,.string es,.int .i64 ean,.slice p3 tl.length k3,.int .i64 en] 82)->Code.wp _ _ _ _ W) _ rfl;intro W hW;rw[<-hW]at hb1 hB h1;clear hW;go_cut[5]from 36 to 45 (fun n wx=>WX n 1125899906842624 (1+x.n.size+es.size)/\wx=W)
 ·have b5:=hB.c 5 _ rfl;by_cases hk:1+(x.n.size:Int)<=4000
  ·go_wp2;go_meet;exact⟨⟨_,rfl,⟨by omega,by omega⟩,.is (by omega)⟩,rfl⟩
  ·go_wp2;go_meet;exact⟨⟨_,rfl,⟨by omega,by omega⟩,.big (by omega)⟩,rfl⟩
 obtain⟨⟨k,rfl,⟨hk0,hk1⟩,he⟩,rfl⟩:=hcut;go_upto_block 0 with fail;go_cut[5,6]from 46 to 68 (fun n _ wx=>WX n 1125899906842624 (1+x.n.size+es.size+Aj F6 tl)/\wx=wc)
 ·have b7:=hB.c 7 _ rfl;clear hp hc;go_wp2;go_loopw[5,6] (fun n i wr=>∃q:Nat,∃k:Int,q<=tl.length/\i=.int .i64 (q:Int)/\n=.int .i64 k/\Cn k 1125899906842624/\GV k (1+x.n.size+es.size+Aj F6 (tl.take q))/\wr=wc) (fun _ i _=>tl.length-(intOf i).toNat);exact⟨0,_,AY,rfl,rfl,⟨hk0,hk1⟩,he,rfl⟩;clear hk0 hk1 he;obtain⟨q,k,hq,rfl,rfl,⟨hk0,hk1⟩,he,rfl⟩:=hrel;by_cases hend:q=tl.length
  ·subst hend;rw[DY]at he;clear ht;go_wp2;go_meet;exact⟨⟨_,rfl,⟨hk0,hk1⟩,he⟩,rfl⟩
  ·have hlt:q<tl.length:=(by omega);have A8:(q:Int)<tl.length:=(by omega);by_cases hk2:k<=4000
   ·obtain⟨a,rfl,g1,g2⟩:=ht q tl[q] (by simp[hlt]);have g1:=AA h1 g1;have g2:=Qe g2;rw[Nat.mul_one]at g1;have hnx:=BD F6 hlt;change _=_+(1+tl[q].size)at hnx;generalize tl[q]=s at*;go_wp2;go_roundw;exact⟨q+1,k+1+s.size,by omega,by go_num,by go_num,⟨by omega,by omega⟩,((he.add (.of (n:=1)) hk0 (by omega)).add (.of (n:=s.size)) (by omega) (by omega)).cast (by omega),trivial⟩;simp[intOf];omega
   ·clear ht;go_wp2;go_meet;exact⟨⟨_,rfl,⟨hk0,hk1⟩,.big (by omega)⟩,rfl⟩
 obtain⟨⟨k,rfl,⟨hk0,hk1⟩,he⟩,rfl⟩:=hcut;have hp2:∀(q:Nat) (hq:q<x.ps.length),∃a,p1=some a/\∃(s:ByteArray) (pb:Option Addr) (nb kb:Nat) (z:Nat->Nat),(1+s.size+KE z nb=Fb (x.ps[q]'hq))/\wc.cell? (a.add (q*2))=some (.string s)/\At wc (a.add (q*2)) 1 (.slice pb nb kb)/\(s.size:Int)<=140737488351232/\nb<=140737488351232/\
   ∀j,j<nb->∃b,pb=some b/\∃s t:ByteArray,z j=1+s.size+t.size/\wc.cell? (b.add (j*4))=some (.string s)/\At wc (b.add (j*4)) (1+1) (.string t)/\(s.size:Int)<=140737488351232/\(t.size:Int)<=140737488351232:=fun q hq=>by
  obtain⟨a,e,h⟩:=hp q x.ps[q] (by simp[hq]);obtain⟨⟨g1,g2⟩,u,g5,pb,kb,rfl,-,g6,g7⟩:=h;refine⟨a,e,_,pb,_,kb,fun j=>Aj JK ((x.ps[q].is.drop j).take 1),(by rw[RV];rfl),AA h1 g1,AA h1 g5,Qe g2,g6.1,fun j hj=>?_⟩;obtain⟨b,e2,⟨i1,i2⟩,-,⟨i3,i4⟩,-⟩:=g7 j x.ps[q].is[j] (by simp[hj]);exact⟨b,e2,_,_,by show Aj JK _=_;rw[Mr hj];rfl,AA h1 i1,AA h1 i3,Qe i2,Qe i4⟩
 go_upto_block 2 with fail;go_cut[5,7,8]from 69 to 137 (fun n _ _ wx=>WX n 1125899906842624 (1+x.n.size+es.size+Aj F6 tl+Aj Fb x.ps)/\wx=wc)
 ·have b1:=hB.c 1 _ rfl;go_wp2;go_loopw[5,7,8] (fun n i _ wr=>∃q:Nat,∃k:Int,q<=x.ps.length/\i=.int .i64 (q:Int)/\n=.int .i64 k/\Cn k 1125899906842624/\GV k (1+x.n.size+es.size+Aj F6 tl+Aj Fb (x.ps.take q))/\wr=wc) (fun _ i _ _=>x.ps.length-(intOf i).toNat);exact⟨0,_,AY,rfl,rfl,⟨hk0,hk1⟩,he,rfl⟩;obtain⟨q,k,hq,rfl,rfl,⟨hk0,hk1⟩,he,rfl⟩:=hrel;by_cases hend:q=x.ps.length
  ·subst hend;rw[DY]at he;go_wp2;go_meet;exact⟨⟨_,rfl,⟨hk0,hk1⟩,he⟩,rfl⟩
  ·have hlt:q<x.ps.length:=(by omega);have A8:(q:Int)<x.ps.length:=(by omega);by_cases hk2:k<=4000
   ·obtain⟨a,rfl,s,pb,nb,kb,z,hz,d0,d3,hs,hnb,hj⟩:=hp2 q hlt;have hnx:=BD Fb hlt;rw[<-hz]at hnx;generalize hT:Aj Fb (x.ps.take q)=T0 at*;replace hnx:=hidden hnx;go_wp2;obtain⟨w7,rfl⟩:∃w7:World,w7=wr:=⟨_,rfl⟩;go_loopw[5,8] (fun n i wr=>∃j:Nat,∃k:Int,j<=nb/\i=.int .i64 (j:Int)/\n=.int .i64 k/\Cn k 1125899906842624/\GV k (1+x.n.size+es.size+Aj F6 tl+T0+1+s.size+KE z j)/\wr=w7) (fun _ i _=>nb-(intOf i).toNat);exact⟨0,k+1+s.size,AY,rfl,by go_num,⟨by omega,by omega⟩,(he.add (.of (n:=1)) hk0 (by omega)).add (.of (n:=s.size)) (by omega) (by omega),rfl⟩;clear hk0 hk1 hk2 he;obtain⟨j,k,hjl,rfl,rfl,⟨hk0,hk1⟩,he,rfl⟩:=hrel;by_cases hje:j=nb
    ·subst hje;clear hj;go_wp2;go_roundw;exact⟨q+1,k,by omega,by go_num,rfl,⟨hk0,hk1⟩,he.cast (by have:=hnx.out;omega),trivial⟩;simp[intOf];omega
    ·have hjlt:j<nb:=(by omega);have hjI:(j:Int)<nb:=(by omega);by_cases hk2:k<=4000
     ·obtain⟨b,rfl,s2,t2,hzj,e0,e2,hs2,ht2⟩:=hj j hjlt;clear hj;have hnn:KE z (j+1)=KE z j+(1+s2.size+t2.size):=(by rw[<-hzj];rfl);by_cases hk3:k+1+s2.size<=4000
      ·go_wp2;go_roundw;exact⟨j+1,k+1+s2.size+t2.size,by omega,by go_num,by go_num,⟨by omega,by omega⟩,(((he.add (.of (n:=1)) hk0 (by omega)).add (.of (n:=s2.size)) (by omega) (by omega)).add (.of (n:=t2.size)) (by omega) (by omega)).cast (by omega),trivial⟩;simp[intOf];omega
      ·go_wp2;go_roundw;exact⟨j+1,k+1+s2.size,by omega,by go_num,by go_num,⟨by omega,by omega⟩,.big (by omega),trivial⟩;simp[intOf];omega
     ·clear hj;go_wp2;go_roundw;exact⟨q+1,k,by omega,by go_num,rfl,⟨hk0,hk1⟩,.big (by omega),trivial⟩;simp[intOf];omega
   ·clear hp2;go_wp2;go_meet;exact⟨⟨_,rfl,⟨hk0,hk1⟩,.big (by omega)⟩,rfl⟩
 obtain⟨⟨k,rfl,⟨hk0,hk1⟩,he⟩,rfl⟩:=hcut;go_wp2;go_loopw[5,9] (fun n i wr=>∃q:Nat,∃k:Int,q<=x.cs.length/\i=.int .i64 (q:Int)/\n=.int .i64 k/\Cn k 1125899906842624/\GV k (1+x.n.size+es.size+Aj F6 tl+Aj Fb x.ps+Aj IJ (x.cs.take q))/\AA6 wc wr) (fun _ i _=>x.cs.length-(intOf i).toNat);exact⟨0,_,AY,rfl,rfl,⟨hk0,hk1⟩,he,AL⟩;obtain⟨q,k,hq,rfl,rfl,⟨hk0,hk1⟩,he,hbw⟩:=hrel;have hB1:=hB.nx hbw;have b2:=hB1.c 2 _ rfl;have hbf:=AB hb1 hbw;by_cases hend:q=x.cs.length
 ·subst hend;rw[DY,hcb]at he;go_wp2;go_ret;exact⟨hbf,_,rfl,⟨hk0,hk1⟩,he⟩
 ·have hlt:q<x.cs.length:=by omega
  have A8:(q:Int)<x.cs.length:=by omega
  by_cases hk2:k<=4000
  ·obtain⟨a,rfl,hI⟩:=hc q x.cs[q] (by simp[hlt]);obtain⟨g0,⟨g1,y1⟩,⟨g2,y2⟩,⟨v3,g3,r3⟩,⟨v4,g4,r4⟩,v5,g5,r5⟩:=hI;have hw:=AB h1 hbw;have hV:Pv w0 (.agg #[.int .i64 x.cs[q].op,.string x.cs[q].d,.string x.cs[q].n,v3,v4,v5]) x.cs[q] v3 v4 v5:=⟨rfl,⟨y1,y2⟩,r3,r4,r5⟩;have hA:=VH hw hV;have g0:=AA hw g0;have g1:=AA hw g1;have g2:=AA hw g2;have g3:=AA hw g3;have g4:=AA hw g4;have g5:=AA hw g5;obtain⟨uw,k3',rfl⟩:=r3.slice;obtain⟨p4',k4',rfl⟩:=r4.slice;obtain⟨p5',k5',rfl⟩:=r5.slice;have hS:=fun k:Int=>tH (k:=k) (A:=1+x.n.size+es.size+Aj F6 tl+Aj Fb x.ps) hlt;generalize x.cs[q]=y at*;go_wp2_with fail;refine hA.mono ?_;rintro e w2 ⟨hb2,n,rfl,⟨hn0,hn1⟩,he2⟩;have pJ:=hS _ (he.add he2 hk0 hn0);have hbw2:=AB hbw hb2;go_wp2;go_roundw;exact⟨q+1,k+n,by omega,by go_num,by go_num,⟨by omega,by omega⟩,pJ,hbw2⟩;simp[intOf];omega
  ·clear hc hB hB1;go_wp2;go_ret;exact⟨hbf,_,rfl,⟨hk0,hk1⟩,.big (by omega)⟩
end Go.Proofs.YtlffomedflegdaaGreatDoor
