/- Part 7 of 49 of the proof: Unl, Dec, Wt, Ws. -/
import Derived.Carry
import Derived.Test.YtlffomedflegdaaGreatDoorPz00
import Derived.Test.YtlffomedflegdaaGreatDoorPz04
import Derived.Test.YtlffomedflegdaaGreatDoorPz06
set_option linter.all false
set_option maxHeartbeats 16000000
set_option maxRecDepth 100000
namespace Go.Proofs.YtlffomedflegdaaGreatDoor
open Go.Proofs.Tryz
open Go.RowKit
variable {d t:ByteArray}{f:Fn}{fm:Fm}{h h':List Ob}{i:Is}{m:Vm}{p:Pg}{v:Vu}{α:Type}
def mW(T:List ByteArray):List ByteArray->Bool
 | []=>true
 |s::r=>if isIn T s then false else mW (T++[s]) r
theorem Ip:∀(l T:List ByteArray),mW T l=true↔(∀s∈l,s∉T)/\l.Nodup
 | [],T=>by simp[mW]
 |s::r,T=>by
  unfold mW;have ih:=Ip r (T++[s]);by_cases h:s∈T
  ·rw[if_pos (sZ h)];simp[h]
  ·rw[if_neg (by rw[su h];simp),ih];simp only[List.mem_append,not_or,List.mem_cons,List.not_mem_nil,or_false,List.nodup_cons];constructor
   ·rintro⟨h1,h2⟩
    exact⟨fun x hx=>by
     rcases hx with rfl|hx;· exact h
     ·exact(h1 x hx).1,fun hs=>(h1 s hs).2 rfl,h2⟩
   ·rintro⟨h1,h2,h3⟩;exact⟨fun x hx=>⟨h1 x (.inr hx),fun e=>h2 (e▸hx)⟩,h3⟩
def Cg(p:Pg)(t:ByteArray):Bool:=decide (t=BA)||(decide (t=Ao)||(Ai Cl.n t p.cs).isSome)
def Dv(p:Pg)(l:List Vr):Bool:=l.all (fun v=>Cg p v.t)&&mW [] (l.map Vr.n)
def G9(p:Pg):Bool:=mW [] (p.cs.map Cl.n)&& (mW [] (p.xs.map Ex.n)&& (mW [] (p.fs.map Fn.n)&& (Dv p p.gs&& (p.cs.all (fun c=>Dv p c.fs)&&p.fs.all (fun f=>Cg p f.r&&Dv p (f.ps++f.vs))))))
section
open Num Dp
def okV(h:List Ob)(v:Vu)(t:ByteArray):Prop:=Dq t=true->v.2=0\/(v.1=E9/\1<=v.2/\∃ob,h[(v.2-1).toNat]? =some ob/\ob.c=t)
def Ext(h h':List Ob):Prop:=∀(k:Nat) ob,h[k]? =some ob->∃ob',h'[k]? =some ob'/\ob'.c=ob.c
theorem Ext.refl(h:List Ob):Ext h h:=fun _ ob e=>⟨ob,e,rfl⟩
theorem Ext.push(h:List Ob)(o:Ob):Ext h (h++[o]):=by grind [Ext,cases Ob]
theorem Ext.set{k:Nat}{o:Ob}(hk:h[k]? =some o)(vs:List Vu):Ext h (h.set k ⟨o.c,vs⟩):=by grind [Ext,cases Ob]
theorem okV.ext(hv:okV h v t)(he:Ext h h'):okV h' v t:=fun ht=>by
 rcases hv ht with h0|⟨h1,h2,ob,h3,h4⟩
 ·exact .inl h0
 ·obtain⟨o',h5,h6⟩:=he _ _ h3;exact .inr ⟨h1,h2,o',h5,h6.trans h4⟩
theorem okV.zero(e:v.2=0):okV h v t:=fun _=> .inl e
theorem okV.plain(e:Dq t=false):okV h v t:=fun ht=>by rw[e]at ht;cases ht
theorem JR:Dq BA=false:=by decide
theorem Jr:Dq Ao=false:=by decide
theorem kC:Dq Fx=true:=by decide
def RP(i:Is):Prop:=∀fm,BH i.op=some fm->fm.d=decide (i.d≠Bv)
structure oV(p:Pg)(f:Fn)(b:Bk):Prop where
 ps:b.ps=[]
 cs:∀i∈b.cs,Di p f i=true/\RP i
 e:Pq f b.e.k b.e.a b.e.n=true
 to1:b.e.k=1->b.e.to.length=1
 to2:b.e.k=2->b.e.to.length=2
 ways:∀y∈b.e.to,∃b',Ai Bk.n y f.bs=some b'
structure AA5(p:Pg)(f:Fn):Prop where
 bs:f.bs≠ []
 b:∀b∈f.bs,oV p f b
structure DJ(p:Pg):Prop where
 names:∀c∈p.cs,c.n≠BA/\c.n≠Ao/\c.n≠Fx
 heads:G9 p=true
 fs:∀f∈p.fs,AA5 p f
structure uY(p:Pg):Prop where
 g:∀v∈p.gs,Cg p v.t=true
 c:∀c∈p.cs,∀v∈c.fs,Cg p v.t=true
 r:∀f∈p.fs,Cg p f.r=true
 v:∀f∈p.fs,∀v∈f.ps++f.vs,Cg p v.t=true
 n:∀f∈p.fs,((f.ps++f.vs).map Vr.n).Nodup
theorem Yg(p:Pg)(l:List Vr):Dv p l=true↔(∀v∈l,Cg p v.t=true)/\(l.map Vr.n).Nodup:=by grind [Dv,Cg,Ip,cases Pg,cases Vr]
theorem DJ.hp(h:DJ p):uY p:=by
 have:=h.heads;unfold G9 at this;simp only[Bool.and_eq_true,List.all_eq_true,Yg]at this;obtain⟨_,_,_,h1,h2,h3⟩:=this;exact⟨h1.1,fun c hc=>(h2 c hc).1,fun f hf=>(h3 f hf).1,fun f hf=>(h3 f hf).2.1,fun f hf=>(h3 f hf).2.2⟩
theorem Ak{nm:α->ByteArray}{x:ByteArray}{c:α}:∀{l:List α},Ai nm x l=some c->c∈l/\nm c=x
 | [],h=>by cases h
 |y::r,h=>by
  unfold Ai at h;by_cases e:nm y=x
  ·rw[if_pos e]at h;injection h with h;subst h;exact⟨by simp,e⟩
  ·rw[if_neg e]at h;obtain⟨h1,h2⟩:=Ak h;exact⟨by simp[h1],h2⟩
theorem fD{nm:α->ByteArray}{y:α}{r:List α}:Ai nm (nm y) (y::r)=some y:=by grind [Ai]
theorem Sd(hg:DJ p)(hk:Cg p t=true)(hr:Dq t=true):(∃c,Ai Cl.n t p.cs=some c)/\t≠Fx:=by
 unfold Cg at hk;unfold Dq at hr;simp only[Bool.and_eq_true,decide_eq_true_eq]at hr;simp only[Bool.or_eq_true,decide_eq_true_eq,hr.1,hr.2,false_or]at hk;obtain⟨c,hc⟩:=Option.isSome_iff_exists.1 hk;obtain⟨h1,h2⟩:=Ak hc;exact⟨⟨c,hc⟩,h2▸(hg.names c h1).2.2⟩
theorem R7(hg:DJ p){c:Cl}(hc:Ai Cl.n t p.cs=some c):Dq t=true/\c.n=t:=by grind [Ai,Dq,Ak,cases Pg,cases DJ,cases Cl]
theorem KP{x:ByteArray}{v:Vr}(h:varOf f x=some v):v∈f.ps++f.vs/\v.n=x:=by
 unfold varOf at h;grind [Ak,cases Fn,cases Vr]
theorem V8{x y:ByteArray}(hy:y≠x):∀(m:Vm) (v:Vu),(Ei m x v).find? (fun z=>decide (z.1=y))=m.find? (fun z=>decide (z.1=y))
 | [],v=>by
  have:¬x=y:=fun e=>hy e.symm
  simp[Ei,this]
 |z::r,v=>by
  unfold Ei;by_cases e:z.1=x
  ·have:¬x=y:=fun h=>hy h.symm;rw[if_pos e,List.find?_cons,List.find?_cons];simp[this,e]
  ·rw[if_neg e,List.find?_cons,List.find?_cons,V8 hy r v]
theorem find_eq{x:ByteArray}:∀(m:Vm) (v:Vu),(Ei m x v).find? (fun z=>decide (z.1=x))=some (x,v)
 | [],v=>by simp[Ei]
 |z::r,v=>by
  unfold Ei;by_cases e:z.1=x
  ·rw[if_pos e,List.find?_cons];simp
  ·rw[if_neg e,List.find?_cons,find_eq r v];simp[e]
theorem J2(m:Vm)(x:ByteArray)(v:Vu)(y:ByteArray):getM (Ei m x v) y=if y=x then v else getM m y:=by
 unfold getM;by_cases e:y=x
 ·subst e;rw[find_eq,if_pos rfl]
 ·rw[V8 e,if_neg e]
def EO(f:Fn)(h:List Ob)(m:Vm):Prop:=∀x v,varOf f x=some v->okV h (getM m x) v.t
theorem EO.ext(a:EO f h m)(he:Ext h h'):EO f h' m:=fun x v hx=>(a x v hx).ext he
theorem EO.put(a:EO f h m){x:ByteArray}{u:Vu}(hu:∀v,varOf f x=some v->okV h u v.t):EO f h (Ei m x u):=by grind [EO,varOf,okV,Ei,J2,cases Fn,cases Ob]
theorem QB(hg:DJ p)(hf:f∈p.fs)(hm:EO f h m){a:Ag}{t':ByteArray}(ht:GJ f a=some t)(hfit:Du t t'=true):okV h (Ar m a) t':=by
 unfold GJ at ht;unfold Ar;by_cases h1:a.k=1
 ·rw[if_pos h1]at ht⊢
  cases hv:varOf f a.s with
  |none=>rw[hv]at ht;cases ht
  |some v=>
   rw[hv]at ht;obtain rfl:v.t=t:=(by simpa using ht);have hok:=hm _ _ hv;unfold Du at hfit;rw[Bool.or_eq_true,Bool.and_eq_true,decide_eq_true_eq,decide_eq_true_eq]at hfit;rcases hfit with e|⟨e,_⟩
   ·rw[<-e];exact hok
   ·exfalso;have hk:=hg.hp.v f hf v (KP hv).1;exact(Sd hg hk (by rw[e];exact kC)).2 e
 rw[if_neg h1]at ht⊢;by_cases h2:a.k=2
 ·rw[if_pos h2]at ht⊢;obtain rfl:BA=t:=by simpa using ht
  have:t'=BA:=by
   unfold Du at hfit;rw[Bool.or_eq_true,Bool.and_eq_true,decide_eq_true_eq,decide_eq_true_eq]at hfit;rcases hfit with e|⟨e,_⟩
   ·exact e.symm
   ·exact absurd e (by decide)
  subst this;exact .plain JR
 rw[if_neg h2]at ht⊢;by_cases h3:a.k=3
 ·rw[if_pos h3]at ht⊢;obtain rfl:Ao=t:=by simpa using ht
  have:t'=Ao:=by
   unfold Du at hfit;rw[Bool.or_eq_true,Bool.and_eq_true,decide_eq_true_eq,decide_eq_true_eq]at hfit;rcases hfit with e|⟨e,_⟩
   ·exact e.symm
   ·exact absurd e (by decide)
  subst this;exact .plain Jr
 rw[if_neg h3];exact .zero rfl
def iZ(p:Pg)(h:List Ob)(ob:Ob):Prop:=∃c,Ai Cl.n ob.c p.cs=some c/\ob.vs.length=c.fs.length/\∀(k:Nat) v x,ob.vs[k]? =some v->c.fs[k]? =some x->okV h v x.t
def KM(p:Pg)(h:List Ob):Prop:=∀ob∈h,iZ p h ob
def MV(p:Pg)(h:List Ob)(g:List Vu):Prop:=g.length=p.gs.length/\∀(k:Nat) v x,g[k]? =some v->p.gs[k]? =some x->okV h v x.t
theorem iZ.ext{ob:Ob}(a:iZ p h ob)(he:Ext h h'):iZ p h' ob:=by
 obtain⟨c,h1,h2,h3⟩:=a;exact⟨c,h1,h2,fun k v x hv hx=>(h3 k v x hv hx).ext he⟩
theorem MV.ext{g:List Vu}(a:MV p h g)(he:Ext h h'):MV p h' g:=⟨a.1,fun k v x hv hx=>(a.2 k v x hv hx).ext he⟩
def Ca(p:Pg)(h:List Ob)(x:Lv)(f:Fn)(b:Bk):Prop:=Ai Fn.n x.f p.fs=some f/\Ai Bk.n x.b f.bs=some b/\x.i<=b.cs.length/\EO f h x.vars
def mO(p:Pg)(x y:Lv):Prop:=∃f b i,Ai Fn.n x.f p.fs=some f/\Ai Bk.n x.b f.bs=some b/\b.cs[x.i]? =some i/\i.op=31/\i.n=y.f
def Dn(p:Pg)(h:List Ob):List Lv->Prop
 | []=>True
 | [x]=>∃f b,Ca p h x f b
 |y::x::r=>(∃f b,Ca p h y f b)/\mO p x y/\Dn p h (x::r)
theorem Dn.ext(he:Ext h h'):∀{l:List Lv},Dn p h l->Dn p h' l
 | [],_=>trivial
 | [_],⟨f,b,h1,h2,h3,h4⟩=>⟨f,b,h1,h2,h3,h4.ext he⟩
 |_::_::_,⟨⟨f,b,h1,h2,h3,h4⟩,hc,hr⟩=>⟨⟨f,b,h1,h2,h3,h4.ext he⟩,hc,Dn.ext he hr⟩
theorem Dn.top{y:Lv}:∀{l:List Lv},Dn p h (y::l)->∃f b,Ca p h y f b
 | [],hs=>hs
 |_::_,hs=>hs.1
theorem Dn.turn{y y':Lv}(hf:y'.f=y.f)(hy:∃f b,Ca p h y' f b):∀{l:List Lv},Dn p h (y::l)->Dn p h (y'::l)
 | [],_=>hy
 |x::r,hs=>by
  obtain⟨_,⟨f,b,i,h1,h2,h3,h4,h5⟩,hr⟩:=hs;exact⟨hy,⟨f,b,i,h1,h2,h3,h4,h5.trans hf.symm⟩,hr⟩
structure WT(p:Pg)(s:St):Prop where
 heap:KM p s.heap
 glob:MV p s.heap s.globals
 frames:Dn p s.heap s.frames.reverse
 live:s.status=0->s.frames≠ []
end
section
open Num Dp
theorem JA{x:ByteArray}:∀{l:List Vr} {v:Vr},Ai Vr.n x l=some v->∃k,FK x l=some k/\l[k]? =some v
 | [],v,h=>by cases h
 |y::r,v,h=>by
  unfold Ai at h;unfold FK;by_cases e:y.n=x
  ·rw[if_pos e]at h⊢;exact⟨0,rfl,by simpa using h⟩
  ·rw[if_neg e]at h⊢;obtain⟨k,h1,h2⟩:=JA h;exact⟨k+1,by rw[h1];rfl,by simpa using h2⟩
theorem Gx(h:Di p f i=true):∃fm d l,BH i.op=some fm/\(fm.l<=(i.as.length:Int)/\(i.as.length:Int)<=fm.m)/\Ib f i fm=some d/\DU f i.as=some l/\l.length=i.as.length/\Av p i d l=true:=by
 unfold Di at h
 cases ha:RL f i with
 |none=>rw[ha]at h;cases h
 |some q=>
  rw[ha]at h;obtain⟨d,l⟩:=q;unfold RL at ha
  cases h1:BH i.op with
  |none=>rw[h1]at ha;cases ha
  |some fm=>
   rw[h1]at ha;dsimp only at ha;by_cases h2:(i.as.length:Int)<fm.l\/fm.m<i.as.length
   ·rw[if_pos h2]at ha;cases ha
   ·rw[if_neg h2]at ha
    cases h3:Ib f i fm with
    |none=>rw[h3]at ha;cases ha
    |some d2=>
     rw[h3]at ha;dsimp only at ha
     cases h4:DU f i.as with
     |none=>rw[h4]at ha;cases ha
     |some l2=>
      rw[h4]at ha;injection ha with ha;injection ha with e1 e2;subst e1 e2;exact⟨fm,d2,l2,rfl,by omega,h3,rfl,KR f _ _ h4,h⟩
theorem Gh:∀{ar:List Ag} {l:List ByteArray},DU f ar=some l->∀(k:Nat) a,ar[k]? =some a->∃t,l[k]? =some t/\GJ f a=some t
 | [],l,h,k,a,ha=>by simp at ha
 |b::r,l,h,k,a,ha=>by
  simp only[DU]at h
  cases h1:GJ f b with
  |none=>rw[h1]at h;cases h
  |some t=>
   rw[h1]at h;dsimp only at h
   cases h2:DU f r with
   |none=>rw[h2]at h;cases h
   |some l2=>
    rw[h2]at h;injection h with h;subst h
    cases k with
    |zero=>
     obtain rfl:b=a:=by simpa using ha
     exact⟨t,rfl,h1⟩
    |succ k=>exact Gh h2 k a (by simpa using ha)
theorem WB(h:Ib f i fm=some d)(hd:fm.d=true):∃v,varOf f i.d=some v/\v.t=d:=by simp_all[Ib,varOf,none]
section
variable {p : Pg} {s : St} {f : Fn} {b : Bk} {x : Lv} {rest : List Lv} {i : Is}
theorem QC(hh:KM p s.heap)(hgl:MV p s.heap s.globals)(_:s.status=0){h0:List Ob}(he:Ext h0 s.heap)(hs:Dn p h0 (x::rest.reverse))(hx:Ca p h0 x f b)(hi:b.cs[x.i]? =some i)(hv:d≠Bv->∀y,varOf f d=some y->okV s.heap v y.t):WT p (BP s rest x d v) where
 heap:=hh
 glob:=hgl
 frames:=by
  unfold BP;simp only[List.reverse_append,List.reverse_cons,List.reverse_nil,List.nil_append,List.singleton_append];refine Dn.turn (y:=x) (y':=⟨x.f,x.b,x.i+1,if d=Bv then x.vars else Ei x.vars d v⟩) rfl ⟨f,b,hx.1,hx.2.1,?_,?_⟩ (hs.ext he)
  ·have:=(List.getElem?_eq_some_iff.1 hi).1;dsimp only;omega
  ·dsimp only;by_cases e:d=Bv
   ·rw[if_pos e];exact hx.2.2.2.ext he
   ·rw[if_neg e];exact(hx.2.2.2.ext he).put (hv e)
 live:=fun _=>by unfold BP;simp
theorem Jl(hd:RP i)(hf:BH i.op=some fm)(h:fm.d=false):i.d=Bv:=by
 have:=hd fm hf;grind
theorem jX(hd:RP i)(hf:BH i.op=some fm)(h:fm.d=true):i.d≠Bv:=by
 have:=hd fm hf;grind
theorem KG(hw:WT p s)(hfr:s.frames=rest++[x])(hst:s.status=0)(hx:Ca p s.heap x f b)(hi:b.cs[x.i]? =some i)(hd:Ib f i fm=some d)(FJ:fm.d=true)(hv:okV s.heap v d):WT p (BP s rest x i.d v):=by
 have hs:=hw.frames;rw[hfr]at hs;simp only[List.reverse_append,List.reverse_cons,List.reverse_nil,List.nil_append,List.singleton_append]at hs;refine QC hw.heap hw.glob hst (Ext.refl _) hs hx hi fun _ y hy=>?_;obtain⟨u,h1,h2⟩:=WB hd FJ;grind
theorem go_ok(hw:WT p s)(hfr:s.frames=rest++[x])(hst:s.status=0)(hx:Ca p s.heap x f b)(hi:b.cs[x.i]? =some i)(hd:i.d=Bv):∃t,TU s rest x i.d=some t/\WT p t:=by
 have hs:=hw.frames;rw[hfr]at hs;simp only[List.reverse_append,List.reverse_cons,List.reverse_nil,List.nil_append,List.singleton_append]at hs;unfold TU;rw[if_pos hd];exact⟨_,rfl,QC hw.heap hw.glob hst (Ext.refl _) hs hx hi fun e=>absurd hd e⟩
theorem Lh(hw:WT p s)(c:Int):WT p (Gd s c):=⟨hw.heap,hw.glob,hw.frames,fun e=>absurd e (show¬(2:Int)=0 by decide)⟩
end
theorem R8(hg:DJ p){g:Fn}(hf:f∈p.fs)(hm:EO f h m):∀(ps:List Vr) (ar:List Ag) (l:List ByteArray) (m0:Vm),DU f ar=some l->FZ l ps=true->(ps.map Vr.n).Nodup->
  (∀v∈ps,getM m0 v.n=(Bv,0))->∃m1,bindM ps (ar.map (Ar m)) m0=some m1/\(∀v∈ps,okV h (getM m1 v.n) v.t)/\∀y,(∀v∈ps,v.n≠y)->getM m1 y=getM m0 y
 |ps,[],l,m0,ht,hfit,_,_=>by
  obtain rfl:[]=l:=by simpa[DU]using ht
  cases ps with
  |nil=>exact⟨m0,by cases m0<;>rfl,fun v hv=>by simp at hv,fun _ _=>rfl⟩
  |cons v r=>simp[FZ]at hfit
 | [],a::r,l,m0,ht,hfit,_,_=>by
  have hl:=KR f _ _ ht
  cases l with
  |nil=>simp at hl
  |cons t l=>simp[FZ]at hfit
 |v::ps,a::r,l,m0,ht,hfit,hn,h0=>by
  simp only[DU]at ht
  cases h1:GJ f a with
  |none=>rw[h1]at ht;cases ht
  |some t=>
   rw[h1]at ht;dsimp only at ht
   cases h2:DU f r with
   |none=>rw[h2]at ht;cases ht
   |some l2=>
    rw[h2]at ht;injection ht with ht;subst ht;unfold FZ at hfit;rw[Bool.and_eq_true]at hfit;rw[List.map_cons,List.nodup_cons]at hn;have hne:∀u∈ps,u.n≠v.n:=fun u hu e=>hn.1 (e▸List.mem_map.2 ⟨u,hu,rfl⟩)
    obtain⟨m1,e1,e2,e3⟩:=R8 hg (g:=g) hf hm ps r l2 (Ei m0 v.n (Ar m a)) h2 hfit.2 hn.2 (fun u hu=>by
     rw[J2,if_neg (hne u hu)]
     exact h0 u (by simp[hu]))
    refine⟨m1,by rw[List.map_cons];unfold bindM;exact e1,fun u hu=>?_,fun y hy=>?_⟩
    ·rcases List.mem_cons.1 hu with rfl|hu
     ·rw[e3 _ hne,J2,if_pos rfl];exact QB hg hf hm h1 hfit.1
     ·exact e2 u hu
    ·rw[e3 y (fun u hu=>hy u (by simp[hu])),J2,if_neg (fun e=>hy v (by simp) e.symm)]
theorem Yl(hg:DJ p){g:Fn}(hf:f∈p.fs)(hgm:g∈p.fs)(hm:EO f h m){ar:List Ag}{l:List ByteArray}(ht:DU f ar=some l)(hfit:FZ l g.ps=true):∃m1,bindM g.ps (ar.map (Ar m)) []=some m1/\EO g h m1:=by
 have hn:=hg.hp.n g hgm;rw[List.map_append,List.nodup_append]at hn;obtain⟨m1,e1,e2,e3⟩:=R8 hg (g:=g) hf hm g.ps ar l [] ht hfit hn.1 (fun _ _=>rfl);refine⟨m1,e1,fun x v hx=>?_⟩;obtain⟨h1,rfl⟩:=KP hx;rcases List.mem_append.1 h1 with h1|h1
 ·exact e2 v h1
 ·rw[e3 v.n (fun u hu e=>hn.2.2 u.n (List.mem_map.2 ⟨u,hu,rfl⟩) v.n (List.mem_map.2 ⟨v,h1,rfl⟩) e)];exact .zero rfl
theorem Sk:∀{l:List ByteArray} {vs:List Vr},FZ l vs=true->l.length=vs.length:=by grind [J3,cases Vr]
theorem V7:∀{l:List ByteArray} {vs:List Vr},FZ l vs=true->∀(k:Nat) t v,l[k]? =some t->vs[k]? =some v->Du t v.t=true
 | [],_,_,k,t,v,h,_=>by simp at h
 |_::_,[],_,k,t,v,_,h=>by simp at h
 |a::r,w::s,hf,k,t,v,h1,h2=>by
  unfold FZ at hf;rw[Bool.and_eq_true]at hf
  cases k with
  |zero=>
   obtain rfl:a=t:=(by simpa using h1);obtain rfl:w=v:=by simpa using h2
   exact hf.1
  |succ k=>exact V7 hf.2 k t v (by simpa using h1) (by simpa using h2)
theorem Ke(h:List Ob)(t t':ByteArray):okV h (Ap t) t':=.zero (by unfold Ap;split<;>rfl)
theorem I6{op:Int}(h:BH op=some fm):(1<=op/\op<=21)\/op=22\/op=23\/op=24\/op=25\/op=26\/op=27\/op=28\/op=29\/op=30\/op=31\/op=32\/op=33\/op=34:=by grind [BH,cases Fm]
theorem PD{op:Int}(h:BH op=some fm):fm.m<=8:=by
 rcases I6 h with h1|h1|h1|h1|h1|h1|h1|h1|h1|h1|h1|h1|h1|h1
 ·unfold BH at h;rw[if_pos h1]at h;injection h with h;subst h;decide
 all_goals (subst h1;simp[BH]at h;subst h;decide)
theorem Fg{l:List α}(h:l.length=1):∃a,l=[a]:=List.length_eq_one_iff.1 h
theorem MP{l:List α}(h:l.length=2):∃a b,l=[a,b]:=by
 match l,h with
 | [a,b],_=>exact⟨a,b,rfl⟩
theorem all_eq{l:List ByteArray}{a e:ByteArray}(h:FP l a d e=true):d=e:=by grind [FP]
theorem R4(hg:DJ p){s:St}(hh:KM p s.heap)(hm:EO f s.heap m){a:Ag}{r:Vr}(ht:GJ f a=some t)(hq:GN p i a t=some r)(h0:(Ar m a).2≠0):∃k c vs q v,fieldAt p s (Ar m a) i.n=some (k,c,vs,q,v)/\s.heap[k]? =some ⟨c,vs⟩/\vs[q]? =some v/\okV s.heap v r.t/\∃cl,Ai Cl.n c p.cs=some cl/\cl.fs[q]? =some r/\vs.length=cl.fs.length:=by
 unfold GN at hq;by_cases hk:a.k=1
 ·rw[if_pos hk]at hq;unfold EH at hq
  cases hc:Ai Cl.n t p.cs with
  |none=>rw[hc]at hq;cases hq
  |some cl=>
   rw[hc]at hq;dsimp only at hq;have hval:Ar m a=getM m a.s:=(by unfold Ar;rw[if_pos hk]);have hok:okV s.heap (Ar m a) t:=by
    unfold GJ at ht;rw[if_pos hk]at ht
    cases hv:varOf f a.s with
    |none=>rw[hv]at ht;cases ht
    |some v=>
     rw[hv]at ht;obtain rfl:v.t=t:=(by simpa using ht);rw[hval];exact hm _ _ hv
   rcases hok (R7 hg hc).1 with e|⟨h1,h2,ob,h3,h4⟩
   ·exact absurd e h0
   ·obtain⟨q,hq1,hq2⟩:=JA hq;obtain⟨c2,g1,g2,g3⟩:=hh ob (List.mem_of_getElem? h3);rw[h4,hc]at g1;obtain rfl:cl=c2:=(by simpa using g1);have hql:=(List.getElem?_eq_some_iff.1 hq2).1;have hv:ob.vs[q]? =some (ob.vs[q]'(by omega)):=(by simp);refine⟨((Ar m a).2-1).toNat,ob.c,ob.vs,q,_,?_,h3,hv,g3 q _ r hv hq2,cl,by rw[h4];exact hc,hq2,g2⟩;unfold fieldAt;rw[if_pos ⟨h1,h2⟩,h3];dsimp only;rw[h4,hc];dsimp only;rw[hq1];dsimp only;rw[hv]
 ·rw[if_neg hk]at hq;cases hq
end
end Go.Proofs.YtlffomedflegdaaGreatDoor
