/- Part 3 of 49 of the proof: Pg. -/
import Derived.Test.YtlffomedflegdaaGreatDoorPz00
import Derived.Test.YtlffomedflegdaaGreatDoorPz01
import Derived.Test.YtlffomedflegdaaGreatDoorPz02
set_option linter.all false
set_option maxHeartbeats 16000000
set_option maxRecDepth 100000
namespace Go.Proofs.YtlffomedflegdaaGreatDoor
open Go.RowKit
structure Vr where (n t:ByteArray)
structure Cl where (n:ByteArray) (fs:List Vr)
structure Ex where (n:ByteArray) (k:Int)
structure Ag where (k:Int) (s:ByteArray) (n:Int)
structure Bd where (n:ByteArray) (a:Ag)
structure Fr where (f b:ByteArray) (i:Int) (vs:List Bd)
structure Vt where (c:ByteArray) (vs:List Ag)
structure Is where (op:Int) (d n:ByteArray) (as:List Ag) (fr:List Fr) (ob:List Vt)
structure TH where (b:ByteArray) (a:Ag)
structure Ph where (d:ByteArray) (is:List TH)
structure Tm where (k:Int) (a:Ag) (to:List ByteArray) (n:Int)
structure Bk where (n:ByteArray) (ps:List Ph) (cs:List Is) (e:Tm)
structure Fn where (n r:ByteArray) (ps vs:List Vr) (bs:List Bk)
structure Pg where (ssa:Bool) (cs:List Cl) (gs:List Vr) (xs:List Ex) (fs:List Fn)
abbrev At(w:World)(a:Addr)(k:Nat)(v:Value):Prop:=w.cell? ⟨a.block,a.off+k,none⟩=some v
abbrev Sz(s:ByteArray):Prop:=s.size<=140737488351232
def DL(w:World)(a:Addr)(x:ByteArray):Prop:=w.cell? a=some (.string x)/\Sz x
def IU(w:World)(a:Addr)(x:Vr):Prop:=(w.cell? a=some (.string x.n)/\Sz x.n)/\At w a 1 (.string x.t)/\Sz x.t
def Y0(w:World)(a:Addr)(x:Cl):Prop:=(w.cell? a=some (.string x.n)/\Sz x.n)/\∃u,At w a 1 u/\Row IU 2 w u x.fs
def gV(w:World)(a:Addr)(x:Ex):Prop:=(w.cell? a=some (.string x.n)/\Sz x.n)/\At w a 1 (.int .i64 x.k)
def Lg(w:World)(a:Addr)(x:Ag):Prop:=w.cell? a=some (.int .i64 x.k)/\(At w a 1 (.string x.s)/\Sz x.s)/\At w a 2 (.int .i64 x.n)
def Q5(w:World)(a:Addr)(k:Nat)(x:Ag):Prop:=At w a k (.int .i64 x.k)/\(At w a (k+1) (.string x.s)/\Sz x.s)/\At w a (k+2) (.int .i64 x.n)
def iQ(w:World)(a:Addr)(x:Bd):Prop:=(w.cell? a=some (.string x.n)/\Sz x.n)/\Q5 w a 1 x.a
def Py(w:World)(a:Addr)(x:Fr):Prop:=(w.cell? a=some (.string x.f)/\Sz x.f)/\(At w a 1 (.string x.b)/\Sz x.b)/\At w a 2 (.int .i64 x.i)/\∃u,At w a 3 u/\Row iQ 4 w u x.vs
def Pw(w:World)(a:Addr)(x:Vt):Prop:=(w.cell? a=some (.string x.c)/\Sz x.c)/\∃u,At w a 1 u/\Row Lg 3 w u x.vs
def WZ(w:World)(a:Addr)(x:Is):Prop:=w.cell? a=some (.int .i64 x.op)/\(At w a 1 (.string x.d)/\Sz x.d)/\(At w a 2 (.string x.n)/\Sz x.n)/\
 (∃u,At w a 3 u/\Row Lg 3 w u x.as)/\(∃u,At w a 4 u/\Row Py 4 w u x.fr)/\∃u,At w a 5 u/\Row Pw 2 w u x.ob
def AtIn(w:World)(a:Addr)(x:TH):Prop:=(w.cell? a=some (.string x.b)/\Sz x.b)/\Q5 w a 1 x.a
def Px(w:World)(a:Addr)(x:Ph):Prop:=(w.cell? a=some (.string x.d)/\Sz x.d)/\∃u,At w a 1 u/\Row AtIn 4 w u x.is
def XD(w:World)(a:Addr)(k:Nat)(x:Tm):Prop:=At w a k (.int .i64 x.k)/\Q5 w a (k+1) x.a/\(∃u,At w a (k+4) u/\Row DL 1 w u x.to)/\At w a (k+5) (.int .i64 x.n)
def Jf(w:World)(a:Addr)(x:Bk):Prop:=(w.cell? a=some (.string x.n)/\Sz x.n)/\(∃u,At w a 1 u/\Row Px 2 w u x.ps)/\(∃u,At w a 2 u/\Row WZ 6 w u x.cs)/\XD w a 3 x.e
def VP(w:World)(a:Addr)(x:Fn):Prop:=(w.cell? a=some (.string x.n)/\Sz x.n)/\(At w a 1 (.string x.r)/\Sz x.r)/\
 (∃u,At w a 2 u/\Row IU 2 w u x.ps)/\(∃u,At w a 3 u/\Row IU 2 w u x.vs)/\∃u,At w a 4 u/\Row Jf 9 w u x.bs
section
variable {w w' : World} (hb : Below w.heap.size w w')
include hb
theorem AA{a:Addr}{v:Value}(h:w.cell? a=some v):w'.cell? a=some v:=by rw[hb.cell (World.block_lt_of_cell? w _ h)];exact h
theorem DL.kp{a x}(h:DL w a x):DL w' a x:=⟨AA hb h.1,h.2⟩
theorem IU.kp{a x}(h:IU w a x):IU w' a x:=by grind [IU,AA]
theorem Y0.kp{a x}(h:Y0 w a x):Y0 w' a x:=by
 obtain⟨h1,u,h2,h3⟩:=h;exact⟨⟨AA hb h1.1,h1.2⟩,u,AA hb h2,h3.map fun _ _=>IU.kp hb⟩
theorem gV.kp{a x}(h:gV w a x):gV w' a x:=by grind [gV,AA]
theorem Lg.kp{a x}(h:Lg w a x):Lg w' a x:=by grind [Lg,AA]
theorem Q5.kp{a k x}(h:Q5 w a k x):Q5 w' a k x:=by grind [Q5,AA]
theorem iQ.kp{a x}(h:iQ w a x):iQ w' a x:=⟨⟨AA hb h.1.1,h.1.2⟩,h.2.kp hb⟩
theorem Py.kp{a x}(h:Py w a x):Py w' a x:=by
 obtain⟨h1,h2,h3,u,h4,h5⟩:=h;exact⟨⟨AA hb h1.1,h1.2⟩,⟨AA hb h2.1,h2.2⟩,AA hb h3,u,AA hb h4,h5.map fun _ _=>iQ.kp hb⟩
theorem Pw.kp{a x}(h:Pw w a x):Pw w' a x:=by
 obtain⟨h1,u,h4,h5⟩:=h;exact⟨⟨AA hb h1.1,h1.2⟩,u,AA hb h4,h5.map fun _ _=>Lg.kp hb⟩
theorem WZ.kp{a x}(h:WZ w a x):WZ w' a x:=by
 obtain⟨h1,h2,h3,⟨u,h4,h5⟩,⟨u2,h6,h7⟩,u3,h8,h9⟩:=h;exact⟨AA hb h1,⟨AA hb h2.1,h2.2⟩,⟨AA hb h3.1,h3.2⟩,⟨u,AA hb h4,h5.map fun _ _=>Lg.kp hb⟩,⟨u2,AA hb h6,h7.map fun _ _=>Py.kp hb⟩,u3,AA hb h8,h9.map fun _ _=>Pw.kp hb⟩
theorem AtIn.kp{a x}(h:AtIn w a x):AtIn w' a x:=⟨⟨AA hb h.1.1,h.1.2⟩,h.2.kp hb⟩
theorem Px.kp{a x}(h:Px w a x):Px w' a x:=by
 obtain⟨h1,u,h4,h5⟩:=h;exact⟨⟨AA hb h1.1,h1.2⟩,u,AA hb h4,h5.map fun _ _=>AtIn.kp hb⟩
theorem XD.kp{a k x}(h:XD w a k x):XD w' a k x:=by
 obtain⟨h1,h2,⟨u,h4,h5⟩,h6⟩:=h;exact⟨AA hb h1,h2.kp hb,⟨u,AA hb h4,h5.map fun _ _=>DL.kp hb⟩,AA hb h6⟩
theorem Jf.kp{a x}(h:Jf w a x):Jf w' a x:=by
 obtain⟨h1,⟨u,h2,h3⟩,⟨u2,h4,h5⟩,h6⟩:=h;exact⟨⟨AA hb h1.1,h1.2⟩,⟨u,AA hb h2,h3.map fun _ _=>Px.kp hb⟩,⟨u2,AA hb h4,h5.map fun _ _=>WZ.kp hb⟩,h6.kp hb⟩
theorem VP.kp{a x}(h:VP w a x):VP w' a x:=by
 obtain⟨h1,h0,⟨u,h2,h3⟩,⟨u2,h4,h5⟩,u3,h6,h7⟩:=h;exact⟨⟨AA hb h1.1,h1.2⟩,⟨AA hb h0.1,h0.2⟩,⟨u,AA hb h2,h3.map fun _ _=>IU.kp hb⟩,⟨u2,AA hb h4,h5.map fun _ _=>IU.kp hb⟩,u3,AA hb h6,h7.map fun _ _=>Jf.kp hb⟩
theorem Row.v{v l}(h:Row IU 2 w v l):Row IU 2 w' v l:=h.map fun _ _=>IU.kp hb
theorem Row.cl{v l}(h:Row Y0 2 w v l):Row Y0 2 w' v l:=h.map fun _ _=>Y0.kp hb
theorem Row.x{v l}(h:Row gV 2 w v l):Row gV 2 w' v l:=h.map fun _ _=>gV.kp hb
theorem Row.fn{v l}(h:Row VP 5 w v l):Row VP 5 w' v l:=h.map fun _ _=>VP.kp hb
theorem Row.s{v l}(h:Row DL 1 w v l):Row DL 1 w' v l:=h.map fun _ _=>DL.kp hb
end
structure jQ(w:World)(v:Value)(x:Cl)(u:Value):Prop where
 e:v=.agg #[.string x.n,u]
 z:Sz x.n
 f:Row IU 2 w u x.fs
structure EL(w:World)(v:Value)(x:Fn)(u1 u2 u3:Value):Prop where
 e:v=.agg #[.string x.n,.string x.r,u1,u2,u3]
 z:Sz x.n/\Sz x.r
 p:Row IU 2 w u1 x.ps
 v:Row IU 2 w u2 x.vs
 b:Row Jf 9 w u3 x.bs
structure Cj(w:World)(v:Value)(x:Pg)(u1 u2 u3 u4:Value):Prop where
 e:v=.agg #[.bool x.ssa,u1,u2,u3,u4]
 c:Row Y0 2 w u1 x.cs
 g:Row IU 2 w u2 x.gs
 xt:Row gV 2 w u3 x.xs
 f:Row VP 5 w u4 x.fs
theorem Cj.kp{w w':World}{v:Value}{x:Pg}{u1 u2 u3 u4:Value}(h:Cj w v x u1 u2 u3 u4)(hb:AA6 w w'):Cj w' v x u1 u2 u3 u4:=⟨h.e,h.c.cl hb,h.g.v hb,h.xt.x hb,h.f.fn hb⟩
end Go.Proofs.YtlffomedflegdaaGreatDoor
