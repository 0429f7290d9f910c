/- Part U01 of the proof: SerF~U, Mch~U, Ua~U. -/
import Derived.Test.YtlffomedflegdaaGreatDoorPe24
set_option linter.all false
set_option maxHeartbeats 16000000
set_option maxRecDepth 100000
namespace Go.Proofs.YtlffomedflegdaaGreatDoor
open Go.RowKit
open Go.Value renaming int→cI,string→cS,slice→cY,bool→cE
open Go.IntKind renaming i64→cJ
open Option renaming some→cP,none→cX
open Bool renaming false→cA,true→cC
section
section
variable {P : Program} {md : Region.Mode} {ops : Array Oper} {Q : Exit -> Act -> World -> Prop} {S : (Nat -> Value) -> (Nat -> Bool) -> World -> Prop}
def AU.skip{o:Oper}{rest:List Oper}{i:Nat}{a:(Nat->Value)->Act}(hw:∀V,Region.wanted o (yielded ops (a V).tmps)=cA)(h:∀(V:Nat->Value) (L:Nat->Bool) (w:World),S V L w->L i=cA->S V (upd L i) w)(hr:AU P md ops Q S rest (i+1) (λV=>(a V).put o.dst undef)):AU P md ops Q S (o::rest) i a:=
 ⟨λ_=>undef,λ_ _ _ _ _ _=>rfl,λV L w hS hi _ _=> .inr ⟨hw V,rfl,h V L w hS hi⟩,hr⟩
end
end
section
open Num Dp
def ABd(s:St):St:=if s.status=4 then match s.frames.getLast? with
  |none=>s
  |some x=>{s with status:=0,frames:=s.frames.dropLast++[{x with i:=x.i+1}]}
 else s
end
section
open Word Num Dp
def Nj.low{w w':World}(hb:AA6 w w'){v:Value}{l:List Int}(h:Row Nj 1 w v l):Row Nj 1 w' v l:=h.map λ_ _ h=>AA hb h
end
end Go.Proofs.YtlffomedflegdaaGreatDoor
