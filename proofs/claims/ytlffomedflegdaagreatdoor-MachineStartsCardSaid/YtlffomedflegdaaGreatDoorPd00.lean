/- Part 0 of the proof: short words for some of the kit's. -/
import Derived.Below
import Derived.Lib.Hide
namespace Go.Proofs.YtlffomedflegdaaGreatDoor
open Go Go.RowKit
abbrev AA6(w w1:World):Prop:=Below w.heap.size w w1
theorem AJ(w:World)(o:Obj):Below w.heap.size w (w.alloc o):=(Below.refl _ _).alloc (Nat.le_refl _) o
theorem AL{b:Nat}{w:World}:Below b w w:=Below.refl _ _
theorem Ac{b:Nat}{w:World}:Below b w w.drew:=(Below.refl _ _).drew
theorem AQ{n:Nat}:n<=n:=Nat.le_refl n
theorem AY{n:Nat}:0<=n:=Nat.zero_le n
theorem Aa{n:Nat}:n<=n+1:=Nat.le_succ n
theorem AX{a b c:Nat}(h:a<=b)(g:b<=c):a<=c:=Nat.le_trans h g
theorem A9{a b c:Nat}(h:a<b)(g:b<=c):a<c:=Nat.lt_of_lt_of_le h g
theorem Wx{p:Prop}(h:p):Hid p:=Lib.hid h
theorem BK{p:Prop}[Decidable p](h:decide p=true):p:=of_decide_eq_true h
theorem CJ{p:Prop}[Decidable p](h:decide p=false):¬p:=of_decide_eq_false h
end Go.Proofs.YtlffomedflegdaaGreatDoor
