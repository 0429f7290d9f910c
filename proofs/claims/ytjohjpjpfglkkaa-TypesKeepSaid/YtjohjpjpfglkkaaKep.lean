/- An instruction that has its types has them with more declared behind the others: the plain law. -/
import Derived.Test.YtjohjpjpfglkkaaRth
namespace Go.Proofs.Ytjohjpjpfglkkaa
open Go.RowKit

def moreP (p m : Pg) : Pg := ⟨p.ssa, p.cs ++ m.cs, p.gs ++ m.gs, p.xs ++ m.xs, p.fs ++ m.fs⟩
def moreF (f : Fn) (v : Vr) : Fn := ⟨f.n, f.r, f.ps, f.vs ++ [v], f.bs⟩
theorem findB_app {α : Type} {nm : α → ByteArray} {x : ByteArray} {c : α} (m : List α) : ∀ {l : List α}, findB nm x l = some c → findB nm x (l ++ m) = some c
  | [], h => by cases h
  | y :: r, h => by
    unfold findB at h
    rw [List.cons_append]
    unfold findB
    split at h
    · rename_i h1; rw [if_pos h1]; exact h
    · rename_i h1; rw [if_neg h1]; exact findB_app m h
theorem varOf_more {f : Fn} {x : ByteArray} {v c : Vr} (h : varOf f x = some c) : varOf (moreF f v) x = some c := by
  unfold varOf at *
  show (match findB Vr.n x f.ps with | some v => some v | none => findB Vr.n x (f.vs ++ [v])) = some c
  cases hp : findB Vr.n x f.ps with
  | some d => rw [hp] at h; exact h
  | none =>
    rw [hp] at h
    exact findB_app _ h
theorem tyOf_more {f : Fn} {a : Ag} {v : Vr} {t : ByteArray} (h : tyOf f a = some t) : tyOf (moreF f v) a = some t := by
  unfold tyOf at *
  by_cases h1 : a.k = 1
  · rw [if_pos h1] at h ⊢
    cases hv : varOf f a.s with
    | none => rw [hv] at h; cases h
    | some c => rw [hv] at h; rw [varOf_more hv]; exact h
  · rw [if_neg h1] at h ⊢
    exact h
theorem tysOf_more {f : Fn} {v : Vr} : ∀ {ar : List Ag} {l : List ByteArray}, tysOf f ar = some l → tysOf (moreF f v) ar = some l
  | [], l, h => h
  | a :: r, l, h => by
    unfold tysOf at h ⊢
    cases h1 : tyOf f a with
    | none => rw [h1] at h; cases h
    | some t =>
      rw [h1] at h
      rw [tyOf_more h1]
      cases h2 : tysOf f r with
      | none => simp only [h2] at h; cases h
      | some l' => simp only [h2] at h; simp only [tysOf_more h2]; exact h
theorem askOf_more {f : Fn} {v : Vr} {x : Is} {r : ByteArray × List ByteArray} (h : askOf f x = some r) : askOf (moreF f v) x = some r := by
  unfold askOf at *
  cases h1 : formOf x.op with
  | none => rw [h1] at h; cases h
  | some fm =>
    simp only [h1] at h ⊢
    split at h
    · cases h
    rename_i h2
    rw [if_neg h2]
    cases h3 : dstOf f x fm with
    | none => rw [h3] at h; cases h
    | some d =>
      have h4 : dstOf (moreF f v) x fm = some d := by
        unfold dstOf at *
        split at h3
        · rename_i e
          rw [if_pos e]
          cases h5 : varOf f x.d with
          | none => rw [h5] at h3; cases h3
          | some c => rw [h5] at h3; rw [varOf_more h5]; exact h3
        · rename_i e
          rw [if_neg e]
          exact h3
      simp only [h3] at h
      simp only [h4]
      cases h5 : tysOf f x.as with
      | none => rw [h5] at h; cases h
      | some l => rw [h5] at h; rw [tysOf_more h5]; exact h
theorem rightB_more {p m : Pg} {x : Is} {d : ByteArray} {l : List ByteArray} {a : Ag} {s s2 : ByteArray} (h : rightB p x d l a s s2 = true) : rightB (moreP p m) x d l a s s2 = true := by
  have hF : ∀ {r}, fieldQ p x a s = some r → fieldQ (moreP p m) x a s = some r := fun {r} h => by
    unfold fieldQ at *
    split at h
    · rename_i e
      rw [if_pos e]
      unfold fieldOf at *
      cases hc : findB Cl.n s p.cs with
      | none => rw [hc] at h; cases h
      | some c =>
        rw [hc] at h
        rw [show (moreP p m).cs = p.cs ++ m.cs from rfl, findB_app _ hc]
        exact h
    · cases h
  unfold rightB at *
  by_cases e : x.op ≤ 14
  · rw [if_pos e] at h ⊢; exact h
  rw [if_neg e] at h ⊢
  by_cases e : x.op ≤ 18
  · rw [if_pos e] at h ⊢; exact h
  rw [if_neg e] at h ⊢
  by_cases e : x.op ≤ 21
  · rw [if_pos e] at h ⊢; exact h
  rw [if_neg e] at h ⊢
  by_cases e : x.op = 22
  · rw [if_pos e] at h ⊢; exact h
  rw [if_neg e] at h ⊢
  by_cases e : x.op = 23
  · rw [if_pos e] at h ⊢; exact h
  rw [if_neg e] at h ⊢
  by_cases e : x.op = 24
  · rw [if_pos e] at h ⊢; exact h
  rw [if_neg e] at h ⊢
  by_cases e : x.op = 25
  · rw [if_pos e] at h ⊢
    unfold madeB at *
    cases hc : findB Cl.n x.n p.cs with
    | none => rw [hc] at h; cases h
    | some c =>
      rw [hc] at h
      rw [show (moreP p m).cs = p.cs ++ m.cs from rfl, findB_app _ hc]
      exact h
  rw [if_neg e] at h ⊢
  by_cases e : x.op = 26
  · rw [if_pos e] at h ⊢
    unfold typB at *
    cases hc : fieldQ p x a s with
    | none => rw [hc] at h; cases h
    | some c => rw [hc] at h; rw [hF hc]; exact h
  rw [if_neg e] at h ⊢
  by_cases e : x.op = 27
  · rw [if_pos e] at h ⊢
    unfold putB at *
    cases hc : fieldQ p x a s with
    | none => rw [hc] at h; cases h
    | some c => rw [hc] at h; rw [hF hc]; exact h
  rw [if_neg e] at h ⊢
  by_cases e : x.op = 28
  · rw [if_pos e] at h ⊢; exact h
  rw [if_neg e] at h ⊢
  by_cases e : x.op = 29 ∨ x.op = 30
  · rw [if_pos e] at h ⊢
    unfold globB at *
    cases hc : findB Vr.n x.n p.gs with
    | none => rw [hc] at h; cases h
    | some c =>
      rw [hc] at h
      rw [show (moreP p m).gs = p.gs ++ m.gs from rfl, findB_app _ hc]
      exact h
  rw [if_neg e] at h ⊢
  by_cases e : x.op = 31
  · rw [if_pos e] at h ⊢
    unfold callB at *
    cases hc : findB Fn.n x.n p.fs with
    | none => rw [hc] at h; cases h
    | some c =>
      rw [hc] at h
      rw [show (moreP p m).fs = p.fs ++ m.fs from rfl, findB_app _ hc]
      exact h
  rw [if_neg e] at h ⊢
  by_cases e : x.op = 32
  · rw [if_pos e] at h ⊢
    unfold extB at *
    cases hc : findB Ex.n x.n p.xs with
    | none => rw [hc] at h; cases h
    | some c =>
      rw [hc] at h
      rw [show (moreP p m).xs = p.xs ++ m.xs from rfl, findB_app _ hc]
      exact h
  rw [if_neg e] at h ⊢
  exact h
theorem instrB_more {p m : Pg} {f : Fn} {v : Vr} {x : Is} (h : instrB p f x = true) : instrB (moreP p m) (moreF f v) x = true := by
  unfold instrB at *
  cases h1 : askOf f x with
  | none => rw [h1] at h; cases h
  | some r =>
    rw [h1] at h
    rw [askOf_more h1]
    exact rightB_more h
end Go.Proofs.Ytjohjpjpfglkkaa
