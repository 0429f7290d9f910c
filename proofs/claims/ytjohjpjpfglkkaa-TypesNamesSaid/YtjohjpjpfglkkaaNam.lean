/- Where heads are right, a thing declared a second time makes them wrong: the plain law. -/
import Derived.Test.YtjohjpjpfglkkaaHds
namespace Go.Proofs.Ytjohjpjpfglkkaa
open Go.RowKit

theorem heads_are (p : Pg) : headsB p = true ↔ (p.cs.map Cl.n).Nodup ∧ (p.xs.map Ex.n).Nodup ∧ (p.fs.map Fn.n).Nodup ∧ declB p p.gs = true ∧ (∀ c ∈ p.cs, declB p c.fs = true) ∧ ∀ f ∈ p.fs, knownB p f.r = true ∧ declB p (f.ps ++ f.vs) = true := by
  unfold headsB
  simp only [Bool.and_eq_true, List.all_eq_true]
  rw [unl_iff, unl_iff, unl_iff]
  simp
theorem decl_are (p : Pg) (l : List Vr) : declB p l = true ↔ (∀ v ∈ l, knownB p v.t = true) ∧ (l.map Vr.n).Nodup := by
  unfold declB
  rw [Bool.and_eq_true, List.all_eq_true, unl_iff]
  simp
theorem twice {α : Type} {f : α → ByteArray} {l : List α} {x : α} (hx : x ∈ l) : ¬ ((l ++ [x]).map f).Nodup := by
  rw [List.map_append, List.nodup_append]
  intro h
  exact h.2.2 (f x) (List.mem_map.2 ⟨x, hx, rfl⟩) (f x) (by simp) rfl
theorem names_cs (p : Pg) {c : Cl} (hc : c ∈ p.cs) : headsB ⟨p.ssa, p.cs ++ [c], p.gs, p.xs, p.fs⟩ = false := by
  rw [Bool.eq_false_iff]
  intro h
  exact twice hc ((heads_are _).1 h).1
theorem names_fs (p : Pg) {f : Fn} (hf : f ∈ p.fs) : headsB ⟨p.ssa, p.cs, p.gs, p.xs, p.fs ++ [f]⟩ = false := by
  rw [Bool.eq_false_iff]
  intro h
  exact twice hf ((heads_are _).1 h).2.2.1
theorem names_ps (p : Pg) {j : Nat} (hj : j < p.fs.length) {f : Fn} {v : Vr} (hv : v ∈ f.vs) : headsB ⟨p.ssa, p.cs, p.gs, p.xs, p.fs.set j ⟨f.n, f.r, f.ps ++ [v], f.vs, f.bs⟩⟩ = false := by
  rw [Bool.eq_false_iff]
  intro h
  have h1 := (((heads_are _).1 h).2.2.2.2.2 ⟨f.n, f.r, f.ps ++ [v], f.vs, f.bs⟩ (List.mem_set hj _)).2
  have h2 := ((decl_are _ _).1 h1).2
  dsimp only at h2
  rw [List.map_append, List.nodup_append] at h2
  exact h2.2.2 v.n (List.mem_map.2 ⟨v, by simp, rfl⟩) v.n (List.mem_map.2 ⟨v, hv, rfl⟩) rfl
theorem names_gs (p : Pg) {x : Vr} (h1 : x.t ≠ intS) (h2 : x.t ≠ floatS) (h : (findB Cl.n x.t p.cs).isSome = false) : headsB ⟨p.ssa, p.cs, p.gs ++ [x], p.xs, p.fs⟩ = false := by
  rw [Bool.eq_false_iff]
  intro h3
  have h4 := ((decl_are _ _).1 ((heads_are _).1 h3).2.2.2.1).1 x (by simp)
  unfold knownB at h4
  dsimp only at h4
  rw [h, decide_eq_false h1, decide_eq_false h2] at h4
  cases h4
end Go.Proofs.Ytjohjpjpfglkkaa
