/- What is alike: pairings of two heaps, in plain terms; what one step of the search shows. -/
import Derived.Test.YtndakhnplnamdaaPair
namespace Go.Proofs.Ytndakhnplnamdaa
open Go.RowKit

abbrev Rel2 := Int → Int → Prop
structure Fun2 (R : Rel2) : Prop where
  l : ∀ x y y', R x y → R x y' → y = y'
  r : ∀ x x' y, R x y → R x' y → x = x'
/-- two values are alike, as far as pairs R go -/
structure OkV (n m : Nat) (R : Rel2) (v u : Vl) : Prop where
  t : v.1 = u.1
  p : isRef v.1 = false → v.2 = u.2
  ld : isRef v.1 = true → leadsB n v = leadsB m u
  z : isRef v.1 = true → (v.2 = 0 ↔ u.2 = 0)
  g : leadsB n v = true → R v.2 u.2
def OkVs (n m : Nat) (R : Rel2) (l : Nat) (vs us : Nat → Vl) : Prop := ∀ j, j < l → OkV n m R (vs j) (us j)
/-- two objects -/
structure OkO (n m : Nat) (R : Rel2) (o q : ObjD) : Prop where
  c : o.c = q.c
  l : o.l = q.l
  v : OkVs n m R o.l o.vs q.vs
def InR (n m : Nat) (x y : Int) : Prop := (1 ≤ x ∧ x ≤ n) ∧ 1 ≤ y ∧ y ≤ m
/-- the object with number x -/
def nth (ob : Nat → ObjD) (x : Int) : ObjD := ob (x - 1).toNat
structure Good (n m : Nat) (ob oq : Nat → ObjD) (l : Nat) (vs us : Nat → Vl) (R : Rel2) : Prop where
  f : Fun2 R
  i : ∀ x y, R x y → InR n m x y
  o : ∀ x y, R x y → OkO n m R (nth ob x) (nth oq y)
  v : OkVs n m R l vs us
def AlikeP (n m : Nat) (ob oq : Nat → ObjD) (l l' : Nat) (vs us : Nat → Vl) : Prop := l = l' ∧ ∃ R, Good n m ob oq l vs us R

def inL (T : List (Int × Int)) : Rel2 := fun x y => (x, y) ∈ T
structure Nice (n m : Nat) (T : List (Int × Int)) : Prop where
  a : (T.map (·.1)).Nodup
  b : (T.map (·.2)).Nodup
  i : ∀ x ∈ T, InR n m x.1 x.2
def Sub (T : List (Int × Int)) (R : Rel2) : Prop := ∀ x ∈ T, R x.1 x.2

theorem OkV.mono {n m : Nat} {R R' : Rel2} {v u : Vl} (h : OkV n m R v u) (hR : ∀ x y, R x y → R' x y) : OkV n m R' v u := { h with g := fun e => hR _ _ (h.g e) }
theorem OkVs.mono {n m : Nat} {R R' : Rel2} {l : Nat} {vs us : Nat → Vl} (h : OkVs n m R l vs us) (hR : ∀ x y, R x y → R' x y) : OkVs n m R' l vs us := fun j hj => (h j hj).mono hR
theorem OkO.mono {n m : Nat} {R R' : Rel2} {o q : ObjD} (h : OkO n m R o q) (hR : ∀ x y, R x y → R' x y) : OkO n m R' o q := { h with v := h.v.mono hR }
theorem inL_app {T U : List (Int × Int)} : ∀ x y, inL T x y → inL (T ++ U) x y := fun _ _ h => List.mem_append_left _ h

theorem swp_fst (T : List (Int × Int)) : (T.map swp).map (·.1) = T.map (·.2) := by simp [List.map_map, Function.comp_def, swp]
theorem nodup_fun {T : List (Int × Int)} (h : (T.map (·.1)).Nodup) {x y y' : Int} (h1 : (x, y) ∈ T) (h2 : (x, y') ∈ T) : y = y' := by
  obtain ⟨i, hi⟩ := List.mem_iff_getElem?.1 h1
  obtain ⟨j, hj⟩ := List.mem_iff_getElem?.1 h2
  have a := look_at h hi
  have b := look_at h hj
  rw [a] at b
  simpa using b
theorem Nice.fun2 {n m : Nat} {T : List (Int × Int)} (h : Nice n m T) : Fun2 (inL T) where
  l := fun _ _ _ h1 h2 => nodup_fun h.a h1 h2
  r := fun x x' y h1 h2 => by
    have hb := h.b
    rw [← swp_fst] at hb
    exact nodup_fun hb (List.mem_map.2 ⟨(x, y), h1, rfl⟩) (List.mem_map.2 ⟨(x', y), h2, rfl⟩)
/-- no more pairs than objects -/
theorem nodup_few : ∀ (n : Nat) (l : List Int), l.Nodup → (∀ x ∈ l, 1 ≤ x ∧ x ≤ (n : Int)) → l.length ≤ n
  | 0, l, _, h => by
    cases l with
    | nil => exact Nat.le_refl _
    | cons x r => have := h x (by simp); omega
  | n + 1, l, hd, h => by
    have h1 := nodup_few n (l.erase ((n + 1 : Nat) : Int)) (hd.erase _) (fun x hx => by
      have hm := List.mem_of_mem_erase hx
      have := h x hm
      refine ⟨this.1, ?_⟩
      have hne : x ≠ ((n + 1 : Nat) : Int) := fun e => by
        subst e
        exact (List.Nodup.mem_erase_iff hd).1 hx |>.1 rfl
      omega)
    rw [List.length_erase] at h1
    split at h1 <;> omega
theorem Nice.few {n m : Nat} {T : List (Int × Int)} (h : Nice n m T) : T.length ≤ n := by
  have := nodup_few n (T.map (·.1)) h.a (fun x hx => by
    obtain ⟨y, hy, rfl⟩ := List.mem_map.1 hx
    exact (h.i y hy).1)
  simpa using this
theorem Nice.nil {n m : Nat} : Nice n m [] := ⟨List.nodup_nil, List.nodup_nil, fun x hx => by cases hx⟩
theorem Nice.push {n m : Nat} {T : List (Int × Int)} {a b : Int} (h : Nice n m T) (hi : InR n m a b) (h1 : ∀ x ∈ T, x.1 ≠ a) (h2 : ∀ x ∈ T, x.2 ≠ b) : Nice n m (T ++ [(a, b)]) where
  a := by
    rw [List.map_append]
    refine List.nodup_append.2 ⟨h.a, by simp, fun x hx y hy => ?_⟩
    obtain ⟨z, hz, rfl⟩ := List.mem_map.1 hx
    have : y = a := by simpa using hy
    rw [this]
    exact h1 z hz
  b := by
    rw [List.map_append]
    refine List.nodup_append.2 ⟨h.b, by simp, fun x hx y hy => ?_⟩
    obtain ⟨z, hz, rfl⟩ := List.mem_map.1 hx
    have : y = b := by simpa using hy
    rw [this]
    exact h2 z hz
  i := fun x hx => by
    rcases List.mem_append.1 hx with hx | hx
    · exact h.i x hx
    · have : x = (a, b) := by simpa using hx
      rw [this]
      exact hi

theorem look_yes {T : List (Int × Int)} {a : Int} (h : (look T a).2 = true) : (a, (look T a).1) ∈ T := by
  unfold look at h ⊢
  split at h
  · rename_i x hx
    have := List.find?_some hx
    have e : x.1 = a := by simpa using this
    have hm := List.mem_of_find?_eq_some hx
    rw [← e]
    exact hm
  · cases h
theorem look_no {T : List (Int × Int)} {a : Int} (h : (look T a).2 = false) : ∀ x ∈ T, x.1 ≠ a := by
  unfold look at h
  split at h
  · cases h
  · rename_i hx
    intro x hm e
    have := List.find?_eq_none.1 hx x hm
    simp [e] at this
/-- one of the two is paired already: the pair is there, or there is no pairing -/
theorem pair_old {n m : Nat} {T : List (Int × Int)} (_ : Nice n m T) {a b : Int} {ok : Bool} (hk : (look T a).2 = true ∨ (look (T.map swp) b).2 = true)
    (hok : ok = ((look T a).2 && (look (T.map swp) b).2 && (look T a).1 == b && (look (T.map swp) b).1 == a)) :
    (ok = true → (a, b) ∈ T) ∧ (ok = false → ∀ R, Fun2 R → Sub T R → ¬ R a b) := by
  have hy1 : (look T a).2 = true → (a, (look T a).1) ∈ T := look_yes
  have hy2 : (look (T.map swp) b).2 = true → ((look (T.map swp) b).1, b) ∈ T := fun h => by
    obtain ⟨y, hy, e⟩ := List.mem_map.1 (look_yes h)
    simp only [swp, Prod.mk.injEq] at e
    have hh : y = ((look (T.map swp) b).1, b) := Prod.ext e.2 e.1
    rw [← hh]
    exact hy
  have hn1 : (look T a).2 = false → ∀ x ∈ T, x.1 ≠ a := look_no
  have hn2 : (look (T.map swp) b).2 = false → ∀ x ∈ T, x.2 ≠ b := fun h x hx => look_no h (swp x) (List.mem_map.2 ⟨x, hx, rfl⟩)
  generalize look T a = p at *
  generalize look (T.map swp) b = q at *
  obtain ⟨p1, p2⟩ := p
  obtain ⟨q1, q2⟩ := q
  dsimp only at *
  subst hok
  cases p2 <;> cases q2
  · simp at hk
  · refine ⟨by simp, fun _ R hF hS hR => ?_⟩
    have h1 := hS _ (hy2 rfl)
    have := hF.r _ _ _ h1 hR
    exact hn1 rfl _ (hy2 rfl) this
  · refine ⟨by simp, fun _ R hF hS hR => ?_⟩
    have h1 := hS _ (hy1 rfl)
    have := hF.l _ _ _ h1 hR
    exact hn2 rfl _ (hy1 rfl) this
  · refine ⟨fun h => ?_, fun h R hF hS hR => ?_⟩
    · simp only [Bool.true_and, Bool.and_eq_true, beq_iff_eq] at h
      rw [← h.1]
      exact hy1 rfl
    · have e1 := hF.l _ _ _ (hS _ (hy1 rfl)) hR
      have e2 := hF.r _ _ _ (hS _ (hy2 rfl)) hR
      dsimp only at e1 e2
      simp [e1, e2] at h

/-! the laws of what is alike -/
theorem leads_in {n : Nat} {v : Vl} (h : leadsB n v = true) : 1 ≤ v.2 ∧ v.2 ≤ (n : Int) := by
  unfold leadsB at h
  simp only [Bool.and_eq_true, decide_eq_true_eq] at h
  exact ⟨h.1.2, h.2⟩
theorem leads_ref {n : Nat} {v : Vl} (h : leadsB n v = true) : isRef v.1 = true := by
  unfold leadsB at h
  simp only [Bool.and_eq_true] at h
  exact h.1.1
theorem alike_self (n : Nat) (ob : Nat → ObjD) (l : Nat) (vs : Nat → Vl) : AlikeP n n ob ob l l vs vs := by
  have hv : ∀ l (vs : Nat → Vl), OkVs n n (fun x y => x = y ∧ 1 ≤ x ∧ x ≤ n) l vs vs := fun l vs j _ =>
    { t := rfl, p := fun _ => rfl, ld := fun _ => rfl, z := fun _ => Iff.rfl, g := fun h => ⟨rfl, leads_in h⟩ }
  refine ⟨rfl, fun x y => x = y ∧ 1 ≤ x ∧ x ≤ n, ⟨⟨?_, ?_⟩, ?_, ?_, hv l vs⟩⟩
  · rintro x y y' ⟨rfl, _⟩ ⟨rfl, _⟩; rfl
  · rintro x x' y ⟨rfl, _⟩ ⟨rfl, _⟩; rfl
  · rintro x y ⟨rfl, h⟩; exact ⟨h, h⟩
  · rintro x y ⟨rfl, h⟩; exact ⟨rfl, rfl, hv _ _⟩
theorem OkV.sym {n m : Nat} {R : Rel2} {v u : Vl} (h : OkV n m R v u) : OkV m n (fun x y => R y x) u v where
  t := h.t.symm
  p := fun e => (h.p (by rw [h.t]; exact e)).symm
  ld := fun e => (h.ld (by rw [h.t]; exact e)).symm
  z := fun e => (h.z (by rw [h.t]; exact e)).symm
  g := fun e => h.g (by rw [h.ld (by rw [h.t]; exact leads_ref e)]; exact e)
theorem alike_sym {n m : Nat} {ob oq : Nat → ObjD} {l l' : Nat} {vs us : Nat → Vl} (h : AlikeP n m ob oq l l' vs us) : AlikeP m n oq ob l' l us vs := by
  obtain ⟨rfl, R, hR⟩ := h
  refine ⟨rfl, fun x y => R y x, ⟨⟨?_, ?_⟩, ?_, ?_, ?_⟩⟩
  · intro x y y' h1 h2; exact hR.f.r _ _ _ h1 h2
  · intro x x' y h1 h2; exact hR.f.l _ _ _ h1 h2
  · intro x y h; have := hR.i _ _ h; exact ⟨this.2, this.1⟩
  · intro x y h
    have := hR.o _ _ h
    exact ⟨this.c.symm, this.l.symm, fun j hj => (this.v j (by rw [this.l]; exact hj)).sym⟩
  · exact fun j hj => (hR.v j hj).sym
theorem alike_comm (n m : Nat) (ob oq : Nat → ObjD) (l l' : Nat) (vs us : Nat → Vl) : AlikeP n m ob oq l l' vs us ↔ AlikeP m n oq ob l' l us vs := ⟨alike_sym, alike_sym⟩

/-- a value that leads to an object, f places further on -/
def shiftV (n : Nat) (f : Nat) (v : Vl) : Vl := if leadsB n v = true then (v.1, v.2 + f) else v
/-- each value that may lead somewhere leads, or is nought -/
def Clean (n : Nat) (l : Nat) (vs : Nat → Vl) : Prop := ∀ j, j < l → isRef (vs j).1 = true → leadsB n (vs j) = true ∨ (vs j).2 = 0
theorem okV_shift {n f : Nat} {v : Vl} (h : isRef v.1 = true → leadsB n v = true ∨ v.2 = 0) : OkV n (f + n) (fun x y => y = x + f ∧ 1 ≤ x ∧ x ≤ n) v (shiftV n f v) := by
  unfold shiftV
  by_cases hl : leadsB n v = true
  · rw [if_pos hl]
    have hr := leads_ref hl
    have hi := leads_in hl
    refine ⟨rfl, (fun e => by rw [hr] at e; cases e), fun _ => ?_, fun _ => ?_, fun _ => ⟨rfl, hi⟩⟩
    · rw [hl]
      unfold leadsB
      dsimp only
      rw [hr]
      simp only [Bool.true_and]
      symm
      simp only [Bool.and_eq_true, decide_eq_true_eq]
      omega
    · dsimp only; omega
  · rw [if_neg hl]
    refine ⟨rfl, fun _ => rfl, fun e => ?_, fun _ => Iff.rfl, fun e => absurd e hl⟩
    rcases h e with h | h
    · exact absurd h hl
    · unfold leadsB
      rw [h]
      simp
theorem alike_moved {n f : Nat} {ob oq : Nat → ObjD} {l : Nat} {vs us : Nat → Vl} (hc : Clean n l vs) (ho : ∀ i, i < n → Clean n (ob i).l (ob i).vs)
    (hus : ∀ j, j < l → us j = shiftV n f (vs j)) (hq : ∀ i, i < n → (oq (f + i)).c = (ob i).c ∧ (oq (f + i)).l = (ob i).l ∧ ∀ j, j < (ob i).l → (oq (f + i)).vs j = shiftV n f ((ob i).vs j)) :
    AlikeP n (f + n) ob oq l l vs us := by
  refine ⟨rfl, fun x y => y = x + f ∧ 1 ≤ x ∧ x ≤ n, ⟨⟨?_, ?_⟩, ?_, ?_, ?_⟩⟩
  · rintro x y y' ⟨rfl, _⟩ ⟨rfl, _⟩; rfl
  · rintro x x' y ⟨rfl, _⟩ ⟨h, _⟩; omega
  · rintro x y ⟨rfl, h⟩; unfold InR; omega
  · rintro x y ⟨rfl, h⟩
    have hi : (x - 1).toNat < n := by omega
    have e : (x + f - 1).toNat = f + (x - 1).toNat := by omega
    obtain ⟨h1, h2, h3⟩ := hq _ hi
    unfold nth
    rw [e]
    exact ⟨h1.symm, h2.symm, fun j hj => by rw [h3 j hj]; exact okV_shift (ho _ hi j hj)⟩
  · intro j hj
    rw [hus j hj]
    exact okV_shift (hc j hj)
end Go.Proofs.Ytndakhnplnamdaa
