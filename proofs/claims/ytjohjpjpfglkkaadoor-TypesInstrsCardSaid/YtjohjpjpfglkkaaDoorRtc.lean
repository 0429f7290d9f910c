/- What is asked of an instruction's types: field. -/
import Derived.Test.YtjohjpjpfglkkaaDoorRtb
namespace Go.Proofs.YtjohjpjpfglkkaaDoor
open Go.RowKit

def vN : Option Vr → ByteArray
  | some c => c.n
  | none => ⟨#[]⟩
def vT : Option Vr → ByteArray
  | some c => c.t
  | none => ⟨#[]⟩
theorem OutV.eq {w : World} {r : Option Vr} {e : Ending} (h : OutV w r e) : e = .returned (.tuple #[.agg #[.string (vN r), .string (vT r)], .bool r.isSome]) := by
  cases r with
  | none => exact h
  | some c => exact h.1
theorem OutV.eqv {w : World} {r : Option Vr} {e : Ending} (h : OutV w r e) : OutV w r (.returned (.tuple #[.agg #[.string (vN r), .string (vT r)], .bool r.isSome])) := h.eq ▸ h

/-- a region whose one store comes last, and whose one call hands something back -/
def SVal (st ca : Nat) (I J : World → Prop) (P : Prop) (L : Nat → Bool) (w : World) : Prop := SStore st I J L w ∧ (L ca = true → P)
theorem SVal.start {st ca : Nat} {I J : World → Prop} {P : Prop} {w : World} (h : I w) : SVal st ca I J P (fun _ => false) w := ⟨SStore.start h, fun e => Bool.noConfusion e⟩
theorem SVal.pass {st ca : Nat} {I J : World → Prop} {P : Prop} {L : Nat → Bool} {i : Nat} {w : World} (h : SVal st ca I J P L w) (hne : (st == i) = false) (hn2 : (ca == i) = false) : SVal st ca I J P (upd L i) w :=
  ⟨h.1.pass hne, fun e => h.2 (by rwa [upd_ne hn2] at e)⟩
theorem SVal.call {st ca : Nat} {I J : World → Prop} {P : Prop} {L : Nat → Bool} {w : World} (hl : L st = false) (h : I w) (hP : P) (hne : (st == ca) = false) : SVal st ca I J P (upd L ca) w := ⟨SStore.keep hl h hne, fun _ => hP⟩
theorem SVal.done {st ca : Nat} {I J : World → Prop} {P : Prop} {L : Nat → Bool} {w w' : World} (h : SVal st ca I J P L w) (hj : J w') (hn2 : (ca == st) = false) : SVal st ca I J P (upd L st) w' := ⟨SStore.done hj, fun e => h.2 (by rwa [upd_ne hn2] at e)⟩

set_option maxHeartbeats 8000000 in
theorem field_val {w0 wa w : World} (h0 : Below w0.heap.size w0 w) (ha : Below wa.heap.size wa w) {v : Value} {p : Pg} {x : Is} {d : ByteArray} {l : List ByteArray} {u1 u2 u3 u4 v1 v2 v3 t : Value} (hq : ValQ w0 wa v p x d l u1 u2 u3 u4 v1 v2 v3 t) {a : Ag} {s : ByteArray} (hxa : x.as[0]? = some a) (hls : l[0]? = some s) :
    Calls Tryd.prog 43 #[v] w fun e w' => Below w.heap.size w w' ∧ OutV w0 (fieldQ p x a s) e := by
  obtain ⟨rfl, hp, hx, -, hl⟩ := hq
  obtain ⟨-, -, hxs, -, -⟩ := hx
  obtain ⟨q1, m1, rfl, -, n1, hl⟩ := hl
  obtain ⟨c1, k1, rfl, -, n2, hxs⟩ := hxs
  obtain ⟨ca, rfl, ⟨c0, -⟩⟩ := hxs 0 a hxa
  obtain ⟨la, rfl, d0, -⟩ := hl 0 s hls
  have hx0 : 0 < x.as.length := (List.getElem?_eq_some_iff.1 hxa).1
  have hl0 : 0 < l.length := (List.getElem?_eq_some_iff.1 hls).1
  clear hxs hl hxa hls
  replace c0 : w0.cell? ca = some (.int .i64 a.k) := c0
  replace d0 : wa.cell? la = some (.string s) := d0
  have hb1 := (Below.refl w.heap.size w).alloc (Nat.le_refl _) (.cells #[.bool p.ssa, u1, u2, u3, u4, .int .i64 x.op, .string x.d, .string x.n, .slice (some ca) x.as.length k1, v2, v3, .string d, .slice (some la) l.length m1] 52)
  have hb2 := hb1.alloc hb1.size (.cells #[.string ⟨#[]⟩, .string ⟨#[]⟩] 60)
  have hB := (Box.alloc w [.bool p.ssa, u1, u2, u3, u4, .int .i64 x.op, .string x.d, .string x.n, .slice (some ca) x.as.length k1, v2, v3, .string d, .slice (some la) l.length m1] 52).al (.cells #[.string ⟨#[]⟩, .string ⟨#[]⟩] 60)
  have hV := Box.alloc (w.alloc (.cells #[.bool p.ssa, u1, u2, u3, u4, .int .i64 x.op, .string x.d, .string x.n, .slice (some ca) x.as.length k1, v2, v3, .string d, .slice (some la) l.length m1] 52)) [.string ⟨#[]⟩, .string ⟨#[]⟩] 60
  have hs : (w.alloc (.cells #[.bool p.ssa, u1, u2, u3, u4, .int .i64 x.op, .string x.d, .string x.n, .slice (some ca) x.as.length k1, v2, v3, .string d, .slice (some la) l.length m1] 52)).heap.size = w.heap.size + 1 := by simp
  rw [hs] at hV
  have c0 := keepc (bthen' h0 hb2) c0
  have d0 := keepc (bthen' ha hb2) d0
  have hw1 : w.heap.size ≤ w.heap.size + 1 := Nat.le_succ _
  clear hb1 hs ha
  obtain ⟨R, hR⟩ : ∃ R, R = fieldQ p x a s := ⟨_, rfl⟩
  rw [← hR]
  unfold fieldQ at hR
  have hx0I : (0 : Int) < (x.as.length : Int) := by omega
  have hl0I : (0 : Int) < (l.length : Int) := by omega
  generalize x.as.length = nx at *
  generalize l.length = nl at *
  by_cases e1 : a.k = 1
  · rw [if_pos e1] at hR
    rw [e1] at c0
    have hD2 := fun v h => @fld_val w0 v h p _ u1 u2 u3 u4 hp s x.n
    rw [← hR] at hD2
    clear e1 hR
    obtain ⟨W, hW⟩ : ∃ W : World, W = (w.alloc (.cells #[.bool p.ssa, u1, u2, u3, u4, .int .i64 x.op, .string x.d, .string x.n, .slice (some ca) nx k1, v2, v3, .string d, .slice (some la) nl m1] 52)).alloc (.cells #[.string ⟨#[]⟩, .string ⟨#[]⟩] 60) := ⟨_, rfl⟩
    go_enter Tryd.func43, Tryd.ntmps43
    go_wp2_with fail
    rw [← hW] at hb2 hB hV c0 d0
    rw [← hW]
    have hbD : Below w.heap.size w W.drew := hb2.drew
    clear hp hW
    have hFo : ∀ v, Below W.heap.size W v → Calls Tryd.prog 57 #[.agg #[.bool p.ssa, u1, u2, u3, u4], .string s, .string x.n] v fun e w' => Below v.heap.size v w' ∧ OutV w0 R e := fun v hv => hD2 v (bthen' h0 (bthen' hb2 hv))
    have hl1 := hB.lt
    have hl2 := hV.lt
    refine wp_region_ser (S := SVal 12 9 (fun v => Below W.heap.size W v) (fun v => Below w.heap.size w v ∧ Box v (w.heap.size + 1) [.string (vN R), .string (vT R)]) (OutV w0 R (.returned (.tuple #[.agg #[.string (vN R), .string (vT R)], .bool R.isSome])))) rfl (by kernel_rfl) (SVal.start (Below.refl _ _).drew) ?_
    iterate 9 (first | ((refine Ser.step (a1 := ?_) rfl (fun L w1 K' Q' hS hi hR hd hK => ?_) ?_ ?_; rotate_left); (· ((skip); go_simp; (try simp only [Act.put, List.setIfInBounds_toArray, List.set_cons_zero, List.set_cons_succ]); exact hK.out _ (hS.pass rfl rfl))); (· rfl)) | ((refine Ser.step (a1 := ?_) rfl (fun L w1 K' Q' hS hi hR hd hK => ?_) ?_ ?_; rotate_left); (· ((have hI := hS.1.1 (hR.out 12 _ (by kernel_rfl) hi); have d0 := keepc hI d0; have hB := hB.nx hI; have b0 := hB.c 0 _ rfl; have b1 := hB.c 1 _ rfl; have b2 := hB.c 2 _ rfl; have b3 := hB.c 3 _ rfl; have b4 := hB.c 4 _ rfl; have b7 := hB.c 7 _ rfl; have b12 := hB.c 12 _ rfl); go_simp; (try simp only [Act.put, List.setIfInBounds_toArray, List.set_cons_zero, List.set_cons_succ]); exact hK.out _ (hS.pass rfl rfl))); (· rfl)))
    ((refine Ser.step (a1 := ?_) rfl (fun L w1 K' Q' hS hi hR hd hK => ?_) ?_ ?_; rotate_left); (· (go_simp; go_wp2_with ((refine (hFo _ (hS.1.1 (hR.out 12 _ (by kernel_rfl) hi))).mono ?_; rintro e w2 ⟨hb, ho⟩; have ho2 := ho.eq; replace ho := ho.eqv; subst ho2)); (try simp only [Act.put, List.setIfInBounds_toArray, List.set_cons_zero, List.set_cons_succ]); exact hK.out _ (SVal.call (hR.out 12 _ (by kernel_rfl) hi) (bthen' (hS.1.1 (hR.out 12 _ (by kernel_rfl) hi)) hb) ho rfl))); (· rfl))
    iterate 2 (((refine Ser.step (a1 := ?_) rfl (fun L w1 K' Q' hS hi hR hd hK => ?_) ?_ ?_; rotate_left); (· ((skip); go_simp; (try simp only [Act.put, List.setIfInBounds_toArray, List.set_cons_zero, List.set_cons_succ]); exact hK.out _ (hS.pass rfl rfl))); (· rfl)))
    (refine Ser.step (a1 := ?_) rfl (fun L w1 K' Q' hS hi hR hd hK => ?_) ?_ ?_; rotate_left)
    · have hI := hS.1.1 hi
      have hV := hV.nx hI
      have r0 := hV.c 0 _ rfl
      have r1 := hV.c 1 _ rfl
      have f0 := hV.f 0 (by simp)
      have f1 := hV.f 1 (by simp)
      go_simp
      exact hK.out _ (hS.done ⟨((bthen' hb2 hI).setCell (p := ⟨w.heap.size + 1, 0, none⟩) hw1 _).setCell (p := ⟨w.heap.size + 1, 1, none⟩) hw1 _, (hV.set (i := 0) (by simp) (.string (vN R))).set (i := 1) (by simp) (.string (vT R))⟩ rfl)
    · rfl
    ((refine Ser.step (a1 := ?_) rfl (fun L w1 K' Q' hS hi hR hd hK => ?_) ?_ ?_; rotate_left); (· ((skip); go_simp; (try simp only [Act.put, List.setIfInBounds_toArray, List.set_cons_zero, List.set_cons_succ]); exact hK.out _ (hS.pass rfl rfl))); (· rfl))
    refine Ser.nil fun w4 hS4 => ?_
    obtain ⟨hb4, hV4⟩ := hS4.1.2 rfl
    have hP := hS4.2 rfl
    have r0 := hV4.c 0 _ rfl
    have r1 := hV4.c 1 _ rfl
    clear hS4 hFo hD2 hB hV hV4
    generalize vN R = y1 at *
    generalize vT R = y2 at *
    generalize R.isSome = y3 at *
    go_wp2
    ((try simp only [Exit.inBlock, Exit.then]); refine bodyPost_ret_by (v := (.tuple #[.agg #[.string y1, .string y2], .bool y3])) ((results_cell_tmp rfl _ _ _).trans (by go_simp; try rfl)) rfl ?_)
    exact ⟨hb4, hP⟩
  · rw [if_neg e1] at hR
    have g : ((a.k : Int) == 1) = false := by simpa using e1
    have hO : OutV w0 R (.returned (.tuple #[.agg #[.string ⟨#[]⟩, .string ⟨#[]⟩], .bool false])) := by rw [hR]; rfl
    clear hR hB hV
    go_enter Tryd.func43, Tryd.ntmps43
    go_wp2_with fail
    ((try simp only [Exit.inBlock, Exit.then]); refine bodyPost_ret_by (v := (.tuple #[.agg #[.string ⟨#[]⟩, .string ⟨#[]⟩], .bool false])) ((results_cell_tmp rfl _ _ _).trans (by go_simp; try rfl)) rfl ?_)
    exact ⟨hb2, hO⟩
end Go.Proofs.YtjohjpjpfglkkaaDoor
