/- HeapStores: the plain law, and the walk. -/
import Derived.Test.YtndakhnplnamdaaHeapM
namespace Go.Proofs.Ytndakhnplnamdaa
open Go.RowKit

theorem loadV_same {n : Nat} {ob oq : Nat → ObjD} (h : SameAs n oq ob) (v : Vl) (at' : Int) : loadV n oq v at' = loadV n ob v at' := by
  unfold loadV
  by_cases hl : leadsB n v = true
  · have hi := leads_in hl
    obtain ⟨h1, h2, h3⟩ := h (v.2 - 1).toNat (by omega)
    rw [h2, h3]
  · rw [if_neg (fun h => hl h.1), if_neg (fun h => hl h.1)]
theorem isRef_list {s : ByteArray} (h : isRef s = true) : s.toList = [114, 101, 102] := by simpa [isRef] using h
/-- what is written is read again -/
theorem put_get {n : Nat} {ob : Nat → ObjD} {s : ByteArray} {x at' : Int} (h : (loadV n ob (s, x) at').2 = true) (v : Vl) (u : ByteArray) (hu : u.toList = s.toList) : loadV n (putOb n ob (s, x) at' v) (u, x) at' = (v, true) := by
  obtain rfl := str_ext hu
  rcases hL : loadV n ob (u, x) at' with ⟨⟨r, m⟩, ok⟩
  rw [hL] at h
  have h : ok = true := h
  subst h
  obtain ⟨q, i, rfl, rfl, hq, hi, hy⟩ := loadV_yes hL
  rw [hy]
  have hl : leadsB n (u, (q : Int) + 1) = true := by
    unfold loadV at hL
    split at hL
    · rename_i hc; exact hc.1
    · simp at hL
  have e : ((q : Int) + 1 - 1).toNat = q := by omega
  unfold loadV
  dsimp only
  rw [e, setOb_at]
  rw [if_pos ⟨hl, by omega, by dsimp only; omega⟩]
  simp
/-- all else stays -/
theorem put_else {n : Nat} {ob : Nat → ObjD} {s : ByteArray} {x at' : Int} (v : Vl) (u : ByteArray) (z by' : Int) (hne : (loadV n ob (s, x) at').2 = false ∨ u.toList ≠ s.toList ∨ z ≠ x ∨ at' ≠ by') : loadV n (putOb n ob (s, x) at' v) (u, z) by' = loadV n ob (u, z) by' := by
  rcases hL : loadV n ob (s, x) at' with ⟨⟨r, m⟩, ok⟩
  rw [hL] at hne
  cases ok
  · rw [loadV_no hL]
  · obtain ⟨q, i, rfl, rfl, hq, hi, hy⟩ := loadV_yes hL
    rw [hy]
    have hls : leadsB n (s, (q : Int) + 1) = true := by
      unfold loadV at hL
      split at hL
      · rename_i hc; exact hc.1
      · simp at hL
    unfold loadV
    by_cases hl : leadsB n (u, z) = true
    · have hus : u.toList = s.toList := by
        rw [isRef_list (leads_ref hl), isRef_list (leads_ref hls)]
      have hi2 := leadsI hl
      dsimp only
      by_cases ez : (z - 1).toNat = q
      · rw [ez, setOb_at]
        dsimp only
        have hby : (i : Int) ≠ by' := by
          rcases hne with h | h | h | h
          · cases h
          · exact absurd hus h
          · omega
          · exact h
        by_cases hc : 0 ≤ by' ∧ by' < ((ob q).l : Int)
        · rw [if_pos ⟨hl, hc.1, hc.2⟩, if_neg (show ¬ by'.toNat = i by omega), if_pos ⟨hl, hc.1, hc.2⟩]
        · rw [if_neg (fun h => hc ⟨h.2.1, h.2.2⟩), if_neg (fun h => hc ⟨h.2.1, h.2.2⟩)]
      · rw [setOb_ne ez]
    · rw [if_neg (fun h => hl h.1), if_neg (fun h => hl h.1)]
theorem put_has {n : Nat} {ob : Nat → ObjD} {s : ByteArray} {x at' : Int} (v : Vl) (u : ByteArray) (z by' : Int) : (loadV n (putOb n ob (s, x) at' v) (u, z) by').2 = (loadV n ob (u, z) by').2 := by
  by_cases h : (loadV n ob (s, x) at').2 = false ∨ u.toList ≠ s.toList ∨ z ≠ x ∨ at' ≠ by'
  · rw [put_else v u z by' h]
  · have h1 : (loadV n ob (s, x) at').2 = true := by
      cases hh : (loadV n ob (s, x) at').2 with
      | true => rfl
      | false => exact absurd (.inl hh) h
    have h2 : u.toList = s.toList := Classical.byContradiction fun hh => h (.inr (.inl hh))
    have h3 : z = x := Classical.byContradiction fun hh => h (.inr (.inr (.inl hh)))
    have h4 : at' = by' := Classical.byContradiction fun hh => h (.inr (.inr (.inr hh)))
    subst h3 h4
    rw [put_get h1 v u h2]
    obtain rfl := str_ext h2
    exact h1.symm

theorem SameAs.l {n : Nat} {oq ob : Nat → ObjD} (h : SameAs n oq ob) {i : Nat} (hi : i < n) : (oq i).l = (ob i).l := (h i hi).2.1
theorem putOb_r {n : Nat} {ob : Nat → ObjD} {o : Vl} {at' : Int} {v : Vl} (hv : -9223372036854775808 ≤ v.2 ∧ v.2 ≤ 9223372036854775807) (hr : ∀ i, i < n → ∀ j, j < (ob i).l → -9223372036854775808 ≤ ((ob i).vs j).2 ∧ ((ob i).vs j).2 ≤ 9223372036854775807) :
    ∀ i, i < n → ∀ j, j < (putOb n ob o at' v i).l → -9223372036854775808 ≤ ((putOb n ob o at' v i).vs j).2 ∧ ((putOb n ob o at' v i).vs j).2 ≤ 9223372036854775807 := by
  intro i hi j hj
  rw [(putOb_c _ _ _ _ _ _).2] at hj
  unfold putOb
  split
  · dsimp only
    split
    · exact hv
    · exact hr i hi j hj
  · exact hr i hi j hj

def AllTrue (w : World) (e : Ending) (w' : World) : Prop := e = .returned (.bool true) ∧ Below w.heap.size w w'
set_option maxHeartbeats 4000000 in
theorem stores_walk (ph : Option Addr) (n ch : Nat) (ob : Nat → ObjD) (s : ByteArray) (x at' : Int) (t : ByteArray) (y : Int) (u : ByteArray) (z by' : Int) (hy : -9223372036854775808 ≤ y ∧ y ≤ 9223372036854775807) (w : World) (hO : Objs w ph n ob) :
    Calls Try.prog 6 #[.slice ph n ch, .agg #[.string s, .int .i64 x], .int .i64 at', .agg #[.string t, .int .i64 y], .agg #[.string u, .int .i64 z], .int .i64 by'] w (AllTrue w) := by
  rcases hfew : fewB n ob with _ | _
  · have HF := fun w1 (hb : Below w.heap.size w w1) => few_val ph n ch ob w1 (hO.below hb)
    rw [hfew] at HF
    clear hfew
    go_enter Try.func6, Try.ntmps6
    go_wp2_with fail
    refine (awake_val _).mono ?_
    rintro e w1 ⟨rfl, hb⟩
    obtain ⟨-, -, -, hB⟩ := boxes3 (c1 := [_, _]) (c2 := [_, _]) (c3 := [_, _]) hb
    clear hb
    go_wp2_with fail
    refine (HF _ hB).mono ?_
    rintro e w2 ⟨rfl, rfl⟩
    go_wp2_with fail
    refine (awake_val _).mono ?_
    rintro e w2 ⟨rfl, hb⟩
    have hB2 := bthen hB hb
    clear hb
    go_wp2
    go_ret
    exact ⟨rfl, hB2⟩
  · obtain ⟨hn, hl⟩ := few_n hfew
    have HF := fun w1 (hb : Below w.heap.size w w1) => few_val ph n ch ob w1 (hO.below hb)
    rw [hfew] at HF
    clear hfew
    have HS := fun w1 (hb : Below w.heap.size w w1) => store_val ph n ch ob (by omega) (fun i hi => by have := hl i hi; omega) s x at' t y w1 (hO.below hb)
    rcases h1 : loadV n ob (u, z) by' with ⟨⟨r1, m1⟩, had⟩
    have HL := fun w1 (hb : Below w.heap.size w w1) => load_val ph n ch ob u z by' r1 m1 had h1 w1 (hO.below hb)
    rcases h2 : loadV n (putOb n ob (s, x) at' (t, y)) (u, z) by' with ⟨⟨r2, m2⟩, has⟩
    have hhas : has = had := by
      have := put_has (n := n) (ob := ob) (s := s) (x := x) (at' := at') (t, y) u z by'
      rw [h1, h2] at this
      exact this
    subst hhas
    have hr := putOb_r (n := n) (ob := ob) (o := (s, x)) (at' := at') (v := (t, y)) hy (fun i hi => (hO.v i hi).r)
    have hl2 : ∀ i, i < n → (putOb n ob (s, x) at' (t, y) i).l ≤ 20 := fun i hi => by rw [(putOb_c _ _ _ _ _ _).2]; exact hl i hi
    -- what the ends ask
    have hcase : (((loadV n ob (s, x) at').2 = true ∧ (u.toList == s.toList) = true ∧ (z == x) = true ∧ (at' == by') = true) ∧ r2 = t ∧ m2 = y ∧ has = true) ∨ (((loadV n ob (s, x) at').2 = false ∨ (u.toList == s.toList) = false ∨ (z == x) = false ∨ (at' == by') = false) ∧ r2 = r1 ∧ m2 = m1) := by
      by_cases h : (loadV n ob (s, x) at').2 = false ∨ u.toList ≠ s.toList ∨ z ≠ x ∨ at' ≠ by'
      · right
        have := put_else (t, y) u z by' h
        rw [h1, h2] at this
        simp only [Prod.mk.injEq, and_true] at this
        refine ⟨?_, this.1, this.2⟩
        rcases h with h | h | h | h
        · exact .inl h
        · exact .inr (.inl (by simpa using h))
        · exact .inr (.inr (.inl (by simpa using h)))
        · exact .inr (.inr (.inr (by simpa using h)))
      · left
        have a1 : (loadV n ob (s, x) at').2 = true := by
          cases hh : (loadV n ob (s, x) at').2 with
          | true => rfl
          | false => exact absurd (.inl hh) h
        have a2 : u.toList = s.toList := Classical.byContradiction fun hh => h (.inr (.inl hh))
        have a3 : z = x := Classical.byContradiction fun hh => h (.inr (.inr (.inl hh)))
        have a4 : at' = by' := Classical.byContradiction fun hh => h (.inr (.inr (.inr hh)))
        subst a3 a4
        have := put_get a1 (t, y) u a2
        rw [h2] at this
        simp only [Prod.mk.injEq] at this
        exact ⟨⟨a1, by simpa using a2, by simp, by simp⟩, this.1.1, this.1.2, this.2⟩
    generalize (loadV n ob (s, x) at').2 = ok at *
    clear hO
    have finish : ∀ b1 b2 b3, (u.toList == s.toList) = b1 → (z == x) = b2 → (at' == by') = b3 → (((ok = true ∧ b1 = true ∧ b2 = true ∧ b3 = true) ∧ r2 = t ∧ m2 = y ∧ has = true) ∨ ((ok = false ∨ b1 = false ∨ b2 = false ∨ b3 = false) ∧ r2 = r1 ∧ m2 = m1)) →
        Calls Try.prog 6 #[.slice ph n ch, .agg #[.string s, .int .i64 x], .int .i64 at', .agg #[.string t, .int .i64 y], .agg #[.string u, .int .i64 z], .int .i64 by'] w (AllTrue w) := by
      clear hcase
      intro b1 b2 b3 e1 e2 e3 hc
      have H2 := Lib.hid h2
      have Hc := Lib.hid hc
      clear h2 hc
      go_enter Try.func6, Try.ntmps6
      go_wp2_with fail
      refine (awake_val _).mono ?_
      rintro e w1 ⟨rfl, hb⟩
      obtain ⟨xo, xv, xp, hB⟩ := boxes3 (c1 := [_, _]) (c2 := [_, _]) (c3 := [_, _]) hb
      clear hb
      go_wp2_with fail
      refine (HF _ hB).mono ?_
      rintro e w2 ⟨rfl, rfl⟩
      have o0 := xo.c 0 _ rfl
      have o1 := xo.c 1 _ rfl
      have v0 := xv.c 0 _ rfl
      have v1 := xv.c 1 _ rfl
      go_wp2_with fail
      refine (HS _ hB).mono ?_
      rintro e w2 ⟨vk, oq, rfl, hH, hS, hb⟩
      have hB2 := bthen hB hb
      have xo := xo.nx hb
      have xv := xv.nx hb
      have xp := xp.nx hb
      clear hb o0 o1 v0 v1
      obtain ⟨pk, kk, rfl⟩ := hH.row.slice
      have p0 := xp.c 0 _ rfl
      have p1 := xp.c 1 _ rfl
      have OK : ∀ w', Below w2.heap.size w2 w' → Objs w' pk n oq := fun w' hb => (hH.next hb (Nat.le_refl _)).objs (by omega) (fun i hi => by rw [hS.l hi]; have := hl2 i hi; omega) (fun i hi j hj => by
        rw [hS.l hi] at hj
        rw [(hS i hi).2.2]
        exact hr i hi j hj)
      have L2 : loadV n oq (u, z) by' = ((r2, m2), has) := (loadV_same hS (u, z) by').trans H2.out
      have L2 := Lib.hid L2
      clear hr hl2 hS hH H2
      go_wp2_with fail
      refine (HL _ hB2).mono ?_
      rintro e w3 ⟨rfl, hb⟩
      have hB3 := bthen hB2 hb
      have O3 := fun o => OK _ (hb.alloc hb.size o)
      have xo := xo.nx hb
      have xv := xv.nx hb
      have xp := xp.nx hb
      clear hb p0 p1
      have p0 := fun o => (xp.al o).c 0 _ rfl
      have p1 := fun o => (xp.al o).c 1 _ rfl
      have p0' := xp.c 0 _ rfl
      have p1' := xp.c 1 _ rfl
      go_wp2_with fail
      refine (load_val pk n kk oq u z by' r2 m2 has L2.out _ (O3 _)).mono ?_
      rintro e w4 ⟨rfl, hb⟩
      obtain ⟨xw, hb⟩ := boxes1 (c1 := [_, _]) hb
      have hB4 := bthen hB3 hb
      have xo := xo.nx hb
      have xv := xv.nx hb
      have xp := xp.nx hb
      clear hb p0 p1 p0' p1' OK O3 L2
      have o0 := fun o => (xo.al o).c 0 _ rfl
      have o1 := fun o => (xo.al o).c 1 _ rfl
      have v0 := fun o => (xv.al o).c 0 _ rfl
      have v1 := fun o => (xv.al o).c 1 _ rfl
      have p0 := fun o => (xp.al o).c 0 _ rfl
      have p1 := fun o => (xp.al o).c 1 _ rfl
      have w0 := fun o => (xw.al o).c 0 _ rfl
      have w1' := fun o => (xw.al o).c 1 _ rfl
      have hk : (r1.toList == r1.toList) = true := by simp
      have ht : (t.toList == t.toList) = true := by simp
      have Hc := Hc.out
      clear xo xv xp xw h1
      cases ok
      · rcases Hc with ⟨⟨h, _⟩, _⟩ | ⟨-, rfl, rfl⟩
        · cases h
        · go_wp2
          go_ret
          exact ⟨rfl, hB4.alloc hB4.size _⟩
      cases b1
      · rcases Hc with ⟨⟨_, h, _⟩, _⟩ | ⟨-, rfl, rfl⟩
        · cases h
        · go_wp2
          go_ret
          exact ⟨rfl, hB4.alloc hB4.size _⟩
      cases b2
      · rcases Hc with ⟨⟨_, _, h, _⟩, _⟩ | ⟨-, rfl, rfl⟩
        · cases h
        · go_wp2
          go_ret
          exact ⟨rfl, hB4.alloc hB4.size _⟩
      cases b3
      · rcases Hc with ⟨⟨_, _, _, h⟩, _⟩ | ⟨-, rfl, rfl⟩
        · cases h
        · go_wp2
          go_ret
          exact ⟨rfl, hB4.alloc hB4.size _⟩
      · rcases Hc with ⟨-, rfl, rfl, rfl⟩ | ⟨h, -, -⟩
        · go_wp2
          go_ret
          exact ⟨rfl, hB4.alloc hB4.size _⟩
        · rcases h with h | h | h | h <;> cases h
    exact finish _ _ _ rfl rfl rfl hcase
end Go.Proofs.Ytndakhnplnamdaa
