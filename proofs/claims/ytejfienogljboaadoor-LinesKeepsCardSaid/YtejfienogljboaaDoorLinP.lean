/- LinesCount. -/
import Derived.Test.YtejfienogljboaaDoorLinO
namespace Go.Proofs.YtejfienogljboaaDoor
open Go.RowKit

theorem goL_at {s : By} {k : Nat} (h : linesOf s = .inr k) : 1 ≤ k ∧ k ≤ s.count 10 + 1 := by
  have h1 := goL_err h
  have h2 := splitNL_len s
  omega
/-- Split, whatever comes -/
def AnySplit (w w' : World) (s : ByteArray) (pu : Option Addr) (n cu at' why : Nat) : Prop :=
  ((why = 2 ∨ why = 3) ∧ n = 0 ∧ pu = none ∧ cu = 0 ∧ at' ≤ s.data.toList.count 10 + 1) ∨
    (why = 0 ∧ at' = 0 ∧ s.size ≤ 4194304 ∧ ∃ l, n = l.length ∧ linesOf s.data.toList = .inl l ∧ LineRow 40 w' w.heap.size (.slice pu n cu) l)
theorem split_any (s : ByteArray) (m : Int) (w : World) (hm : w.cell? ⟨0, 0, none⟩ = some (.int .i64 m)) : Calls Tryd.prog 9 #[.string s] w fun e w' =>
    ∃ pu, ∃ n cu at' why : Nat, e = .returned (.tuple #[.slice pu n cu, .int .i64 (at' : Int), .int .i64 (why : Int)]) ∧ Below w.heap.size w w' ∧ AnySplit w w' s pu n cu at' why := by
  rcases lines_cases s with hbig | ⟨hs, ⟨l, hl⟩ | ⟨k, hk⟩⟩
  · refine (split_big s hbig w).mono ?_
    rintro e w' ⟨rfl, rfl⟩
    exact ⟨none, 0, 0, 0, 2, rfl, Below.refl _ _, .inl ⟨.inl rfl, rfl, rfl, rfl, Nat.zero_le _⟩⟩
  · refine (split_yes s hs hl m w hm).mono ?_
    rintro e w' ⟨pu, cu, rfl, hb, hr⟩
    exact ⟨pu, _, cu, 0, 0, rfl, hb, .inr ⟨rfl, rfl, hs, l, rfl, hl, hr⟩⟩
  · refine (split_no s hs hk m w hm).mono ?_
    rintro e w' ⟨rfl, hb⟩
    exact ⟨none, 0, 0, k, 3, rfl, hb, .inl ⟨.inr rfl, rfl, rfl, rfl, (goL_at hk).2⟩⟩
def la (l : List Ln) : Nat → Nat
  | 0 => 0
  | i + 1 => match l[i]? with | some x => x.1 | none => 0
theorem la_lt {l : List Ln} {n m : Nat} (h : Rise n m l) (hn : 0 < n) {i : Nat} (hi : i < l.length) : la l i < l[i].1 := by
  cases i with
  | zero => have := (h.b l[0] (by simp)).1; simp only [la]; omega
  | succ i =>
    have := List.pairwise_iff_getElem.1 h.p i (i + 1) (by omega) hi (by omega)
    have e : l[i]? = some l[i] := by simp [show i < l.length by omega]
    simp only [la, e]
    exact this
theorem count_take {s : ByteArray} {q : Nat} (h : q < s.size) : (s.data.toList.take (q + 1)).count 10 = (s.data.toList.take q).count 10 + (if s[q] = 10 then 1 else 0) := by
  rw [take_snoc s q h, List.count_append, List.count_singleton]
  simp [beq_iff_eq]
theorem count_le (l : By) : l.count 10 ≤ l.length := List.count_le_length

theorem ne_empty {s : ByteArray} (h : 0 < s.size) : s.toList.isEmpty = false := by
  rw [ByteArray.toList_eq]
  have : s.data.toList ≠ [] := by
    intro e
    have := congrArg List.length e
    simp at this
    subst this
    cases h
  cases hl : s.data.toList with
  | nil => exact absurd hl this
  | cons c r => rfl
theorem ints_len (l : List Ln) : (ints l).length = l.length := by simp [ints]
theorem count_facts {w : World} {k : Nat} {l : List Ln} {pu : Option Addr} {n cu : Nat} (hR : Rise 1 (1 + (k + 1)) l) (hbd : Bnd (ints l)) (hx : LinesAt w (.slice pu n cu) (ints l)) :
    ∀ q, q < l.length → ∃ a pw cw nw, pu = some a ∧ w.cell? (a.add (q * 2)) = some (.int .i64 (la l (q + 1) : Int)) ∧ w.cell? ⟨(a.add (q * 2)).block, (a.add (q * 2)).off + 1, none⟩ = some (.slice pw nw cw) ∧
      la l q < la l (q + 1) ∧ la l (q + 1) ≤ k + 1 ∧ 0 < nw ∧ nw ≤ 4194304 ∧ ∀ j, j < nw → ∃ b t, pw = some b ∧ w.cell? (b.add j) = some (.string t) ∧ 0 < t.size := by
  intro q hq
  obtain ⟨p, c, e, h⟩ := hx
  injection e with e1 e2 e3
  subst e1
  have hi : (ints l)[q]? = some ((l[q].1 : Int), l[q].2) := by simp [ints, hq]
  obtain ⟨a, u, h1, h2, h3, pw, cw, rfl, h4⟩ := h q _ hi
  have hb := hR.b l[q] (by simp)
  have hla : la l (q + 1) = l[q].1 := by simp [la, hq]
  refine ⟨a, pw, cw, l[q].2.length, h1, by rw [hla]; exact h2, h3, by rw [hla]; exact la_lt hR (by omega) hq, by rw [hla]; omega, List.length_pos_iff.2 hb.2.2.1, hbd.w _ (List.mem_of_getElem? hi), fun j hj => ?_⟩
  obtain ⟨b, t, g1, g2, g3⟩ := h4 j l[q].2[j] (by simp [hj])
  refine ⟨b, t, g1, g2, ?_⟩
  have hne := hb.2.2.2 l[q].2[j] (by simp)
  have e : t.data.toList.length = t.size := by simp
  rw [← e, g3]
  exact List.length_pos_iff.2 hne
set_option maxHeartbeats 4000000 in
theorem linesCount_walk (s : ByteArray) (hs : s.size ≤ 140737488351232) (w : World) (m : Int) (hm : w.cell? ⟨0, 0, none⟩ = some (.int .i64 m)) : Calls Tryd.prog 6 #[.string s] w fun e w' => e = .returned (.bool true) ∧ Below w.heap.size w w' := by
  have h1 := split_any s m w hm
  go_enter Tryd.func6, Tryd.ntmps6
  go_wp2_with fail
  refine h1.mono ?_
  rintro e w1 ⟨pu, n, cu, at', why, rfl, hb1, hD⟩
  have hm1 := (hb1.cell (cells_lt hm)).trans hm
  clear h1 hm
  obtain ⟨wo, rfl⟩ : ∃ wo : World, wo = w1 := ⟨_, rfl⟩
  go_wp2_with fail
  go_loopw [6, 7] (fun c i wr => ∃ q : Nat, q ≤ s.size ∧ i = .int .i64 (q : Int) ∧ c = .int .i64 (((s.data.toList.take q).count 10 : Nat) + 1 : Int) ∧ wr = wo) (fun _ i _ => s.size - (intOf i).toNat)
  case atStart => exact ⟨0, Nat.zero_le _, rfl, rfl, rfl⟩
  case round =>
    obtain ⟨q, hq, rfl, rfl, rfl⟩ := hrel
    have hcl := count_le (s.data.toList.take q)
    have hlt' : (s.data.toList.take q).length ≤ q := by simp; omega
    by_cases hend : q = s.size
    · subst hend
      rw [List.take_of_length_le (by simp)]
      rw [List.take_of_length_le (by simp)] at hcl
      have hA := awake_val m wr hm1
      rcases hD with ⟨hw, rfl, rfl, rfl, hat⟩ | ⟨rfl, rfl, hs4, l, rfl, hl, hr⟩
      · have hw0 : (why : Int) ≠ 0 := by omega
        have hatI : (at' : Int) ≤ ((s.data.toList.count 10 : Nat) + 1 : Int) := by omega
        have hatZ : (0 : Int) ≤ (at' : Int) := by omega
        generalize (s.data.toList.count 10 : Nat) = k at *
        have hA2 := fun w2 (h : Below wr.heap.size wr w2) => awake_val m w2 ((h.cell (cells_lt hm1)).trans hm1)
        clear hw hat hm1
        go_wp2_with fail
        refine hA.mono ?_
        rintro e w3 ⟨rfl, hb3⟩
        have hA3 := hA2 w3 hb3
        have hb13 := bthen hb1 hb3
        clear hA hA2 hb1 hb3
        go_wp2_with fail
        refine hA3.mono ?_
        rintro e w4 ⟨rfl, hb4⟩
        have hb14 := bthen hb13 hb4
        clear hA3 hb13 hb4
        go_wp2
        go_ret
        exact ⟨rfl, hb14⟩
      · have hR := goL_rise hl
        rw [splitNL_len] at hR
        have hbd := lines_bnd hs4 hl
        clear hm1
        go_wp2_with fail
        refine hA.mono ?_
        rintro e w3 ⟨rfl, hb3⟩
        have hb13 := bthen hb1 hb3
        have hx := (hr.next hb3 (Nat.le_refl _)).at
        have hH := count_facts hR hbd hx
        have hn4 := hbd.n
        rw [ints_len] at hn4
        clear hA hb1 hb3 hr hl hs4 hR hbd hx
        generalize l.length = n at *
        generalize (s.data.toList.count 10 : Nat) = k at *
        go_wp2_with fail
        go_loopw [8, 9, 10] (fun last i _ wr => ∃ q : Nat, q ≤ n ∧ i = .int .i64 (q : Int) ∧ last = .int .i64 (la l q : Int) ∧ wr = w3) (fun _ i _ _ => n - (intOf i).toNat)
        case atStart => exact ⟨0, Nat.zero_le _, rfl, rfl, rfl⟩
        case round =>
          obtain ⟨q, hq, rfl, rfl, rfl⟩ := hrel
          by_cases hend : q = n
          · subst hend
            clear hH
            go_wp2
            go_ret
            exact ⟨rfl, hb13⟩
          · have hlt : q < n := by omega
            have hltI : (q : Int) < (n : Int) := by omega
            obtain ⟨a, pw, cw, nw, rfl, c0, c1, hla, hlk, hnw, hn4w, hJ⟩ := hH q hlt
            clear hend hH
            generalize hlaE : la l (q + 1) = nn at *
            have g1 : decide ((nn : Int) ≤ (la l q : Int)) = false := by simp; omega
            have g2 : decide (((k : Int) + 1) < (nn : Int)) = false := by simp; omega
            have g3 : ((nw : Int) == 0) = false := by simp; omega
            go_wp2_with fail
            obtain ⟨w5, rfl⟩ : ∃ w5 : World, w5 = wr := ⟨_, rfl⟩
            go_loopw [10] (fun i w2 => ∃ j : Nat, j ≤ nw ∧ i = .int .i64 (j : Int) ∧ w2 = w5) (fun i _ => nw - (intOf i).toNat)
            case atStart => exact ⟨0, Nat.zero_le _, rfl, rfl⟩
            case round =>
              obtain ⟨j, hj, rfl, rfl⟩ := hrel
              by_cases hje : j = nw
              · subst hje
                clear hJ
                go_wp2
                go_roundw
                case rel => exact ⟨q + 1, by omega, by go_num, by rw [hlaE], trivial⟩
                case measure => simp [intOf]; omega
              · have hjl : j < nw := by omega
                have hjI : (j : Int) < (nw : Int) := by omega
                obtain ⟨b, t, rfl, d0, ht⟩ := hJ j hjl
                have hq3 : t.toList.isEmpty = false := ne_empty ht
                clear hJ hje
                go_wp2
                go_roundw
                case rel => exact ⟨j + 1, by omega, by go_num, trivial⟩
                case measure => simp [intOf]; omega
    · have hlt : q < s.size := by omega
      have hqI : (q : Int) < (s.size : Int) := by omega
      have hct := count_take hlt
      generalize hcc : s[q] = c at hct
      have hcell : s[q] = c := hcc
      clear hcc hend
      by_cases h10 : c = 10
      · subst h10
        rw [if_pos rfl] at hct
        have hc10 : (((10 : UInt8).toNat : Nat) : Int) = 10 := rfl
        generalize (s.data.toList.take q).count 10 = k at *
        go_wp2
        go_roundw
        case rel => exact ⟨q + 1, by omega, by go_num, by rw [hct]; go_num, trivial⟩
        case measure => simp [intOf]; omega
      · rw [if_neg h10] at hct
        have hc10 : ¬ (c.toNat : Int) = 10 := fun h => h10 (UInt8.toNat_inj.1 (by show c.toNat = 10; omega))
        generalize (s.data.toList.take q).count 10 = k at *
        go_wp2
        go_roundw
        case rel => exact ⟨q + 1, by omega, by go_num, by rw [hct]; rfl, trivial⟩
        case measure => simp [intOf]; omega
end Go.Proofs.YtejfienogljboaaDoor
