/- How many parts a block has, up to 20000. -/
import Derived.Test.YtjohjpjpfglkkaaDoorCnu
namespace Go.Proofs.YtjohjpjpfglkkaaDoor
open Go.RowKit

structure ValB (w : World) (v : Value) (x : Bk) (u1 u2 u3 : Value) : Prop where
  e : v = .agg #[.string x.n, u1, u2, .int .i64 x.e.k, .int .i64 x.e.a.k, .string x.e.a.s, .int .i64 x.e.a.n, u3, .int .i64 x.e.n]
  z : Sz x.n ∧ Sz x.e.a.s
  p : Row AtPh 2 w u1 x.ps
  c : Row AtI 6 w u2 x.cs
  t : Row AtS 1 w u3 x.e.to
set_option maxHeartbeats 8000000 in
set_option maxRecDepth 100000 in
theorem cBlock_val {w0 w : World} (h0 : Below w0.heap.size w0 w) {x : Bk} {v u1 u2 u3 : Value} (hv : ValB w0 v x u1 u2 u3) :
    Calls Tryd.prog 38 #[v, .int .i64 20000] w fun e w' => Below w.heap.size w w' ∧ ∃ n : Int, e = .returned (.int .i64 n) ∧ Cn n 1125899906842624 := by
  obtain ⟨rfl, ⟨z1, z2⟩, hp, hc, ht⟩ := hv
  have z1 := szI z1
  have z2 := szI z2
  obtain ⟨p1, k1, rfl, -, hn1, hp⟩ := hp
  obtain ⟨p2, k2, rfl, -, hn2, hc⟩ := hc
  obtain ⟨p3, k3, rfl, -, hn3, ht⟩ := ht
  generalize x.e.a.s = es at *
  generalize x.e.to = tl at *
  have hb1 := (Below.refl w.heap.size w).alloc (Nat.le_refl _) (.cells #[.string x.n, .slice p1 x.ps.length k1, .slice p2 x.cs.length k2, .int .i64 x.e.k, .int .i64 x.e.a.k, .string es, .int .i64 x.e.a.n, .slice p3 tl.length k3, .int .i64 x.e.n] 93)
  have hB := Box.alloc w [.string x.n, .slice p1 x.ps.length k1, .slice p2 x.cs.length k2, .int .i64 x.e.k, .int .i64 x.e.a.k, .string es, .int .i64 x.e.a.n, .slice p3 tl.length k3, .int .i64 x.e.n] 93
  have h1 := bthen' h0 hb1
  generalize x.e.k = ek at *
  generalize x.e.a.k = eak at *
  generalize x.e.a.n = ean at *
  generalize x.e.n = en at *
  go_enter Tryd.func38, Tryd.ntmps38
  by_cases c1 : 20000 < x.ps.length
  · have c1 : (20000 : Int) < (x.ps.length : Int) := by omega
    clear h1 hp hc ht
    go_wp2
    go_ret
    exact ⟨hb1, _, rfl, by omega, by omega⟩
  have c1I : ¬ (20000 : Int) < (x.ps.length : Int) := by omega
  by_cases c2 : 20000 < x.cs.length
  · have c2 : (20000 : Int) < (x.cs.length : Int) := by omega
    clear h1 hp hc ht
    go_wp2
    go_ret
    exact ⟨hb1, _, rfl, by omega, by omega⟩
  have c2I : ¬ (20000 : Int) < (x.cs.length : Int) := by omega
  by_cases c3 : 20000 < tl.length
  · have c3 : (20000 : Int) < (tl.length : Int) := by omega
    clear h1 hp hc ht
    go_wp2
    go_ret
    exact ⟨hb1, _, rfl, by omega, by omega⟩
  have c3I : ¬ (20000 : Int) < (tl.length : Int) := by omega
  go_upto_if 38 with fail
  refine (?_ : ∀ W, W = w.alloc (.cells #[.string x.n, .slice p1 x.ps.length k1, .slice p2 x.cs.length k2, .int .i64 ek, .int .i64 eak, .string es, .int .i64 ean, .slice p3 tl.length k3, .int .i64 en] 93) → Code.wp _ _ _ _ W) _ rfl
  intro W hW
  rw [← hW] at hb1 hB h1
  clear hW
  go_cut [5] from 36 to 45 (fun n wx => CnS n 1125899906842624 ∧ wx = W)
  case first =>
    have b5 := hB.c 5 _ rfl
    by_cases hk : 1 + (x.n.size : Int) ≤ 20000
    · go_wp2
      go_meet
      case rel => exact ⟨⟨_, rfl, by omega, by omega⟩, rfl⟩
    · go_wp2
      go_meet
      case rel => exact ⟨⟨_, rfl, by omega, by omega⟩, rfl⟩
  case rest =>
  obtain ⟨⟨k, rfl, hk0, hk1⟩, rfl⟩ := hcut
  go_upto_block 0 with fail
  go_cut [5, 6] from 46 to 68 (fun n _ wx => CnS n 1125899906842624 ∧ wx = wc)
  case first =>
    have b7 := hB.c 7 _ rfl
    clear hp hc
    go_wp2_with fail
    go_loopw [5, 6] (fun n i wr => ∃ q : Nat, ∃ k : Int, q ≤ tl.length ∧ i = .int .i64 (q : Int) ∧ n = .int .i64 k ∧ Cn k 1125899906842624 ∧ wr = wc) (fun _ i _ => tl.length - (intOf i).toNat)
    case atStart => exact ⟨0, _, Nat.zero_le _, rfl, rfl, ⟨hk0, hk1⟩, rfl⟩
    case round =>
      clear hk0 hk1
      obtain ⟨q, k, hq, rfl, rfl, ⟨hk0, hk1⟩, rfl⟩ := hrel
      by_cases hend : q = tl.length
      · subst hend
        clear ht
        go_wp2
        go_meet
        case rel => exact ⟨⟨_, rfl, hk0, hk1⟩, rfl⟩
      · have hlt : q < tl.length := by omega
        have hltI : (q : Int) < (tl.length : Int) := by omega
        by_cases hk2 : k ≤ 20000
        · obtain ⟨a, rfl, g1, g2⟩ := ht q tl[q] (by simp [hlt])
          have g1 := keepc h1 g1
          have g2 := szI g2
          rw [Nat.mul_one] at g1
          clear ht
          generalize tl[q] = s at *
          go_wp2
          go_roundw
          case rel => exact ⟨q + 1, k + 1 + s.size, by omega, by go_num, by go_num, ⟨by omega, by omega⟩, trivial⟩
          case measure => simp [intOf]; omega
        · clear ht
          go_wp2
          go_meet
          case rel => exact ⟨⟨_, rfl, hk0, hk1⟩, rfl⟩
  case rest =>
  clear hk0 hk1 ht
  obtain ⟨⟨k, rfl, hk0, hk1⟩, rfl⟩ := hcut
  have hp2 : ∀ q, q < x.ps.length → ∃ a, p1 = some a ∧ ∃ (s : ByteArray) (pb : Option Addr) (nb kb : Nat), wc.cell? (a.add (q * 2)) = some (.string s) ∧ At wc (a.add (q * 2)) 1 (.slice pb nb kb) ∧ (s.size : Int) ≤ 140737488351232 ∧ nb ≤ 140737488351232 ∧
      ∀ j, j < nb → ∃ b, pb = some b ∧ ∃ s t : ByteArray, wc.cell? (b.add (j * 4)) = some (.string s) ∧ At wc (b.add (j * 4)) (1 + 1) (.string t) ∧ (s.size : Int) ≤ 140737488351232 ∧ (t.size : Int) ≤ 140737488351232 := fun q hq => by
    obtain ⟨a, e, h⟩ := hp q x.ps[q] (by simp [hq])
    obtain ⟨⟨g1, g2⟩, u, g5, pb, kb, rfl, -, g6, g7⟩ := h
    refine ⟨a, e, _, pb, _, kb, keepc h1 g1, keepc h1 g5, szI g2, g6, fun j hj => ?_⟩
    obtain ⟨b, e2, ⟨i1, i2⟩, -, ⟨i3, i4⟩, -⟩ := g7 j x.ps[q].is[j] (by simp [hj])
    exact ⟨b, e2, _, _, keepc h1 i1, keepc h1 i3, szI i2, szI i4⟩
  clear hp
  go_upto_block 2 with fail
  go_cut [5, 7, 8] from 69 to 137 (fun n _ _ wx => CnS n 1125899906842624 ∧ wx = wc)
  case first =>
    have b1 := hB.c 1 _ rfl
    clear hc
    go_wp2_with fail
    go_loopw [5, 7, 8] (fun n i _ wr => ∃ q : Nat, ∃ k : Int, q ≤ x.ps.length ∧ i = .int .i64 (q : Int) ∧ n = .int .i64 k ∧ Cn k 1125899906842624 ∧ wr = wc) (fun _ i _ _ => x.ps.length - (intOf i).toNat)
    case atStart => exact ⟨0, _, Nat.zero_le _, rfl, rfl, ⟨hk0, hk1⟩, rfl⟩
    case round =>
      clear hk0 hk1
      obtain ⟨q, k, hq, rfl, rfl, ⟨hk0, hk1⟩, rfl⟩ := hrel
      by_cases hend : q = x.ps.length
      · subst hend
        clear hp2
        go_wp2
        go_meet
        case rel => exact ⟨⟨_, rfl, hk0, hk1⟩, rfl⟩
      · have hlt : q < x.ps.length := by omega
        have hltI : (q : Int) < (x.ps.length : Int) := by omega
        by_cases hk2 : k ≤ 20000
        · obtain ⟨a, rfl, s, pb, nb, kb, d0, d3, hs, hnb, hj⟩ := hp2 q hlt
          clear hp2
          go_wp2_with fail
          obtain ⟨w7, rfl⟩ : ∃ w7 : World, w7 = wr := ⟨_, rfl⟩
          go_loopw [5, 8] (fun n i wr => ∃ j : Nat, ∃ k : Int, j ≤ nb ∧ i = .int .i64 (j : Int) ∧ n = .int .i64 k ∧ Cn k 1125899906842624 ∧ wr = w7) (fun _ i _ => nb - (intOf i).toNat)
          case atStart => exact ⟨0, k + 1 + s.size, Nat.zero_le _, rfl, by go_num, ⟨by omega, by omega⟩, rfl⟩
          case round =>
            clear hk0 hk1 hk2
            obtain ⟨j, k, hjl, rfl, rfl, ⟨hk0, hk1⟩, rfl⟩ := hrel
            by_cases hje : j = nb
            · subst hje
              clear hj
              go_wp2
              go_roundw
              case rel => exact ⟨q + 1, k, by omega, by go_num, rfl, ⟨hk0, hk1⟩, trivial⟩
              case measure => simp [intOf]; omega
            · have hjlt : j < nb := by omega
              have hjI : (j : Int) < (nb : Int) := by omega
              by_cases hk2 : k ≤ 20000
              · obtain ⟨b, rfl, s2, t2, e0, e2, hs2, ht2⟩ := hj j hjlt
                clear hj
                by_cases hk3 : k + 1 + s2.size ≤ 20000
                · go_wp2
                  go_roundw
                  case rel => exact ⟨j + 1, k + 1 + s2.size + t2.size, by omega, by go_num, by go_num, ⟨by omega, by omega⟩, trivial⟩
                  case measure => simp [intOf]; omega
                · go_wp2
                  go_roundw
                  case rel => exact ⟨j + 1, k + 1 + s2.size, by omega, by go_num, by go_num, ⟨by omega, by omega⟩, trivial⟩
                  case measure => simp [intOf]; omega
              · clear hj
                go_wp2
                go_roundw
                case rel => exact ⟨q + 1, k, by omega, by go_num, rfl, ⟨hk0, hk1⟩, trivial⟩
                case measure => simp [intOf]; omega
        · clear hp2
          go_wp2
          go_meet
          case rel => exact ⟨⟨_, rfl, hk0, hk1⟩, rfl⟩
  case rest =>
  clear hk0 hk1 hp2
  obtain ⟨⟨k, rfl, hk0, hk1⟩, rfl⟩ := hcut
  go_wp2_with fail
  go_loopw [5, 9] (fun n i wr => ∃ q : Nat, ∃ k : Int, q ≤ x.cs.length ∧ i = .int .i64 (q : Int) ∧ n = .int .i64 k ∧ Cn k 1125899906842624 ∧ Below wc.heap.size wc wr) (fun _ i _ => x.cs.length - (intOf i).toNat)
  case atStart => exact ⟨0, _, Nat.zero_le _, rfl, rfl, ⟨hk0, hk1⟩, Below.refl _ _⟩
  case round =>
    clear hk0 hk1
    obtain ⟨q, k, hq, rfl, rfl, ⟨hk0, hk1⟩, hbw⟩ := hrel
    have hB1 := hB.nx hbw
    have b2 := hB1.c 2 _ rfl
    have hbf := bthen' hb1 hbw
    by_cases hend : q = x.cs.length
    · subst hend
      clear hc hB hB1
      go_wp2
      go_ret
      exact ⟨hbf, _, rfl, hk0, hk1⟩
    · have hlt : q < x.cs.length := by omega
      have hltI : (q : Int) < (x.cs.length : Int) := by omega
      by_cases hk2 : k ≤ 20000
      · obtain ⟨a, rfl, hI⟩ := hc q x.cs[q] (by simp [hlt])
        obtain ⟨g0, ⟨g1, y1⟩, ⟨g2, y2⟩, ⟨v3, g3, r3⟩, ⟨v4, g4, r4⟩, v5, g5, r5⟩ := hI
        have hw := bthen' h1 hbw
        have hV : ValI w0 (.agg #[.int .i64 x.cs[q].op, .string x.cs[q].d, .string x.cs[q].n, v3, v4, v5]) x.cs[q] v3 v4 v5 := ⟨rfl, ⟨y1, y2⟩, r3, r4, r5⟩
        have hA := cInstr_val hw hV
        have g0 := keepc hw g0
        have g1 := keepc hw g1
        have g2 := keepc hw g2
        have g3 := keepc hw g3
        have g4 := keepc hw g4
        have g5 := keepc hw g5
        obtain ⟨p3', k3', rfl⟩ := r3.slice
        obtain ⟨p4', k4', rfl⟩ := r4.slice
        obtain ⟨p5', k5', rfl⟩ := r5.slice
        clear hc r3 r4 r5 hV hB hB1 y1 y2
        generalize x.cs[q] = y at *
        go_wp2_with fail
        refine hA.mono ?_
        rintro e w2 ⟨hb2, n, rfl, hn0, hn1⟩
        have hbw2 := bthen' hbw hb2
        clear hA hb2 hbw g0 g1 g2 g3 g4 g5 b2
        go_wp2
        go_roundw
        case rel => exact ⟨q + 1, k + n, by omega, by go_num, by go_num, ⟨by omega, by omega⟩, hbw2⟩
        case measure => simp [intOf]; omega
      · clear hc hB hB1
        go_wp2
        go_ret
        exact ⟨hbf, _, rfl, hk0, hk1⟩
end Go.Proofs.YtjohjpjpfglkkaaDoor
