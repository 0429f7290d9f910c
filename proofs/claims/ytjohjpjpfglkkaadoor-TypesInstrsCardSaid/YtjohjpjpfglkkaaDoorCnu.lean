/- How many parts an instruction has, up to 20000. -/
import Derived.Test.YtjohjpjpfglkkaaDoorCnt
import Derived.Deep.CutBlock
namespace Go.Proofs.YtjohjpjpfglkkaaDoor
open Go.RowKit

structure ValI (w : World) (v : Value) (x : Is) (u1 u2 u3 : Value) : Prop where
  e : v = .agg #[.int .i64 x.op, .string x.d, .string x.n, u1, u2, u3]
  z : Sz x.d ∧ Sz x.n
  a : Row AtA 3 w u1 x.as
  f : Row AtFr 4 w u2 x.fr
  o : Row AtVt 2 w u3 x.ob
theorem szI {s : ByteArray} (h : Sz s) : (s.size : Int) ≤ 140737488351232 := by unfold Sz at h; omega
def CnS (n : Value) (b : Int) : Prop := ∃ k : Int, n = .int .i64 k ∧ Cn k b

set_option maxHeartbeats 4000000 in
set_option maxRecDepth 100000 in
theorem cInstr_val {w0 w : World} (h0 : Below w0.heap.size w0 w) {x : Is} {v u1 u2 u3 : Value} (hv : ValI w0 v x u1 u2 u3) :
    Calls Tryd.prog 54 #[v, .int .i64 20000] w fun e w' => Below w.heap.size w w' ∧ ∃ n : Int, e = .returned (.int .i64 n) ∧ Cn n 562949953421312 := by
  obtain ⟨rfl, ⟨z1, z2⟩, ha, hf, ho⟩ := hv
  have z1 := szI z1
  have z2 := szI z2
  obtain ⟨p1, k1, rfl⟩ := ha.slice
  obtain ⟨p2, k2, rfl, -, hn2, hf⟩ := hf
  obtain ⟨p3, k3, rfl, -, hn3, ho⟩ := ho
  have hb1 := (Below.refl w.heap.size w).alloc (Nat.le_refl _) (.cells #[.int .i64 x.op, .string x.d, .string x.n, .slice p1 x.as.length k1, .slice p2 x.fr.length k2, .slice p3 x.ob.length k3] 35)
  have hB := Box.alloc w [.int .i64 x.op, .string x.d, .string x.n, .slice p1 x.as.length k1, .slice p2 x.fr.length k2, .slice p3 x.ob.length k3] 35
  have hA := cArgs_val (bthen' h0 hb1) ha
  have h1 := bthen' h0 hb1
  go_enter Tryd.func54, Tryd.ntmps54
  by_cases c1 : 20000 < x.fr.length
  · have c1 : (20000 : Int) < (x.fr.length : Int) := by omega
    clear hA h1 hf ho ha
    go_wp2
    go_ret
    exact ⟨hb1, _, rfl, by omega, by omega⟩
  have c1I : ¬ (20000 : Int) < (x.fr.length : Int) := by omega
  by_cases c2 : 20000 < x.ob.length
  · have c2 : (20000 : Int) < (x.ob.length : Int) := by omega
    clear hA h1 hf ho ha
    go_wp2
    go_ret
    exact ⟨hb1, _, rfl, by omega, by omega⟩
  have c2I : ¬ (20000 : Int) < (x.ob.length : Int) := by omega
  go_upto_if 37 with fail
  refine (?_ : ∀ W, W = w.alloc (.cells #[.int .i64 x.op, .string x.d, .string x.n, .slice p1 x.as.length k1, .slice p2 x.fr.length k2, .slice p3 x.ob.length k3] 35) → Code.wp _ _ _ _ W) _ rfl
  intro W hW
  rw [← hW] at hb1 hB hA h1
  clear hW
  go_cut [5] from 37 to 42 (fun n wx => CnS n 281474976710656 ∧ wx = W)
  case first =>
    have b2 := hB.c 2 _ rfl
    by_cases hk : 1 + (x.d.size : Int) + x.fr.length + x.ob.length ≤ 20000
    · go_wp2
      go_meet
      case rel => exact ⟨⟨_, rfl, by omega, by omega⟩, rfl⟩
    · go_wp2
      go_meet
      case rel => exact ⟨⟨_, rfl, by omega, by omega⟩, rfl⟩
  case rest =>
  obtain ⟨⟨k, rfl, hk0, hk1⟩, rfl⟩ := hcut
  go_upto_if 45 with fail
  go_cut [5] from 45 to 51 (fun n wx => CnS n 562949953421312 ∧ wx = wc)
  case first =>
    have b3 := hB.c 3 _ rfl
    by_cases hk : k ≤ 20000
    · go_wp2_with fail
      refine hA.mono ?_
      rintro e w2 ⟨rfl, n, rfl, hn0, hn1⟩
      clear hA ha hf ho
      go_wp2
      go_meet
      case rel => exact ⟨⟨_, rfl, by omega, by omega⟩, rfl⟩
    · go_wp2
      go_meet
      case rel => exact ⟨⟨_, rfl, by omega, by omega⟩, rfl⟩
  case rest =>
  obtain ⟨⟨k, rfl, hk0, hk1⟩, rfl⟩ := hcut
  have hf2 : ∀ q, q < x.fr.length → ∃ a, p2 = some a ∧ ∃ (s t : ByteArray) (pb : Option Addr) (nb kb : Nat), wc.cell? (a.add (q * 4)) = some (.string s) ∧ At wc (a.add (q * 4)) 1 (.string t) ∧ At wc (a.add (q * 4)) 3 (.slice pb nb kb) ∧ (s.size : Int) ≤ 140737488351232 ∧ (t.size : Int) ≤ 140737488351232 ∧ nb ≤ 140737488351232 ∧
      ∀ j, j < nb → ∃ b, pb = some b ∧ ∃ s t : ByteArray, wc.cell? (b.add (j * 4)) = some (.string s) ∧ At wc (b.add (j * 4)) (1 + 1) (.string t) ∧ (s.size : Int) ≤ 140737488351232 ∧ (t.size : Int) ≤ 140737488351232 := fun q hq => by
    obtain ⟨a, e, h⟩ := hf q x.fr[q] (by simp [hq])
    obtain ⟨⟨g1, g2⟩, ⟨g3, g4⟩, -, u, g5, pb, kb, rfl, -, g6, g7⟩ := h
    refine ⟨a, e, _, _, pb, _, kb, keepc h1 g1, keepc h1 g3, keepc h1 g5, szI g2, szI g4, g6, fun j hj => ?_⟩
    obtain ⟨b, e2, ⟨i1, i2⟩, -, ⟨i3, i4⟩, -⟩ := g7 j x.fr[q].vs[j] (by simp [hj])
    exact ⟨b, e2, _, _, keepc h1 i1, keepc h1 i3, szI i2, szI i4⟩
  clear hf
  go_upto_block 0 with fail
  go_cut [5, 6, 7] from 52 to 131 (fun n _ _ wx => CnS n 562949953421312 ∧ wx = wc)
  case first =>
    have b4 := hB.c 4 _ rfl
    clear hA ha ho
    go_wp2_with fail
    go_loopw [5, 6, 7] (fun n i _ wr => ∃ q : Nat, ∃ k : Int, q ≤ x.fr.length ∧ i = .int .i64 (q : Int) ∧ n = .int .i64 k ∧ Cn k 562949953421312 ∧ wr = wc) (fun _ i _ _ => x.fr.length - (intOf i).toNat)
    case atStart => exact ⟨0, _, Nat.zero_le _, rfl, rfl, ⟨hk0, hk1⟩, rfl⟩
    case round =>
      clear hk0 hk1
      obtain ⟨q, k, hq, rfl, rfl, ⟨hk0, hk1⟩, rfl⟩ := hrel
      by_cases hend : q = x.fr.length
      · subst hend
        clear hf2
        go_wp2
        go_meet
        case rel => exact ⟨⟨_, rfl, hk0, hk1⟩, rfl⟩
      · have hlt : q < x.fr.length := by omega
        have hltI : (q : Int) < (x.fr.length : Int) := by omega
        by_cases hk2 : k ≤ 20000
        · obtain ⟨a, rfl, s, t, pb, nb, kb, d0, d1, d3, hs, ht, hnb, hj⟩ := hf2 q hlt
          clear hf2
          go_upto_if 75 with fail
          go_cut [5] from 64 to 84 (fun n wx => CnS n 562949953421312 ∧ wx = wr)
          case first =>
            by_cases hk3 : k + s.size ≤ 20000
            · go_wp2
              go_meet
              case rel => exact ⟨⟨_, rfl, by omega, by omega⟩, rfl⟩
            · go_wp2
              go_meet
              case rel => exact ⟨⟨_, rfl, by omega, by omega⟩, rfl⟩
          case rest =>
          clear hk0 hk1 hk2
          obtain ⟨⟨k, rfl, hk0, hk1⟩, rfl⟩ := hcut
          go_wp2_with fail
          obtain ⟨w7, rfl⟩ : ∃ w7 : World, w7 = wc := ⟨_, rfl⟩
          go_loopw [5, 7] (fun n i wr => ∃ j : Nat, ∃ k : Int, j ≤ nb ∧ i = .int .i64 (j : Int) ∧ n = .int .i64 k ∧ Cn k 562949953421312 ∧ wr = w7) (fun _ i _ => nb - (intOf i).toNat)
          case atStart => exact ⟨0, _, Nat.zero_le _, rfl, rfl, ⟨hk0, hk1⟩, rfl⟩
          case round =>
            clear hk0 hk1
            obtain ⟨j, k, hjl, rfl, rfl, ⟨hk0, hk1⟩, rfl⟩ := hrel
            by_cases hje : j = nb
            · subst hje
              clear hj
              go_wp2
              go_roundw
              case rel => exact ⟨q + 1, k, by omega, by go_num, rfl, ⟨hk0, hk1⟩, trivial⟩
              case measure => simp [intOf]; omega
            · have hjlt : j < nb := by omega
              have hjI : (j : Int) < (nb : Int) := by omega
              by_cases hk2 : k ≤ 20000
              · obtain ⟨b, rfl, s2, t2, e0, e2, hs2, ht2⟩ := hj j hjlt
                clear hj
                by_cases hk3 : k + 1 + s2.size ≤ 20000
                · go_wp2
                  go_roundw
                  case rel => exact ⟨j + 1, k + 1 + s2.size + t2.size, by omega, by go_num, by go_num, ⟨by omega, by omega⟩, trivial⟩
                  case measure => simp [intOf]; omega
                · go_wp2
                  go_roundw
                  case rel => exact ⟨j + 1, k + 1 + s2.size, by omega, by go_num, by go_num, ⟨by omega, by omega⟩, trivial⟩
                  case measure => simp [intOf]; omega
              · clear hj
                go_wp2
                go_roundw
                case rel => exact ⟨q + 1, k, by omega, by go_num, rfl, ⟨hk0, hk1⟩, trivial⟩
                case measure => simp [intOf]; omega
        · clear hf2
          go_wp2
          go_meet
          case rel => exact ⟨⟨_, rfl, hk0, hk1⟩, rfl⟩
  case rest =>
  clear hk0 hk1 hf2
  obtain ⟨⟨k, rfl, hk0, hk1⟩, rfl⟩ := hcut
  have b5 := hB.c 5 _ rfl
  clear hA ha hB
  go_wp2_with fail
  obtain ⟨w7, rfl⟩ : ∃ w7 : World, w7 = wc := ⟨_, rfl⟩
  go_loopw [5, 8] (fun n i wr => ∃ q : Nat, ∃ k : Int, q ≤ x.ob.length ∧ i = .int .i64 (q : Int) ∧ n = .int .i64 k ∧ Cn k 562949953421312 ∧ wr = w7) (fun _ i _ => x.ob.length - (intOf i).toNat)
  case atStart => exact ⟨0, _, Nat.zero_le _, rfl, rfl, ⟨hk0, hk1⟩, rfl⟩
  case round =>
    clear hk0 hk1
    obtain ⟨q, k, hq, rfl, rfl, ⟨hk0, hk1⟩, rfl⟩ := hrel
    by_cases hend : q = x.ob.length
    · subst hend
      clear ho
      go_wp2
      go_ret
      exact ⟨hb1, _, rfl, hk0, hk1⟩
    · have hlt : q < x.ob.length := by omega
      have hltI : (q : Int) < (x.ob.length : Int) := by omega
      by_cases hk2 : k ≤ 20000
      · obtain ⟨a, rfl, ⟨g1, g2⟩, u, g5, hr⟩ := ho q x.ob[q] (by simp [hlt])
        have g1 := keepc h1 g1
        have g5 := keepc h1 g5
        have g2 := szI g2
        have hA := cArgs_val h1 hr
        obtain ⟨pa, ka, rfl⟩ := hr.slice
        clear ho hr
        generalize x.ob[q] = y at *
        by_cases hk3 : k + y.c.size ≤ 20000
        · go_wp2_with fail
          refine hA.mono ?_
          rintro e w2 ⟨rfl, n, rfl, hn0, hn1⟩
          clear hA
          go_wp2
          go_roundw
          case rel => exact ⟨q + 1, k + y.c.size + n, by omega, by go_num, by go_num, ⟨by omega, by omega⟩, trivial⟩
          case measure => simp [intOf]; omega
        · clear hA
          go_wp2
          go_roundw
          case rel => exact ⟨q + 1, k + y.c.size, by omega, by go_num, by go_num, ⟨by omega, by omega⟩, trivial⟩
          case measure => simp [intOf]; omega
      · clear ho
        go_wp2
        go_ret
        exact ⟨hb1, _, rfl, hk0, hk1⟩
end Go.Proofs.YtjohjpjpfglkkaaDoor
