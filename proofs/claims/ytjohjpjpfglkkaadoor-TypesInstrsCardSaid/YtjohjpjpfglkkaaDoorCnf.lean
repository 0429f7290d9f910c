/- How many parts a function, a program has; few. -/
import Derived.Test.YtjohjpjpfglkkaaDoorCnb
namespace Go.Proofs.YtjohjpjpfglkkaaDoor
open Go.RowKit

/-- a count under way, and what it bounds -/
def CnQ (n : Value) (b : Int) (Q : Prop) : Prop := ∃ k : Int, n = .int .i64 k ∧ Cn k b ∧ (k ≤ 20000 → Q)
theorem AtBk.val {w : World} {a : Addr} {x : Bk} (h : AtBk w a x) : ∃ u1 u2 u3, ValB w (.agg #[.string x.n, u1, u2, .int .i64 x.e.k, .int .i64 x.e.a.k, .string x.e.a.s, .int .i64 x.e.a.n, u3, .int .i64 x.e.n]) x u1 u2 u3 ∧
    w.cell? a = some (.string x.n) ∧ At w a 1 u1 ∧ At w a 2 u2 ∧ At w a 3 (.int .i64 x.e.k) ∧ At w a 4 (.int .i64 x.e.a.k) ∧ At w a 5 (.string x.e.a.s) ∧ At w a 6 (.int .i64 x.e.a.n) ∧ At w a 7 u3 ∧ At w a 8 (.int .i64 x.e.n) := by
  obtain ⟨⟨h1, z1⟩, ⟨u1, h2, r1⟩, ⟨u2, h3, r2⟩, h4, ⟨h5, ⟨h6, z2⟩, h7⟩, ⟨u3, h8, r3⟩, h9⟩ := h
  exact ⟨u1, u2, u3, ⟨rfl, ⟨z1, z2⟩, r1, r2, r3⟩, h1, h2, h3, h4, h5, h6, h7, h8, h9⟩
set_option maxHeartbeats 8000000 in
set_option maxRecDepth 100000 in
theorem fewFunc_val {w0 w : World} (h0 : Below w0.heap.size w0 w) {x : Fn} {v u1 u2 u3 : Value} (hv : ValF w0 v x u1 u2 u3) :
    Calls Tryd.prog 13 #[v, .int .i64 20000] w fun e w' => Below w.heap.size w w' ∧ ∃ n : Int, e = .returned (.int .i64 n) ∧ Cn n 2251799813685248 ∧ (n ≤ 20000 → x.ps.length ≤ 20000 ∧ x.vs.length ≤ 20000) := by
  obtain ⟨rfl, ⟨z1, z2⟩, hp, hv, hk⟩ := hv
  have z1 := szI z1
  have z2 := szI z2
  obtain ⟨p1, k1, rfl⟩ := hp.slice
  obtain ⟨p2, k2, rfl⟩ := hv.slice
  obtain ⟨p3, k3, rfl, -, hn3, hk⟩ := hk
  have hb1 := (Below.refl w.heap.size w).alloc (Nat.le_refl _) (.cells #[.string x.n, .string x.r, .slice p1 x.ps.length k1, .slice p2 x.vs.length k2, .slice p3 x.bs.length k3] 30)
  have hB := Box.alloc w [.string x.n, .string x.r, .slice p1 x.ps.length k1, .slice p2 x.vs.length k2, .slice p3 x.bs.length k3] 30
  have h1 := bthen' h0 hb1
  have hP := cVars_val h1 hp
  have hV := cVars_val h1 hv
  clear hp hv
  go_enter Tryd.func13, Tryd.ntmps13
  by_cases c1 : 20000 < x.bs.length
  · have c1 : (20000 : Int) < (x.bs.length : Int) := by omega
    clear h1 hP hV hk
    go_wp2
    go_ret
    exact ⟨hb1, _, rfl, ⟨by omega, by omega⟩, by omega⟩
  have c1I : ¬ (20000 : Int) < (x.bs.length : Int) := by omega
  go_upto_if 20 with fail
  refine (?_ : ∀ W, W = w.alloc (.cells #[.string x.n, .string x.r, .slice p1 x.ps.length k1, .slice p2 x.vs.length k2, .slice p3 x.bs.length k3] 30) → Code.wp _ _ _ _ W) _ rfl
  intro W hW
  rw [← hW] at hb1 hB h1 hP hV
  clear hW
  go_cut [5] from 18 to 25 (fun n wx => CnS n 2251799813685248 ∧ wx = W)
  case first =>
    have b1 := hB.c 1 _ rfl
    clear hP hV hk
    by_cases hk : 1 + (x.n.size : Int) ≤ 20000
    · go_wp2
      go_meet
      case rel => exact ⟨⟨_, rfl, by omega, by omega⟩, rfl⟩
    · go_wp2
      go_meet
      case rel => exact ⟨⟨_, rfl, by omega, by omega⟩, rfl⟩
  case rest =>
  obtain ⟨⟨k, rfl, hk0, hk1⟩, rfl⟩ := hcut
  go_upto_if 28 with fail
  go_cut [5] from 26 to 34 (fun n wx => CnQ n 2251799813685248 (x.ps.length ≤ 20000) ∧ wx = wc)
  case first =>
    have b2 := hB.c 2 _ rfl
    clear hV hk
    by_cases hk : k ≤ 20000
    · go_wp2_with fail
      refine hP.mono ?_
      rintro e w2 ⟨rfl, n, rfl, ⟨hn0, hn1⟩, hn2⟩
      clear hP
      go_wp2
      go_meet
      case rel => exact ⟨⟨_, rfl, ⟨by omega, by omega⟩, fun h => hn2 (by omega)⟩, rfl⟩
    · clear hP
      go_wp2
      go_meet
      case rel => exact ⟨⟨_, rfl, ⟨by omega, by omega⟩, fun h => by omega⟩, rfl⟩
  case rest =>
  clear hk0 hk1 hP
  obtain ⟨⟨k, rfl, ⟨hk0, hk1⟩, hkp⟩, rfl⟩ := hcut
  go_upto_if 37 with fail
  go_cut [5] from 35 to 43 (fun n wx => CnQ n 2251799813685248 (x.ps.length ≤ 20000 ∧ x.vs.length ≤ 20000) ∧ wx = wc)
  case first =>
    have b3 := hB.c 3 _ rfl
    clear hk
    by_cases hk : k ≤ 20000
    · go_wp2_with fail
      refine hV.mono ?_
      rintro e w2 ⟨rfl, n, rfl, ⟨hn0, hn1⟩, hn2⟩
      have hkp := hkp hk
      clear hV
      go_wp2
      go_meet
      case rel => exact ⟨⟨_, rfl, ⟨by omega, by omega⟩, fun h => ⟨hkp, hn2 (by omega)⟩⟩, rfl⟩
    · clear hV hkp
      go_wp2
      go_meet
      case rel => exact ⟨⟨_, rfl, ⟨by omega, by omega⟩, fun h => by omega⟩, rfl⟩
  case rest =>
  clear hk0 hk1 hV hkp
  obtain ⟨⟨k, rfl, ⟨hk0, hk1⟩, hkp⟩, rfl⟩ := hcut
  have hkp := Lib.hid hkp
  go_wp2_with fail
  go_loopw [5, 6] (fun n i wr => ∃ q : Nat, ∃ k : Int, q ≤ x.bs.length ∧ i = .int .i64 (q : Int) ∧ n = .int .i64 k ∧ Cn k 2251799813685248 ∧ Hid (k ≤ 20000 → x.ps.length ≤ 20000 ∧ x.vs.length ≤ 20000) ∧ Below wc.heap.size wc wr) (fun _ i _ => x.bs.length - (intOf i).toNat)
  case atStart => exact ⟨0, _, Nat.zero_le _, rfl, rfl, ⟨hk0, hk1⟩, hkp, Below.refl _ _⟩
  case round =>
    clear hk0 hk1 hkp
    obtain ⟨q, k, hq, rfl, rfl, ⟨hk0, hk1⟩, hkp, hbw⟩ := hrel
    have hB1 := hB.nx hbw
    have b4 := hB1.c 4 _ rfl
    have hbf := bthen' hb1 hbw
    by_cases hend : q = x.bs.length
    · subst hend
      clear hk hB hB1
      go_wp2
      go_ret
      exact ⟨hbf, _, rfl, ⟨hk0, hk1⟩, hkp.out⟩
    · have hlt : q < x.bs.length := by omega
      have hltI : (q : Int) < (x.bs.length : Int) := by omega
      by_cases hk2 : k ≤ 20000
      · obtain ⟨a, rfl, hI⟩ := hk q x.bs[q] (by simp [hlt])
        obtain ⟨v1, v2, v3, hVB, g0, g1, g2, g3, g4, g5, g6, g7, g8⟩ := hI.val
        have hw := bthen' h1 hbw
        have hA := cBlock_val hw hVB
        have g0 := keepc hw g0
        have g1 := keepc hw g1
        have g2 := keepc hw g2
        have g3 := keepc hw g3
        have g4 := keepc hw g4
        have g5 := keepc hw g5
        have g6 := keepc hw g6
        have g7 := keepc hw g7
        have g8 := keepc hw g8
        obtain ⟨-, -, r1, r2, r3⟩ := hVB
        obtain ⟨p1', k1', rfl⟩ := r1.slice
        obtain ⟨p2', k2', rfl⟩ := r2.slice
        obtain ⟨p3', k3', rfl⟩ := r3.slice
        have hkq := hkp.out hk2
        clear hk r1 r2 r3 hB hB1 hI hkp
        generalize x.bs[q] = y at *
        go_wp2_with fail
        refine hA.mono ?_
        rintro e w2 ⟨hb2, n, rfl, hn0, hn1⟩
        have hbw2 := bthen' hbw hb2
        clear hA hb2 hbw g0 g1 g2 g3 g4 g5 g6 g7 g8 b4
        have hkq := Lib.hid hkq
        go_wp2
        go_roundw
        case rel => exact ⟨q + 1, k + n, by omega, by go_num, by go_num, ⟨by omega, by omega⟩, fun _ => hkq.out, hbw2⟩
        case measure => simp [intOf]; omega
      · clear hk hB hB1
        go_wp2
        go_ret
        exact ⟨hbf, _, rfl, ⟨hk0, hk1⟩, hkp.out⟩
end Go.Proofs.YtjohjpjpfglkkaaDoor
