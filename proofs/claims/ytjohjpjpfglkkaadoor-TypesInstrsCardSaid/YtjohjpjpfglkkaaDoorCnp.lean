/- Few: a program's parts. -/
import Derived.Test.YtjohjpjpfglkkaaDoorCnf
namespace Go.Proofs.YtjohjpjpfglkkaaDoor
open Go.RowKit

structure FewP (p : Pg) : Prop where
  c : p.cs.length ≤ 50
  x : p.xs.length ≤ 50
  f : p.fs.length ≤ 50
  g : p.gs.length ≤ 20000
  v : ∀ f ∈ p.fs, f.ps.length ≤ 20000 ∧ f.vs.length ≤ 20000
def FewOut (p : Pg) (e : Ending) : Prop := ∃ b : Bool, e = .returned (.bool b) ∧ (b = true → FewP p)
abbrev QF (l : List Fn) (q : Nat) : Prop := ∀ i f, i < q → l[i]? = some f → f.ps.length ≤ 20000 ∧ f.vs.length ≤ 20000
set_option maxHeartbeats 8000000 in
set_option maxRecDepth 100000 in
theorem fewP_val {w0 w : World} (h0 : Below w0.heap.size w0 w) {p : Pg} {v u1 u2 u3 u4 : Value} (hv : ValP w0 v p u1 u2 u3 u4) :
    Calls Tryd.prog 12 #[v, .int .i64 20000] w fun e w' => Below w.heap.size w w' ∧ FewOut p e := by
  obtain ⟨rfl, hc, hg, hx, hf⟩ := hv
  obtain ⟨p1, k1, rfl, -, hn1, hc⟩ := hc
  obtain ⟨p2, k2, rfl⟩ := hg.slice
  obtain ⟨p3, k3, rfl, -, hn3, hx⟩ := hx
  obtain ⟨p4, k4, rfl, -, hn4, hf⟩ := hf
  have hb1 := (Below.refl w.heap.size w).alloc (Nat.le_refl _) (.cells #[.bool p.ssa, .slice p1 p.cs.length k1, .slice p2 p.gs.length k2, .slice p3 p.xs.length k3, .slice p4 p.fs.length k4] 27)
  have hB := Box.alloc w [.bool p.ssa, .slice p1 p.cs.length k1, .slice p2 p.gs.length k2, .slice p3 p.xs.length k3, .slice p4 p.fs.length k4] 27
  have h1 := bthen' h0 hb1
  have hG := cVars_val h1 hg
  clear hg
  go_enter Tryd.func12, Tryd.ntmps12
  by_cases c1 : 50 < p.cs.length
  · have c1 : (50 : Int) < (p.cs.length : Int) := by omega
    clear h1 hG hc hx hf
    go_wp2
    go_ret
    exact ⟨hb1, _, rfl, fun h => by cases h⟩
  have c1I : ¬ (50 : Int) < (p.cs.length : Int) := by omega
  by_cases c2 : 50 < p.xs.length
  · have c2 : (50 : Int) < (p.xs.length : Int) := by omega
    clear h1 hG hc hx hf
    go_wp2
    go_ret
    exact ⟨hb1, _, rfl, fun h => by cases h⟩
  have c2I : ¬ (50 : Int) < (p.xs.length : Int) := by omega
  by_cases c3 : 50 < p.fs.length
  · have c3 : (50 : Int) < (p.fs.length : Int) := by omega
    clear h1 hG hc hx hf
    go_wp2
    go_ret
    exact ⟨hb1, _, rfl, fun h => by cases h⟩
  have c3I : ¬ (50 : Int) < (p.fs.length : Int) := by omega
  go_wp2_with fail
  refine hG.mono ?_
  rintro e w2 ⟨hw2, k, rfl, ⟨hk0, hk1⟩, hkp⟩
  rw [← hw2]
  have hkp : Hid (k ≤ 20000 → p.gs.length ≤ 20000) := Lib.hid hkp
  obtain ⟨W, hW⟩ : ∃ W, W = w.alloc (.cells #[.bool p.ssa, .slice p1 p.cs.length k1, .slice p2 p.gs.length k2, .slice p3 p.xs.length k3, .slice p4 p.fs.length k4] 27) := ⟨_, rfl⟩
  rw [← hW] at hb1 hB h1 ⊢
  clear hW hw2 hG
  go_upto_block 0 with fail
  go_cut [5, 6] from 29 to 62 (fun n _ wx => CnQ n 4503599627370496 (p.gs.length ≤ 20000) ∧ wx = W)
  case first =>
    have b1 := hB.c 1 _ rfl
    clear hx hf
    go_wp2_with fail
    go_loopw [5, 6] (fun n i wr => ∃ q : Nat, ∃ k : Int, q ≤ p.cs.length ∧ i = .int .i64 (q : Int) ∧ n = .int .i64 k ∧ Cn k 4503599627370496 ∧ Hid (k ≤ 20000 → p.gs.length ≤ 20000) ∧ wr = W) (fun _ i _ => p.cs.length - (intOf i).toNat)
    case atStart => exact ⟨0, _, Nat.zero_le _, rfl, rfl, ⟨hk0, by omega⟩, hkp, rfl⟩
    case round =>
      clear hk0 hk1 hkp
      obtain ⟨q, k, hq, rfl, rfl, ⟨hk0, hk1⟩, hkp, rfl⟩ := hrel
      by_cases hend : q = p.cs.length
      · subst hend
        clear hc
        go_wp2
        go_meet
        case rel => exact ⟨⟨_, rfl, ⟨hk0, hk1⟩, hkp.out⟩, rfl⟩
      · have hlt : q < p.cs.length := by omega
        have hltI : (q : Int) < (p.cs.length : Int) := by omega
        by_cases hk2 : k ≤ 20000
        · obtain ⟨a, rfl, ⟨g1, g2⟩, u, g5, hr⟩ := hc q p.cs[q] (by simp [hlt])
          have g1 := keepc h1 g1
          have g5 := keepc h1 g5
          have g2 := szI g2
          have hA := cVars_val h1 hr
          obtain ⟨pa, ka, rfl⟩ := hr.slice
          have hkq := Lib.hid (hkp.out hk2)
          clear hc hr hkp
          generalize p.cs[q] = y at *
          by_cases hk3 : k + y.n.size ≤ 20000
          · go_wp2_with fail
            refine hA.mono ?_
            rintro e w2 ⟨rfl, n, rfl, ⟨hn0, hn1⟩, -⟩
            clear hA
            go_wp2
            go_roundw
            case rel => exact ⟨q + 1, k + y.n.size + n, by omega, by go_num, by go_num, ⟨by omega, by omega⟩, fun _ => hkq.out, trivial⟩
            case measure => simp [intOf]; omega
          · clear hA
            go_wp2
            go_roundw
            case rel => exact ⟨q + 1, k + y.n.size, by omega, by go_num, by go_num, ⟨by omega, by omega⟩, fun _ => hkq.out, trivial⟩
            case measure => simp [intOf]; omega
        · clear hc
          go_wp2
          go_meet
          case rel => exact ⟨⟨_, rfl, ⟨hk0, hk1⟩, hkp.out⟩, rfl⟩
  case rest =>
  clear hk0 hk1 hkp hc
  obtain ⟨⟨k, rfl, ⟨hk0, hk1⟩, hkp⟩, rfl⟩ := hcut
  have hkp : Hid (k ≤ 20000 → p.gs.length ≤ 20000) := Lib.hid hkp
  go_upto_block 2 with fail
  go_cut [5, 7] from 63 to 84 (fun n _ wx => CnQ n 4503599627370496 (p.gs.length ≤ 20000) ∧ wx = wc)
  case first =>
    have b3 := hB.c 3 _ rfl
    clear hf
    go_wp2_with fail
    go_loopw [5, 7] (fun n i wr => ∃ q : Nat, ∃ k : Int, q ≤ p.xs.length ∧ i = .int .i64 (q : Int) ∧ n = .int .i64 k ∧ Cn k 4503599627370496 ∧ Hid (k ≤ 20000 → p.gs.length ≤ 20000) ∧ wr = wc) (fun _ i _ => p.xs.length - (intOf i).toNat)
    case atStart => exact ⟨0, _, Nat.zero_le _, rfl, rfl, ⟨hk0, hk1⟩, hkp, rfl⟩
    case round =>
      clear hk0 hk1 hkp
      obtain ⟨q, k, hq, rfl, rfl, ⟨hk0, hk1⟩, hkp, rfl⟩ := hrel
      by_cases hend : q = p.xs.length
      · subst hend
        clear hx
        go_wp2
        go_meet
        case rel => exact ⟨⟨_, rfl, ⟨hk0, hk1⟩, hkp.out⟩, rfl⟩
      · have hlt : q < p.xs.length := by omega
        have hltI : (q : Int) < (p.xs.length : Int) := by omega
        by_cases hk2 : k ≤ 20000
        · obtain ⟨a, rfl, ⟨g1, g2⟩, -⟩ := hx q p.xs[q] (by simp [hlt])
          have g1 := keepc h1 g1
          have g2 := szI g2
          have hkq := Lib.hid (hkp.out hk2)
          clear hx hkp
          generalize p.xs[q] = y at *
          go_wp2
          go_roundw
          case rel => exact ⟨q + 1, k + 1 + y.n.size, by omega, by go_num, by go_num, ⟨by omega, by omega⟩, fun _ => hkq.out, trivial⟩
          case measure => simp [intOf]; omega
        · clear hx
          go_wp2
          go_meet
          case rel => exact ⟨⟨_, rfl, ⟨hk0, hk1⟩, hkp.out⟩, rfl⟩
  case rest =>
  clear hk0 hk1 hkp hx
  obtain ⟨⟨k, rfl, ⟨hk0, hk1⟩, hkp⟩, rfl⟩ := hcut
  have hkp : Hid (k ≤ 20000 → p.gs.length ≤ 20000 ∧ QF p.fs 0) := Lib.hid fun h => ⟨hkp h, fun i f hi => by omega⟩
  go_upto_block 4 with fail
  go_cut [5, 8] from 85 to 105 (fun n _ wx => CnQ n 4503599627370496 (p.gs.length ≤ 20000 ∧ QF p.fs p.fs.length) ∧ Below wc.heap.size wc wx)
  case first =>
    go_wp2_with fail
    go_loopw [5, 8] (fun n i wr => ∃ q : Nat, ∃ k : Int, q ≤ p.fs.length ∧ i = .int .i64 (q : Int) ∧ n = .int .i64 k ∧ Cn k 4503599627370496 ∧ Hid (k ≤ 20000 → p.gs.length ≤ 20000 ∧ QF p.fs q) ∧ Below wc.heap.size wc wr) (fun _ i _ => p.fs.length - (intOf i).toNat)
    case atStart => exact ⟨0, _, Nat.zero_le _, rfl, rfl, ⟨hk0, hk1⟩, hkp, Below.refl _ _⟩
    case round =>
      clear hk0 hk1 hkp
      obtain ⟨q, k, hq, rfl, rfl, ⟨hk0, hk1⟩, hkp, hbw⟩ := hrel
      have hB1 := hB.nx hbw
      have b4 := hB1.c 4 _ rfl
      by_cases hend : q = p.fs.length
      · subst hend
        clear hf hB hB1
        go_wp2
        go_meet
        case rel => exact ⟨⟨_, rfl, ⟨hk0, hk1⟩, hkp.out⟩, hbw⟩
      · have hlt : q < p.fs.length := by omega
        have hltI : (q : Int) < (p.fs.length : Int) := by omega
        by_cases hk2 : k ≤ 20000
        · obtain ⟨a, rfl, ⟨g0, y1⟩, ⟨g1, y2⟩, ⟨v2, g2, r2⟩, ⟨v3, g3, r3⟩, v4, g4, r4⟩ := hf q p.fs[q] (by simp [hlt])
          have hw := bthen' h1 hbw
          have hV : ValF w0 (.agg #[.string p.fs[q].n, .string p.fs[q].r, v2, v3, v4]) p.fs[q] v2 v3 v4 := ⟨rfl, ⟨y1, y2⟩, r2, r3, r4⟩
          have hA := fewFunc_val hw hV
          have g0 := keepc hw g0
          have g1 := keepc hw g1
          have g2 := keepc hw g2
          have g3 := keepc hw g3
          have g4 := keepc hw g4
          obtain ⟨p2', k2', rfl⟩ := r2.slice
          obtain ⟨p3', k3', rfl⟩ := r3.slice
          obtain ⟨p4', k4', rfl⟩ := r4.slice
          have hstep : ∀ n : Int, n ≤ 20000 → (n ≤ 20000 → p.fs[q].ps.length ≤ 20000 ∧ p.fs[q].vs.length ≤ 20000) → p.gs.length ≤ 20000 ∧ QF p.fs (q + 1) := fun n hn hh => by
            obtain ⟨k1, k2⟩ := hkp.out hk2
            refine ⟨k1, fun i f hi hf2 => ?_⟩
            by_cases e : i = q
            · subst e
              have : p.fs[i] = f := by simpa [hlt] using hf2
              rw [← this]
              exact hh hn
            · exact k2 i f (by omega) hf2
          have hstep := Lib.hid hstep
          clear hf r2 r3 r4 hV hB hB1 y1 y2 hkp
          generalize p.fs[q] = y at *
          go_wp2_with fail
          refine hA.mono ?_
          rintro e w2 ⟨hb2, n, rfl, ⟨hn0, hn1⟩, hn2⟩
          have hbw2 := bthen' hbw hb2
          have hfin : Hid (k + n ≤ 20000 → p.gs.length ≤ 20000 ∧ QF p.fs (q + 1)) := Lib.hid fun h => hstep.out n (by omega) hn2
          clear hA hb2 hbw g0 g1 g2 g3 g4 b4 hstep hn2
          go_wp2
          go_roundw
          case rel => exact ⟨q + 1, k + n, by omega, by go_num, by go_num, ⟨by omega, by omega⟩, hfin, hbw2⟩
          case measure => simp [intOf]; omega
        · clear hf hB hB1
          go_wp2
          go_meet
          case rel => exact ⟨⟨_, rfl, ⟨hk0, hk1⟩, fun h => by omega⟩, hbw⟩
  case rest =>
  clear hk0 hk1 hkp hf
  obtain ⟨⟨k, rfl, ⟨hk0, hk1⟩, hkp⟩, hbw⟩ := hcut
  have hbf := bthen' hb1 hbw
  have hfin : k ≤ 20000 → FewP p := fun h => ⟨by omega, by omega, by omega, (hkp h).1, fun f hf => by
    obtain ⟨i, hi, rfl⟩ := List.getElem_of_mem hf
    exact (hkp h).2 i _ hi (by simp [hi])⟩
  by_cases hk2 : k ≤ 20000
  · have hfin := Lib.hid (hfin hk2)
    clear hkp hB hb1
    go_wp2
    go_ret
    exact ⟨hbf, _, rfl, fun _ => hfin.out⟩
  · clear hkp hB hb1 hfin
    go_wp2
    go_ret
    exact ⟨hbf, _, rfl, fun h => by cases h⟩
end Go.Proofs.YtjohjpjpfglkkaaDoor
