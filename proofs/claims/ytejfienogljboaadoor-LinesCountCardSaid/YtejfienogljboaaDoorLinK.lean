/- The reference's Join. -/
import Derived.Test.YtejfienogljboaaDoorLinJ
namespace Go.Proofs.YtejfienogljboaaDoor
open Go.RowKit

/-- bytes of the call's own -/
abbrev Bts (w : World) (B : Nat) (v : Value) (l : By) : Prop := w.ownsRow B 5 1 v l.length (l.map byteV)
theorem byteK_news (w : World) (c : UInt8) : ∀ j u, ([byteV c])[j]? = some u → (w.alloc (Obj.cells #[byteV c] 5)).cell? ((⟨w.heap.size, 0, none⟩ : Addr).add j) = some u := by
  intro j u hu
  rw [add_at, Nat.zero_add, World.cell?_alloc_mark]
  simpa [byteV] using hu
theorem byteK_one (c : UInt8) : ∀ u ∈ [byteV c], u.oneCell' = true := by
  intro u hu
  simp only [List.mem_cons, List.not_mem_nil, or_false] at hu
  subst hu
  rfl
theorem bts_one {w : World} {B : Nat} {v : Value} {l : By} {c : UInt8} (h : w.ownsRow B 5 1 v (l.length + 1) (l.map byteV ++ [byteV c])) : Bts w B v (l ++ [c]) := by
  unfold Bts
  rw [List.length_append, List.map_append]
  exact h
theorem bts_str {w : World} {B : Nat} {v : Value} {l : By} {s : ByteArray} (h : w.ownsRow B 5 1 v (l.length + s.size) (l.map byteV ++ Lib.strCells s)) : Bts w B v (l ++ s.data.toList) := by
  have e : s.data.toList.length = s.size := by simp
  unfold Bts
  rw [List.length_append, List.map_append, e]
  exact h

set_option maxHeartbeats 4000000 in
theorem rjoin_val (l : List LnI) (hn : (joinI l).length ≤ 1000000000) (v : Value) (w : World) (hl : LinesAt w v l) :
    Calls Tryd.prog 17 #[v] w fun e w' => e = .returned (.string ⟨(joinI l).toArray⟩) ∧ Below w.heap.size w w' := by
  obtain ⟨p, cu, rfl, hl⟩ := hl
  obtain ⟨i0, hi, hz0, hz1, hz2⟩ := info_parts infoByte
  have hll := joinI_ge l
  go_enter Tryd.func17, Tryd.ntmps17
  go_wp2
  go_loopw [3, 4, 5] (fun o i _ wr => ∃ q : Nat, q ≤ l.length ∧ i = .int .i64 (q : Int) ∧ Below w.heap.size w wr ∧ Bts wr w.heap.size o (joinI (l.take q))) (fun _ i _ _ => l.length - (intOf i).toNat)
  case atStart => exact ⟨0, Nat.zero_le _, rfl, Below.refl _ _, World.ownsRow_nil _ _ _ _⟩
  case round =>
    obtain ⟨q, hq, rfl, hb, hB⟩ := hrel
    obtain ⟨pu, ku, rfl⟩ := own_sl hB
    by_cases hend : q = l.length
    · subst hend
      rw [List.take_length] at hB
      have hrun := run_string_own (P := Tryd.prog) (dst := 9) Tryd.underlying48 Tryd.underlying5 Tryd.underlying9 hB
      clear hB hl
      go_wp2
      go_ret
      exact ⟨rfl, hb⟩
    · have hlt : q < l.length := by omega
      have hltI : (q : Int) < (l.length : Int) := by omega
      have hle := join_le hlt
      obtain ⟨a, u, rfl, h1, h2, pw, cw, rfl, h3⟩ := hl q l[q] (by simp [hlt])
      have htk := joinI_snoc (l.take q) l[q]
      rw [← take_at hlt] at htk
      generalize l[q].2 = ws at *
      generalize l[q].1 = nq at *
      have hlen : (joinI (l.take q)).length + 1 ≤ 1000000000 := by have := hle 0; omega
      have hle2 : ∀ j, (joinI (l.take q)).length + (joinW (ws.take j)).length + 1 ≤ 1000000000 := fun j => by have := hle j; omega
      have hwl := joinW_ge ws
      have hwl2 := hle2 ws.length
      rw [List.take_length] at hwl2
      clear hle hl hend
      generalize joinI (l.take q) = acc at *
      go_wp2
      obtain ⟨wo, rfl⟩ : ∃ wo : World, wo = wr := ⟨_, rfl⟩
      have hB0 : Bts wo w.heap.size (.slice pu acc.length ku) (acc ++ joinW (ws.take 0)) := by simpa [joinW] using hB
      go_loopw [3, 5] (fun o k w2 => ∃ j : Nat, j ≤ ws.length ∧ k = .int .i64 (j : Int) ∧ Below w.heap.size w w2 ∧ Bts w2 w.heap.size o (acc ++ joinW (ws.take j))) (fun _ k _ => ws.length - (intOf k).toNat)
      case atStart => exact ⟨0, Nat.zero_le _, rfl, hb, hB0⟩
      case round =>
        obtain ⟨j, hj, rfl, hb2, hB2⟩ := hrel
        obtain ⟨pu2, ku2, rfl⟩ := own_sl hB2
        have hlj := hle2 j
        have d2 : wr.cell? ⟨(a.add (q * 2)).block, (a.add (q * 2)).off + 1, none⟩ = some (.slice pw ws.length cw) := by rw [hb2.cell (cells_lt h2)]; exact h2
        by_cases hje : j = ws.length
        · subst hje
          rw [List.take_length] at hB2
          have hz : (acc ++ joinW ws).length + 1 ≤ 1000000000 := by rw [List.length_append]; omega
          rw [List.take_length]
          rw [← List.append_assoc] at htk
          clear hB hB0 h3 hle2
          generalize acc ++ joinW ws = ac2 at *
          go_wp2_with (at_builtin; refine wpList_append_own _ rfl _ _ 48 rfl w.heap.size 5 i0 (.int .u8 0) 1 1 Tryd.underlying48 hi hz0 hz1 hz2 rfl (by decide) _ _ _ rfl (hB2.alloc _) ⟨wr.heap.size, 0, none⟩ 1 1 [byteV 10] rfl rfl (byteK_news wr 10) (byteK_one _) ?c3 ?c4 ?c5 ?_)
          case c3 => unfold maxLen; omega
          case c4 => omega
          case c5 => have := hb2.size; simp; omega
          intro v' w3 hown' hgrow _
          have hB3 := bts_one hown'
          rw [← htk] at hB3
          have hb4 := (hb2.alloc hb2.size (.cells #[byteV 10] 5)).grown hgrow (by have := hb2.size; simp; omega) (fun k hk => (hB2.lt k hk).1)
          obtain ⟨pu3, ku3, rfl⟩ := own_sl hown'
          clear hown' hgrow hB2 hb2 hb
          go_wp2
          go_roundw
          case rel => exact ⟨q + 1, by omega, by go_num, hb4, hB3⟩
          case measure => simp [intOf]; omega
        · have hjl : j < ws.length := by omega
          have hjI : (j : Int) < (ws.length : Int) := by omega
          obtain ⟨b, s, rfl, g1, g2⟩ := h3 j ws[j] (by simp [hjl])
          have hlj2 := hle2 (j + 1)
          have hst := take_at hjl
          rw [hst] at hlj2
          have e1 : wr.cell? (b.add j) = some (.string s) := by rw [hb2.cell (cells_lt g1)]; exact g1
          have hss : s.data.toList.length = s.size := by simp
          rw [← g2] at hlj2 hst
          by_cases h0 : j = 0
          · have hjp : ¬ (0 : Int) < (j : Int) := by omega
            have hz : (acc ++ joinW (ws.take j)).length + s.size ≤ 1000000000 := by subst h0; simp [joinW] at hlj2 ⊢; omega
            have hnx : acc ++ joinW (ws.take j) ++ s.data.toList = acc ++ joinW (ws.take (j + 1)) := by subst h0; rw [hst]; simp [joinW]
            clear hB hB0 h3 hle2 h0 hst hlj2 hlj hss
            generalize acc ++ joinW (ws.take j) = ac2 at *
            go_wp2_with (at_builtin; refine Lib.wpList_append_own_string _ rfl _ _ 48 9 rfl w.heap.size 5 i0 Tryd.underlying48 Tryd.underlying9 hi hz0 hz1 hz2 _ _ _ rfl hB2 s rfl ?c3 ?c4 ?c5 ?_)
            case c3 => unfold maxLen; omega
            case c4 => omega
            case c5 => exact hb2.size
            intro v' w3 hown' hgrow _
            have hB3 := bts_str hown'
            rw [hnx] at hB3
            have hb4 := hb2.grown hgrow hb2.size (fun k hk => (hB2.lt k hk).1)
            obtain ⟨pu3, ku3, rfl⟩ := own_sl hown'
            clear hown' hgrow hB2 hb2 hb
            go_wp2
            go_roundw
            case rel => exact ⟨j + 1, by omega, by go_num, hb4, hB3⟩
            case measure => simp [intOf]; omega
          · have hjp : (0 : Int) < (j : Int) := by omega
            have hne : ws.take j ≠ [] := by
              intro e
              have := congrArg List.length e
              rw [List.length_take, List.length_nil] at this
              omega
            have hnx : acc ++ joinW (ws.take j) ++ [32] ++ s.data.toList = acc ++ joinW (ws.take (j + 1)) := by rw [hst, joinW_snoc _ hne]; simp
            have hz : (acc ++ joinW (ws.take j)).length + 1 + s.size ≤ 1000000000 := by rw [joinW_snoc _ hne] at hlj2; simp at hlj2 ⊢; omega
            clear hB hB0 h3 hle2 hst hlj hlj2 hss
            generalize acc ++ joinW (ws.take j) = ac2 at *
            go_wp2_with (at_builtin; refine wpList_append_own _ rfl _ _ 48 rfl w.heap.size 5 i0 (.int .u8 0) 1 1 Tryd.underlying48 hi hz0 hz1 hz2 rfl (by decide) _ _ _ rfl (hB2.alloc _) ⟨wr.heap.size, 0, none⟩ 1 1 [byteV 32] rfl rfl (byteK_news wr 32) (byteK_one _) ?c3 ?c4 ?c5 ?_)
            case c3 => unfold maxLen; omega
            case c4 => omega
            case c5 => have := hb2.size; simp; omega
            intro v' w3 hown' hgrow _
            have hB3 := bts_one hown'
            have hb4 := (hb2.alloc hb2.size (.cells #[byteV 32] 5)).grown hgrow (by have := hb2.size; simp; omega) (fun k hk => (hB2.lt k hk).1)
            obtain ⟨pu3, ku3, rfl⟩ := own_sl hown'
            have d3 : w3.cell? ⟨(a.add (q * 2)).block, (a.add (q * 2)).off + 1, none⟩ = some (.slice (some b) ws.length cw) := by rw [hb4.cell (cells_lt h2)]; exact h2
            have e3 : w3.cell? (b.add j) = some (.string s) := by rw [hb4.cell (cells_lt g1)]; exact g1
            have hz3 : (ac2 ++ [32]).length + s.size ≤ 1000000000 := by simp; omega
            have e2 : (ac2 ++ [32]).length = ac2.length + 1 := by simp
            rw [← e2] at hB3 ⊢
            clear hown' hgrow hB2 hb2 hb d2 e1 e2 hz
            generalize ac2 ++ [32] = ac3 at *
            go_wp2_with (at_builtin; refine Lib.wpList_append_own_string _ rfl _ _ 48 9 rfl w.heap.size 5 i0 Tryd.underlying48 Tryd.underlying9 hi hz0 hz1 hz2 _ _ _ rfl hB3 s rfl ?c3 ?c4 ?c5 ?_)
            case c3 => unfold maxLen; omega
            case c4 => omega
            case c5 => exact hb4.size
            intro v' w5 hown' hgrow _
            have hB5 := bts_str hown'
            rw [hnx] at hB5
            have hb6 := hb4.grown hgrow hb4.size (fun k hk => (hB3.lt k hk).1)
            obtain ⟨pu5, ku5, rfl⟩ := own_sl hown'
            clear hown' hgrow hB3 hb4
            go_wp2
            go_roundw
            case rel => exact ⟨j + 1, by omega, by go_num, hb6, hB5⟩
            case measure => simp [intOf]; omega
end Go.Proofs.YtejfienogljboaaDoor
