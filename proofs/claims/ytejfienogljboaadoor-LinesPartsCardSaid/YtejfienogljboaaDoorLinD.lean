/- The reference's Split, walked. -/
import Derived.Test.YtejfienogljboaaDoorLinC
namespace Go.Proofs.YtejfienogljboaaDoor
open Go.RowKit

theorem infoB : (Tryd.prog.info? 5).map (fun i => (i.zero, i.size, i.bytes)) = some (some (.int .u8 0), 1, 1) := by kernel_rfl
theorem byte_news (w : World) (c : UInt8) : ∀ j u, ([byteV c])[j]? = some u → (w.alloc (Obj.cells #[.int .u8 (c.toNat : Int)] 5)).cell? ((⟨w.heap.size, 0, none⟩ : Addr).add j) = some u := by
  intro j u hu
  rw [add_at, Nat.zero_add, World.cell?_alloc_mark]
  simpa [byteV] using hu
theorem byte_one (c : UInt8) : ∀ u ∈ [byteV c], u.oneCell' = true := by
  intro u hu
  simp only [List.mem_cons, List.not_mem_nil, or_false] at hu
  subst hu
  rfl

set_option maxRecDepth 100000 in
set_option maxHeartbeats 8000000 in
theorem rsplit_val (s : ByteArray) (hs : s.size ≤ 4194304) (w : World) : Calls Tryd.prog 10 #[.string s] w (SplitPost 41 w s) := by
  obtain ⟨iS, hiS, hzS0, hzS1, hzS2⟩ := info_parts infoS
  obtain ⟨iR, hiR, hzR0, hzR1, hzR2⟩ := info_parts infoR
  obtain ⟨iB, hiB, hzB0, hzB1, hzB2⟩ := info_parts infoB
  have hle : ¬ (4194304 : Int) < (s.size : Int) := by omega
  go_enter Tryd.func10, Tryd.ntmps10
  go_wp2
  go_loopw [5, 6, 7, 8, 9, 10, 11, 12] (fun out lv wv n rem bad i _ wr => ∃ q : Nat, q ≤ s.size + 1 ∧ i = .int .i64 (q : Int) ∧ ((q ≤ s.size ∧ ∃ n' a b lo M, n = .int .i64 ((n' : Nat) : Int) ∧ rem = .bool (rrun b).rem ∧ bad = .bool (rrun b).bad ∧ RSt w wr s q out lv wv n' a b lo M) ∨ (q = s.size + 1 ∧ ∃ lo, FSt w wr s out lo))) (fun _ _ _ _ _ _ i _ _ => s.size + 1 - (intOf i).toNat)
  case atStart => exact ⟨0, Nat.zero_le _, rfl, .inl ⟨Nat.zero_le _, 1, [], [], [], w.heap.size, rfl, rfl, rfl, ⟨Below.refl _ _, rfl, rfl, rfl, Nat.le_refl _, Nat.le_refl _, LineU.nil, WordRow.nil, World.ownsRow_nil _ _ _ _, Nat.le_refl _, Nat.le_refl _⟩⟩⟩
  case round =>
    obtain ⟨q, hq, rfl, ⟨hq2, n', a, b, lo, M, rfl, rfl, rfl, hW⟩ | ⟨rfl, lo, hW⟩⟩ := hrel
    rotate_left
    · obtain ⟨pu, cu, rfl⟩ := hW.o.slice
      have hP : SplitPost 41 w s (.returned (.tuple #[.slice pu lo.length cu, .int .i64 0, .int .i64 0])) wr := by
        refine ⟨hW.bl, ?_⟩
        rw [hW.g]
        exact ⟨_, rfl, hW.o⟩
      have hlt : (s.size : Int) < (s.size : Int) + 1 := by omega
      clear hW
      go_wp2
      go_ret3
      exact hP
    have hB := hW.bl
    have hS := hW.sp
    have hg := hW.g
    have hM1 := hW.M1
    have hM2 := hW.M2
    have hrowO := hW.o
    have hrowL := hW.l
    have hownB := hW.w
    have hn1 := hW.n1
    have hn2 := hW.n2
    obtain rfl := hW.n
    obtain ⟨pu, cu, rfl⟩ := hrowO.row.slice
    obtain ⟨pl, cl, rfl⟩ := hrowL.slice
    obtain ⟨pb, cb, rfl⟩ := own_sl hownB
    have hrl := rlen b
    clear hW
    rcases hrm : rrun b with ⟨lw, ww, rem, bad⟩
    rw [hrm] at hrowL hownB hrl
    dsimp only at hrowL hownB hrl ⊢
    obtain ⟨hrl1, hrl2⟩ := hrl
    have hlw4 : lw.length ≤ 4194304 := by omega
    have hww4 : ww.length ≤ 4194304 := by omega
    have hlo4 : lo.length ≤ 4194304 := by omega
    clear hrl1
    by_cases hqs : q = s.size
    · have hsp : splitNL s.data.toList = a ++ [b] := by rw [← hS]; rw [List.take_of_length_le (by simp; omega)]
      have hfin : ∀ l2, goL 1 (a ++ [b]) = .inl l2 → linesOf s.data.toList = .inl l2 := fun l2 h => by unfold linesOf; rw [hsp]; exact h
      have hstop : bad = true → ∀ wx, Below w.heap.size w wx → SplitPost 41 w s (.returned (.tuple #[.slice none 0 0, .int .i64 ((a.length : Int) + 1), .int .i64 3])) wx := fun h wx hb => by
        refine ⟨hb, ?_⟩
        unfold linesOf
        rw [hsp, goL_stop b [] hg (by rw [hrm]; exact h)]
        rfl
      have hgo0 := goL_snoc b hg
      rw [hrm] at hgo0
      dsimp only at hgo0
      clear hsp hS hg
      subst hqs
      clear hrm
      cases bad
      · have hgo := hgo0 rfl
        clear hgo0 hstop
        by_cases hww : ww = []
        · have hwl : ww.length = 0 := by rw [hww]; rfl
          by_cases hll : lw = []
          · have hlw : lw.length = 0 := by rw [hll]; rfl
            have hgo1 : goL 1 (a ++ [b]) = .inl lo := by rw [hgo, if_pos (by rw [hww, hll]; rfl)]
            have hF : FSt w wr s (.slice pu lo.length cu) lo := ⟨hB, hfin _ hgo1, hrowO.row⟩
            clear hrowL hrowO hownB hB hgo hgo1 hll hww hfin
            go_wp2
            go_roundw
            case rel => exact ⟨s.size + 1, by omega, by go_num, .inr ⟨by omega, _, hF⟩⟩
            case measure => dsimp only [intOf]; omega
          · have hlw : 0 < (lw.length : Int) := by have := List.length_pos_iff.2 hll; omega
            have hgo1 : goL 1 (a ++ [b]) = .inl (lo ++ [(a.length + 1, lw)]) := by rw [hgo, if_neg (by rw [hww, fl_nil]; exact hll), hww, fl_nil]
            obtain ⟨xs, hownO, hputO⟩ := hrowO.row.row (by decide)
            have hrowW := hrowL
            clear hrowL hrowO hownB hgo hll hww
            go_wp2_with (at_builtin; refine wpList_append_own _ rfl _ _ 26 rfl w.heap.size 41 iR _ 2 32 Tryd.underlying26 hiR hzR0 hzR1 hzR2 rfl (by decide) _ _ _ rfl (hownO.alloc _) ⟨wr.heap.size, 0, none⟩ 1 1 [.int .i64 ((a.length : Int) + 1), .slice pl lw.length cl] rfl rfl (line_news _ _ _) (line_one _) ?e1 ?e2 ?e3 ?_)
            case e1 => have : (4194309 : Nat) ≤ maxLen := by unfold maxLen; omega
                       omega
            case e2 => omega
            case e3 => have h1 := hB.size
                       simp; omega
            intro v4 w4 hown4 hg4 _
            have hr4 := hputO w4 v4 _ (a.length + 1) _ _ (hrowW.mono hM1) hg4 hown4
            have hB4 : Below w.heap.size w w4 := (hB.alloc hB.size _).grown hg4 (by have := hB.size; simp; omega) fun g e => (hownO.lt g e).1
            obtain ⟨pu4, cu4, rfl⟩ := own_sl hown4
            have hF : FSt w w4 s (.slice pu4 (lo.length + 1) cu4) (lo ++ [(a.length + 1, lw)]) := ⟨hB4, hfin _ hgo1, hr4⟩
            clear hr4 hB4 hown4 hg4 hputO hownO hrowW hB hgo1 hfin
            go_wp2
            go_roundw
            case rel => exact ⟨s.size + 1, by omega, by go_num, .inr ⟨by omega, _, hF⟩⟩
            case measure => dsimp only [intOf]; omega
        · have hwl : 0 < (ww.length : Int) := by have := List.length_pos_iff.2 hww; omega
          have hgo1 : goL 1 (a ++ [b]) = .inl (lo ++ [(a.length + 1, lw ++ [ww])]) := by rw [hgo, if_neg (by rw [fl_cons _ hww]; simp), fl_cons _ hww]
          have hrun := run_string_own (P := Tryd.prog) (dst := 9) Tryd.underlying48 Tryd.underlying5 Tryd.underlying9 hownB
          obtain ⟨ys, hownL, hputL⟩ := hrowL.row
          clear hrowL hgo hww
          go_wp2_with (at_builtin; refine wpList_append_own _ rfl _ _ 38 rfl M 9 iS _ 1 16 Tryd.underlying38 hiS hzS0 hzS1 hzS2 rfl (by decide) _ _ _ rfl (hownL.alloc _) ⟨wr.heap.size, 0, none⟩ 1 1 [.string ⟨ww.toArray⟩] rfl rfl (str_news _ _) (str_one _) ?d1 ?d2 ?d3 ?_)
          case d1 => have : (4194309 : Nat) ≤ maxLen := by unfold maxLen; omega
                     omega
          case d2 => omega
          case d3 => simp; omega
          intro v2 w2 hown2 hg2 _
          have hrowW := hputL w2 v2 _ ww rfl hown2
          have hrowO2 := (hrowO.next ((Below.refl wr.heap.size wr).alloc (Nat.le_refl _) _) (Nat.le_refl _)).grownW (by decide) (hownL.alloc _) hg2
          have hBx : Below w.heap.size w w2 := (hB.alloc hB.size _).grown hg2 (by have := hB.size; simp; omega) fun g e => Nat.le_trans hM1 (hownL.lt g e).1
          obtain ⟨pl2, cl2, rfl⟩ := own_sl hown2
          have hM3 : M ≤ w2.heap.size := Nat.le_trans hM2 (Nat.le_trans (Nat.le_succ _) (by have := hg2.size; simpa using this))
          clear hputL hownL hown2 hg2 hrowO hownB hrun
          obtain ⟨xs, hownO, hputO⟩ := hrowO2.row.row (by decide)
          clear hrowO2
          go_wp2_with (at_builtin; refine wpList_append_own _ rfl _ _ 26 rfl w.heap.size 41 iR _ 2 32 Tryd.underlying26 hiR hzR0 hzR1 hzR2 rfl (by decide) _ _ _ rfl (hownO.alloc _) ⟨w2.heap.size, 0, none⟩ 1 1 [.int .i64 ((a.length : Int) + 1), .slice pl2 (lw.length + 1) cl2] rfl rfl (line_news _ _ _) (line_one _) ?e1 ?e2 ?e3 ?_)
          case e1 => have : (4194309 : Nat) ≤ maxLen := by unfold maxLen; omega
                     omega
          case e2 => omega
          case e3 => have h1 := hB.size
                     have h2 := hBx.size
                     simp; omega
          intro v4 w4 hown4 hg4 _
          have hr4 := hputO w4 v4 _ (a.length + 1) _ _ (hrowW.mono hM1) hg4 hown4
          have hB4 : Below w.heap.size w w4 := (hBx.alloc hBx.size _).grown hg4 (by have := hBx.size; simp; omega) fun g e => (hownO.lt g e).1
          obtain ⟨pu4, cu4, rfl⟩ := own_sl hown4
          have hF : FSt w w4 s (.slice pu4 (lo.length + 1) cu4) (lo ++ [(a.length + 1, lw ++ [ww])]) := ⟨hB4, hfin _ hgo1, hr4⟩
          clear hr4 hB4 hown4 hg4 hputO hownO hrowW hB hgo1 hfin hBx
          go_wp2
          go_roundw
          case rel => exact ⟨s.size + 1, by omega, by go_num, .inr ⟨by omega, _, hF⟩⟩
          case measure => dsimp only [intOf]; omega
      · have hP := hstop rfl
        clear hgo0 hstop hfin
        by_cases hww : ww = []
        · have hwl : ww.length = 0 := by rw [hww]; rfl
          have hP1 := hP wr hB
          clear hrowL hrowO hownB hB hww hP
          go_wp2
          go_ret3
          exact hP1
        · have hwl : 0 < (ww.length : Int) := by have := List.length_pos_iff.2 hww; omega
          have hrun := run_string_own (P := Tryd.prog) (dst := 9) Tryd.underlying48 Tryd.underlying5 Tryd.underlying9 hownB
          obtain ⟨ys, hownL, hputL⟩ := hrowL.row
          clear hrowL hww
          go_wp2_with (at_builtin; refine wpList_append_own _ rfl _ _ 38 rfl M 9 iS _ 1 16 Tryd.underlying38 hiS hzS0 hzS1 hzS2 rfl (by decide) _ _ _ rfl (hownL.alloc _) ⟨wr.heap.size, 0, none⟩ 1 1 [.string ⟨ww.toArray⟩] rfl rfl (str_news _ _) (str_one _) ?d1 ?d2 ?d3 ?_)
          case d1 => have : (4194309 : Nat) ≤ maxLen := by unfold maxLen; omega
                     omega
          case d2 => omega
          case d3 => simp; omega
          intro v2 w2 hown2 hg2 _
          have hrowW := hputL w2 v2 _ ww rfl hown2
          have hrowO2 := (hrowO.next ((Below.refl wr.heap.size wr).alloc (Nat.le_refl _) _) (Nat.le_refl _)).grownW (by decide) (hownL.alloc _) hg2
          have hBx : Below w.heap.size w w2 := (hB.alloc hB.size _).grown hg2 (by have := hB.size; simp; omega) fun g e => Nat.le_trans hM1 (hownL.lt g e).1
          obtain ⟨pl2, cl2, rfl⟩ := own_sl hown2
          have hM3 : M ≤ w2.heap.size := Nat.le_trans hM2 (Nat.le_trans (Nat.le_succ _) (by have := hg2.size; simpa using this))
          clear hputL hownL hown2 hg2 hrowO hownB hrun
          have hP1 := hP w2 hBx
          clear hrowO2 hBx hB hrowW hP
          go_wp2
          go_ret3
          exact hP1
    · have hlt : q < s.size := by omega
      have hc := take_snoc s q hlt
      generalize hcc : s[q] = c at hc
      have hcell : s[q] = c := hcc
      clear hcc
      have hqI : ¬ (q : Int) = (s.size : Int) := by omega
      have hqB : ((q : Int) == (s.size : Int)) = false := by simpa using hqI
      by_cases h10 : c = 10
      · subst h10
        have hc10 : (((10 : UInt8).toNat : Nat) : Int) = 10 := rfl
        have hsp : splitNL (s.data.toList.take (q + 1)) = (a ++ [b]) ++ [[]] := by rw [hc, splitNL_nl, hS]; rfl
        have hall : splitNL s.data.toList = a ++ b :: splitNL (s.data.toList.drop (q + 1)) := by
          have h4 := (List.take_append_drop (q + 1) s.data.toList).symm
          rw [hc, List.append_assoc] at h4
          generalize s.data.toList.drop (q + 1) = r at h4 ⊢
          rw [h4, List.singleton_append, splitNL_nl, hS, List.append_assoc]
          simp
        have hstop : bad = true → ∀ wx, Below w.heap.size w wx → SplitPost 41 w s (.returned (.tuple #[.slice none 0 0, .int .i64 ((a.length : Int) + 1), .int .i64 3])) wx := fun h wx hb => by
          refine ⟨hb, ?_⟩
          unfold linesOf
          rw [hall, goL_stop b _ hg (by rw [hrm]; exact h)]
          rfl
        have hgo0 := goL_snoc b hg
        rw [hrm] at hgo0
        dsimp only at hgo0
        clear hall hS hg hc
        clear hrm
        cases bad
        · have hgo := hgo0 rfl
          clear hgo0 hstop
          by_cases hww : ww = []
          · have hwl : ww.length = 0 := by rw [hww]; rfl
            by_cases hll : lw = []
            · have hlw : lw.length = 0 := by rw [hll]; rfl
              have hgo1 : goL 1 (a ++ [b]) = .inl lo := by rw [hgo, if_pos (by rw [hww, hll]; rfl)]
              have hF : RSt w wr s (q + 1) (.slice pu lo.length cu) (.slice none 0 0) (.slice none 0 0) (a.length + 1 + 1) (a ++ [b]) [] lo wr.heap.size := ⟨hB, hsp, hgo1, by simp, hB.size, Nat.le_refl _, (hrowO.row).toU, WordRow.nil, World.ownsRow_nil _ _ _ _, by simp; omega, by simp; omega⟩
              clear hrowL hrowO hownB hB hgo hgo1 hll hww hsp
              go_wp2
              go_roundw
              case rel => exact ⟨q + 1, by omega, by go_num, .inl ⟨by omega, a.length + 1 + 1, a ++ [b], [], _, _, rfl, rfl, rfl, hF⟩⟩
              case measure => dsimp only [intOf]; omega
            · have hlw : 0 < (lw.length : Int) := by have := List.length_pos_iff.2 hll; omega
              have hgo1 : goL 1 (a ++ [b]) = .inl (lo ++ [(a.length + 1, lw)]) := by rw [hgo, if_neg (by rw [hww, fl_nil]; exact hll), hww, fl_nil]
              obtain ⟨xs, hownO, hputO⟩ := hrowO.row.row (by decide)
              have hrowW := hrowL
              clear hrowL hrowO hownB hgo hll hww
              go_wp2_with (at_builtin; refine wpList_append_own _ rfl _ _ 26 rfl w.heap.size 41 iR _ 2 32 Tryd.underlying26 hiR hzR0 hzR1 hzR2 rfl (by decide) _ _ _ rfl (hownO.alloc _) ⟨wr.heap.size, 0, none⟩ 1 1 [.int .i64 ((a.length : Int) + 1), .slice pl lw.length cl] rfl rfl (line_news _ _ _) (line_one _) ?e1 ?e2 ?e3 ?_)
              case e1 => have : (4194309 : Nat) ≤ maxLen := by unfold maxLen; omega
                         omega
              case e2 => omega
              case e3 => have h1 := hB.size
                         simp; omega
              intro v4 w4 hown4 hg4 _
              have hr4 := hputO w4 v4 _ (a.length + 1) _ _ (hrowW.mono hM1) hg4 hown4
              have hB4 : Below w.heap.size w w4 := (hB.alloc hB.size _).grown hg4 (by have := hB.size; simp; omega) fun g e => (hownO.lt g e).1
              obtain ⟨pu4, cu4, rfl⟩ := own_sl hown4
              have hF : RSt w w4 s (q + 1) (.slice pu4 (lo.length + 1) cu4) (.slice none 0 0) (.slice none 0 0) (a.length + 1 + 1) (a ++ [b]) [] (lo ++ [(a.length + 1, lw)]) w4.heap.size := ⟨hB4, hsp, hgo1, by simp, hB4.size, Nat.le_refl _, (hr4).toU, WordRow.nil, World.ownsRow_nil _ _ _ _, by simp; omega, by simp; omega⟩
              clear hr4 hB4 hown4 hg4 hputO hownO hrowW hB hgo1 hsp
              go_wp2
              go_roundw
              case rel => exact ⟨q + 1, by omega, by go_num, .inl ⟨by omega, a.length + 1 + 1, a ++ [b], [], _, _, rfl, rfl, rfl, hF⟩⟩
              case measure => dsimp only [intOf]; omega
          · have hwl : 0 < (ww.length : Int) := by have := List.length_pos_iff.2 hww; omega
            have hgo1 : goL 1 (a ++ [b]) = .inl (lo ++ [(a.length + 1, lw ++ [ww])]) := by rw [hgo, if_neg (by rw [fl_cons _ hww]; simp), fl_cons _ hww]
            have hrun := run_string_own (P := Tryd.prog) (dst := 9) Tryd.underlying48 Tryd.underlying5 Tryd.underlying9 hownB
            obtain ⟨ys, hownL, hputL⟩ := hrowL.row
            clear hrowL hgo hww
            go_wp2_with (at_builtin; refine wpList_append_own _ rfl _ _ 38 rfl M 9 iS _ 1 16 Tryd.underlying38 hiS hzS0 hzS1 hzS2 rfl (by decide) _ _ _ rfl (hownL.alloc _) ⟨wr.heap.size, 0, none⟩ 1 1 [.string ⟨ww.toArray⟩] rfl rfl (str_news _ _) (str_one _) ?d1 ?d2 ?d3 ?_)
            case d1 => have : (4194309 : Nat) ≤ maxLen := by unfold maxLen; omega
                       omega
            case d2 => omega
            case d3 => simp; omega
            intro v2 w2 hown2 hg2 _
            have hrowW := hputL w2 v2 _ ww rfl hown2
            have hrowO2 := (hrowO.next ((Below.refl wr.heap.size wr).alloc (Nat.le_refl _) _) (Nat.le_refl _)).grownW (by decide) (hownL.alloc _) hg2
            have hBx : Below w.heap.size w w2 := (hB.alloc hB.size _).grown hg2 (by have := hB.size; simp; omega) fun g e => Nat.le_trans hM1 (hownL.lt g e).1
            obtain ⟨pl2, cl2, rfl⟩ := own_sl hown2
            have hM3 : M ≤ w2.heap.size := Nat.le_trans hM2 (Nat.le_trans (Nat.le_succ _) (by have := hg2.size; simpa using this))
            clear hputL hownL hown2 hg2 hrowO hownB hrun
            obtain ⟨xs, hownO, hputO⟩ := hrowO2.row.row (by decide)
            clear hrowO2
            go_wp2_with (at_builtin; refine wpList_append_own _ rfl _ _ 26 rfl w.heap.size 41 iR _ 2 32 Tryd.underlying26 hiR hzR0 hzR1 hzR2 rfl (by decide) _ _ _ rfl (hownO.alloc _) ⟨w2.heap.size, 0, none⟩ 1 1 [.int .i64 ((a.length : Int) + 1), .slice pl2 (lw.length + 1) cl2] rfl rfl (line_news _ _ _) (line_one _) ?e1 ?e2 ?e3 ?_)
            case e1 => have : (4194309 : Nat) ≤ maxLen := by unfold maxLen; omega
                       omega
            case e2 => omega
            case e3 => have h1 := hB.size
                       have h2 := hBx.size
                       simp; omega
            intro v4 w4 hown4 hg4 _
            have hr4 := hputO w4 v4 _ (a.length + 1) _ _ (hrowW.mono hM1) hg4 hown4
            have hB4 : Below w.heap.size w w4 := (hBx.alloc hBx.size _).grown hg4 (by have := hBx.size; simp; omega) fun g e => (hownO.lt g e).1
            obtain ⟨pu4, cu4, rfl⟩ := own_sl hown4
            have hF : RSt w w4 s (q + 1) (.slice pu4 (lo.length + 1) cu4) (.slice none 0 0) (.slice none 0 0) (a.length + 1 + 1) (a ++ [b]) [] (lo ++ [(a.length + 1, lw ++ [ww])]) w4.heap.size := ⟨hB4, hsp, hgo1, by simp, hB4.size, Nat.le_refl _, (hr4).toU, WordRow.nil, World.ownsRow_nil _ _ _ _, by simp; omega, by simp; omega⟩
            clear hr4 hB4 hown4 hg4 hputO hownO hrowW hB hgo1 hsp hBx
            go_wp2
            go_roundw
            case rel => exact ⟨q + 1, by omega, by go_num, .inl ⟨by omega, a.length + 1 + 1, a ++ [b], [], _, _, rfl, rfl, rfl, hF⟩⟩
            case measure => dsimp only [intOf]; omega
        · have hP := hstop rfl
          clear hgo0 hstop hsp
          by_cases hww : ww = []
          · have hwl : ww.length = 0 := by rw [hww]; rfl
            have hP1 := hP wr hB
            clear hrowL hrowO hownB hB hww hP
            go_wp2
            go_ret3
            exact hP1
          · have hwl : 0 < (ww.length : Int) := by have := List.length_pos_iff.2 hww; omega
            have hrun := run_string_own (P := Tryd.prog) (dst := 9) Tryd.underlying48 Tryd.underlying5 Tryd.underlying9 hownB
            obtain ⟨ys, hownL, hputL⟩ := hrowL.row
            clear hrowL hww
            go_wp2_with (at_builtin; refine wpList_append_own _ rfl _ _ 38 rfl M 9 iS _ 1 16 Tryd.underlying38 hiS hzS0 hzS1 hzS2 rfl (by decide) _ _ _ rfl (hownL.alloc _) ⟨wr.heap.size, 0, none⟩ 1 1 [.string ⟨ww.toArray⟩] rfl rfl (str_news _ _) (str_one _) ?d1 ?d2 ?d3 ?_)
            case d1 => have : (4194309 : Nat) ≤ maxLen := by unfold maxLen; omega
                       omega
            case d2 => omega
            case d3 => simp; omega
            intro v2 w2 hown2 hg2 _
            have hrowW := hputL w2 v2 _ ww rfl hown2
            have hrowO2 := (hrowO.next ((Below.refl wr.heap.size wr).alloc (Nat.le_refl _) _) (Nat.le_refl _)).grownW (by decide) (hownL.alloc _) hg2
            have hBx : Below w.heap.size w w2 := (hB.alloc hB.size _).grown hg2 (by have := hB.size; simp; omega) fun g e => Nat.le_trans hM1 (hownL.lt g e).1
            obtain ⟨pl2, cl2, rfl⟩ := own_sl hown2
            have hM3 : M ≤ w2.heap.size := Nat.le_trans hM2 (Nat.le_trans (Nat.le_succ _) (by have := hg2.size; simpa using this))
            clear hputL hownL hown2 hg2 hrowO hownB hrun
            have hP1 := hP w2 hBx
            clear hrowO2 hBx hB hrowW hP
            go_wp2
            go_ret3
            exact hP1
      · have hc10 : ¬ (c.toNat : Int) = 10 := fun e => h10 (UInt8.toNat_inj.1 (by show c.toNat = 10; omega))
        have hb10 : ((c.toNat : Int) == 10) = false := by simpa using hc10
        have hsp : splitNL (s.data.toList.take (q + 1)) = a ++ [b ++ [c]] := by
          obtain ⟨a', b', e1, e2⟩ := splitNL_last (s.data.toList.take q) [c] (fun x hx => by rw [List.mem_singleton.1 hx]; exact h10)
          rw [hS] at e1
          obtain ⟨e3, e4⟩ := List.append_inj' e1 rfl
          have e4 : b = b' := by simpa using e4
          subst e3 e4
          rw [hc, e2]
        have hnx : rrun (b ++ [c]) = rstp (rrun b) c := rrun_snoc b c
        rw [hrm] at hnx
        clear hS hc h10
        cases rem
        · by_cases h59 : c = 59
          · subst h59
            have hc59 : (((59 : UInt8).toNat : Nat) : Int) = 59 := rfl
            · have hx : rrun (b ++ [(59 : UInt8)]) = ⟨fl lw ww, [], true, bad⟩ := by rw [hnx]; simp [rstp]
              clear hnx
              by_cases hww : ww = []
              · have hwl : ww.length = 0 := by rw [hww]; rfl
                have hF : RSt w wr s (q + 1) (.slice pu lo.length cu) (.slice pl lw.length cl) (.slice none 0 0) (a.length + 1) a (b ++ [(59 : UInt8)]) lo M := ⟨hB, hsp, hg, rfl, hM1, hM2, hrowO, by rw [hx]; dsimp only; rw [hww, fl_nil]; exact hrowL, by rw [hx]; exact World.ownsRow_nil _ _ _ _, hn1, by simp; omega⟩
                have hbr : (rrun (b ++ [(59 : UInt8)])).rem = true ∧ (rrun (b ++ [(59 : UInt8)])).bad = bad := by rw [hx]; exact ⟨rfl, rfl⟩
                clear hx hrowL hrowO hownB hB hww hsp hg
                go_wp2
                go_roundw
                case rel => exact ⟨q + 1, by omega, by go_num, .inl ⟨by omega, a.length + 1, a, b ++ [(59 : UInt8)], _, _, rfl, by rw [hbr.1], by rw [hbr.2], hF⟩⟩
                case measure => dsimp only [intOf]; omega
              · have hwl : 0 < (ww.length : Int) := by have := List.length_pos_iff.2 hww; omega
                have hrun := run_string_own (P := Tryd.prog) (dst := 9) Tryd.underlying48 Tryd.underlying5 Tryd.underlying9 hownB
                obtain ⟨ys, hownL, hputL⟩ := hrowL.row
                rw [fl_cons _ hww] at hx
                have hbr : (rrun (b ++ [(59 : UInt8)])).rem = true ∧ (rrun (b ++ [(59 : UInt8)])).bad = bad := by rw [hx]; exact ⟨rfl, rfl⟩
                clear hrowL hww
                go_wp2_with (at_builtin; refine wpList_append_own _ rfl _ _ 38 rfl M 9 iS _ 1 16 Tryd.underlying38 hiS hzS0 hzS1 hzS2 rfl (by decide) _ _ _ rfl (hownL.alloc _) ⟨wr.heap.size, 0, none⟩ 1 1 [.string ⟨ww.toArray⟩] rfl rfl (str_news _ _) (str_one _) ?d1 ?d2 ?d3 ?_)
                case d1 => have : (4194309 : Nat) ≤ maxLen := by unfold maxLen; omega
                           omega
                case d2 => omega
                case d3 => simp; omega
                intro v2 w2 hown2 hg2 _
                have hrowW := hputL w2 v2 _ ww rfl hown2
                have hrowO2 := (hrowO.next ((Below.refl wr.heap.size wr).alloc (Nat.le_refl _) _) (Nat.le_refl _)).grownW (by decide) (hownL.alloc _) hg2
                have hBx : Below w.heap.size w w2 := (hB.alloc hB.size _).grown hg2 (by have := hB.size; simp; omega) fun g e => Nat.le_trans hM1 (hownL.lt g e).1
                obtain ⟨pl2, cl2, rfl⟩ := own_sl hown2
                have hM3 : M ≤ w2.heap.size := Nat.le_trans hM2 (Nat.le_trans (Nat.le_succ _) (by have := hg2.size; simpa using this))
                clear hputL hownL hown2 hg2 hrowO hownB hrun
                have hF : RSt w w2 s (q + 1) (.slice pu lo.length cu) (.slice pl2 (lw.length + 1) cl2) (.slice none 0 0) (a.length + 1) a (b ++ [(59 : UInt8)]) lo M := ⟨hBx, hsp, hg, rfl, hM1, hM3, hrowO2, by rw [hx]; exact hrowW, by rw [hx]; exact World.ownsRow_nil _ _ _ _, hn1, by simp; omega⟩
                clear hx hrowW hrowO2 hB hBx hsp hg
                go_wp2
                go_roundw
                case rel => exact ⟨q + 1, by omega, by go_num, .inl ⟨by omega, a.length + 1, a, b ++ [(59 : UInt8)], _, _, rfl, by rw [hbr.1], by rw [hbr.2], hF⟩⟩
                case measure => dsimp only [intOf]; omega
          · have hc59 : ¬ (c.toNat : Int) = 59 := fun e => h59 (UInt8.toNat_inj.1 (by show c.toNat = 59; omega))
            have hb59 : ((c.toNat : Int) == 59) = false := by simpa using hc59
            have h59' : (c == 59) = false := by simpa using h59
            by_cases h32 : c = 32
            · subst h32
              have hc32 : (((32 : UInt8).toNat : Nat) : Int) = 32 := rfl
              · have hx : rrun (b ++ [(32 : UInt8)]) = ⟨fl lw ww, [], false, bad⟩ := by rw [hnx]; simp [rstp, isBl]
                clear hnx
                by_cases hww : ww = []
                · have hwl : ww.length = 0 := by rw [hww]; rfl
                  have hF : RSt w wr s (q + 1) (.slice pu lo.length cu) (.slice pl lw.length cl) (.slice none 0 0) (a.length + 1) a (b ++ [(32 : UInt8)]) lo M := ⟨hB, hsp, hg, rfl, hM1, hM2, hrowO, by rw [hx]; dsimp only; rw [hww, fl_nil]; exact hrowL, by rw [hx]; exact World.ownsRow_nil _ _ _ _, hn1, by simp; omega⟩
                  have hbr : (rrun (b ++ [(32 : UInt8)])).rem = false ∧ (rrun (b ++ [(32 : UInt8)])).bad = bad := by rw [hx]; exact ⟨rfl, rfl⟩
                  clear hx hrowL hrowO hownB hB hww hsp hg
                  go_wp2
                  go_roundw
                  case rel => exact ⟨q + 1, by omega, by go_num, .inl ⟨by omega, a.length + 1, a, b ++ [(32 : UInt8)], _, _, rfl, by rw [hbr.1], by rw [hbr.2], hF⟩⟩
                  case measure => dsimp only [intOf]; omega
                · have hwl : 0 < (ww.length : Int) := by have := List.length_pos_iff.2 hww; omega
                  have hrun := run_string_own (P := Tryd.prog) (dst := 9) Tryd.underlying48 Tryd.underlying5 Tryd.underlying9 hownB
                  obtain ⟨ys, hownL, hputL⟩ := hrowL.row
                  rw [fl_cons _ hww] at hx
                  have hbr : (rrun (b ++ [(32 : UInt8)])).rem = false ∧ (rrun (b ++ [(32 : UInt8)])).bad = bad := by rw [hx]; exact ⟨rfl, rfl⟩
                  clear hrowL hww
                  go_wp2_with (at_builtin; refine wpList_append_own _ rfl _ _ 38 rfl M 9 iS _ 1 16 Tryd.underlying38 hiS hzS0 hzS1 hzS2 rfl (by decide) _ _ _ rfl (hownL.alloc _) ⟨wr.heap.size, 0, none⟩ 1 1 [.string ⟨ww.toArray⟩] rfl rfl (str_news _ _) (str_one _) ?d1 ?d2 ?d3 ?_)
                  case d1 => have : (4194309 : Nat) ≤ maxLen := by unfold maxLen; omega
                             omega
                  case d2 => omega
                  case d3 => simp; omega
                  intro v2 w2 hown2 hg2 _
                  have hrowW := hputL w2 v2 _ ww rfl hown2
                  have hrowO2 := (hrowO.next ((Below.refl wr.heap.size wr).alloc (Nat.le_refl _) _) (Nat.le_refl _)).grownW (by decide) (hownL.alloc _) hg2
                  have hBx : Below w.heap.size w w2 := (hB.alloc hB.size _).grown hg2 (by have := hB.size; simp; omega) fun g e => Nat.le_trans hM1 (hownL.lt g e).1
                  obtain ⟨pl2, cl2, rfl⟩ := own_sl hown2
                  have hM3 : M ≤ w2.heap.size := Nat.le_trans hM2 (Nat.le_trans (Nat.le_succ _) (by have := hg2.size; simpa using this))
                  clear hputL hownL hown2 hg2 hrowO hownB hrun
                  have hF : RSt w w2 s (q + 1) (.slice pu lo.length cu) (.slice pl2 (lw.length + 1) cl2) (.slice none 0 0) (a.length + 1) a (b ++ [(32 : UInt8)]) lo M := ⟨hBx, hsp, hg, rfl, hM1, hM3, hrowO2, by rw [hx]; exact hrowW, by rw [hx]; exact World.ownsRow_nil _ _ _ _, hn1, by simp; omega⟩
                  clear hx hrowW hrowO2 hB hBx hsp hg
                  go_wp2
                  go_roundw
                  case rel => exact ⟨q + 1, by omega, by go_num, .inl ⟨by omega, a.length + 1, a, b ++ [(32 : UInt8)], _, _, rfl, by rw [hbr.1], by rw [hbr.2], hF⟩⟩
                  case measure => dsimp only [intOf]; omega
            · have hc32 : ¬ (c.toNat : Int) = 32 := fun e => h32 (UInt8.toNat_inj.1 (by show c.toNat = 32; omega))
              have hb32 : ((c.toNat : Int) == 32) = false := by simpa using hc32
              by_cases h9 : c = 9
              · subst h9
                have hc9 : (((9 : UInt8).toNat : Nat) : Int) = 9 := rfl
                · have hx : rrun (b ++ [(9 : UInt8)]) = ⟨fl lw ww, [], false, bad⟩ := by rw [hnx]; simp [rstp, isBl]
                  clear hnx
                  by_cases hww : ww = []
                  · have hwl : ww.length = 0 := by rw [hww]; rfl
                    have hF : RSt w wr s (q + 1) (.slice pu lo.length cu) (.slice pl lw.length cl) (.slice none 0 0) (a.length + 1) a (b ++ [(9 : UInt8)]) lo M := ⟨hB, hsp, hg, rfl, hM1, hM2, hrowO, by rw [hx]; dsimp only; rw [hww, fl_nil]; exact hrowL, by rw [hx]; exact World.ownsRow_nil _ _ _ _, hn1, by simp; omega⟩
                    have hbr : (rrun (b ++ [(9 : UInt8)])).rem = false ∧ (rrun (b ++ [(9 : UInt8)])).bad = bad := by rw [hx]; exact ⟨rfl, rfl⟩
                    clear hx hrowL hrowO hownB hB hww hsp hg
                    go_wp2
                    go_roundw
                    case rel => exact ⟨q + 1, by omega, by go_num, .inl ⟨by omega, a.length + 1, a, b ++ [(9 : UInt8)], _, _, rfl, by rw [hbr.1], by rw [hbr.2], hF⟩⟩
                    case measure => dsimp only [intOf]; omega
                  · have hwl : 0 < (ww.length : Int) := by have := List.length_pos_iff.2 hww; omega
                    have hrun := run_string_own (P := Tryd.prog) (dst := 9) Tryd.underlying48 Tryd.underlying5 Tryd.underlying9 hownB
                    obtain ⟨ys, hownL, hputL⟩ := hrowL.row
                    rw [fl_cons _ hww] at hx
                    have hbr : (rrun (b ++ [(9 : UInt8)])).rem = false ∧ (rrun (b ++ [(9 : UInt8)])).bad = bad := by rw [hx]; exact ⟨rfl, rfl⟩
                    clear hrowL hww
                    go_wp2_with (at_builtin; refine wpList_append_own _ rfl _ _ 38 rfl M 9 iS _ 1 16 Tryd.underlying38 hiS hzS0 hzS1 hzS2 rfl (by decide) _ _ _ rfl (hownL.alloc _) ⟨wr.heap.size, 0, none⟩ 1 1 [.string ⟨ww.toArray⟩] rfl rfl (str_news _ _) (str_one _) ?d1 ?d2 ?d3 ?_)
                    case d1 => have : (4194309 : Nat) ≤ maxLen := by unfold maxLen; omega
                               omega
                    case d2 => omega
                    case d3 => simp; omega
                    intro v2 w2 hown2 hg2 _
                    have hrowW := hputL w2 v2 _ ww rfl hown2
                    have hrowO2 := (hrowO.next ((Below.refl wr.heap.size wr).alloc (Nat.le_refl _) _) (Nat.le_refl _)).grownW (by decide) (hownL.alloc _) hg2
                    have hBx : Below w.heap.size w w2 := (hB.alloc hB.size _).grown hg2 (by have := hB.size; simp; omega) fun g e => Nat.le_trans hM1 (hownL.lt g e).1
                    obtain ⟨pl2, cl2, rfl⟩ := own_sl hown2
                    have hM3 : M ≤ w2.heap.size := Nat.le_trans hM2 (Nat.le_trans (Nat.le_succ _) (by have := hg2.size; simpa using this))
                    clear hputL hownL hown2 hg2 hrowO hownB hrun
                    have hF : RSt w w2 s (q + 1) (.slice pu lo.length cu) (.slice pl2 (lw.length + 1) cl2) (.slice none 0 0) (a.length + 1) a (b ++ [(9 : UInt8)]) lo M := ⟨hBx, hsp, hg, rfl, hM1, hM3, hrowO2, by rw [hx]; exact hrowW, by rw [hx]; exact World.ownsRow_nil _ _ _ _, hn1, by simp; omega⟩
                    clear hx hrowW hrowO2 hB hBx hsp hg
                    go_wp2
                    go_roundw
                    case rel => exact ⟨q + 1, by omega, by go_num, .inl ⟨by omega, a.length + 1, a, b ++ [(9 : UInt8)], _, _, rfl, by rw [hbr.1], by rw [hbr.2], hF⟩⟩
                    case measure => dsimp only [intOf]; omega
              · have hc9 : ¬ (c.toNat : Int) = 9 := fun e => h9 (UInt8.toNat_inj.1 (by show c.toNat = 9; omega))
                have hb9 : ((c.toNat : Int) == 9) = false := by simpa using hc9
                have hbl : isBl c = false := by simp [isBl, h32, h9]
                clear h32 h9 h59
                cases bad
                · by_cases hlo : (c.toNat : Int) < 33
                  · skip
                    have hx : rrun (b ++ [c]) = ⟨lw, ww ++ [c], false, true⟩ := by rw [hnx]; simp [rstp, h59', hbl, isBad]; omega
                    have hbr : (rrun (b ++ [c])).rem = false ∧ (rrun (b ++ [c])).bad = true := by rw [hx]; exact ⟨rfl, rfl⟩
                    clear hnx
                    go_wp2_with (at_builtin; refine wpList_append_own _ rfl _ _ 48 rfl w.heap.size 5 iB _ 1 1 Tryd.underlying48 hiB hzB0 hzB1 hzB2 rfl (by decide) _ _ _ rfl (hownB.alloc _) ⟨wr.heap.size, 0, none⟩ 1 1 [byteV c] rfl rfl (byte_news _ _) (byte_one _) ?d1 ?d2 ?d3 ?_)
                    case d1 => have : (4194309 : Nat) ≤ maxLen := by unfold maxLen; omega
                               omega
                    case d2 => omega
                    case d3 => have := hB.size
                               simp; omega
                    intro v2 w2 hown2 hg2 _
                    have hBx : Below w.heap.size w w2 := (hB.alloc hB.size _).grown hg2 (by have := hB.size; simp; omega) fun g e => (hownB.lt g e).1
                    have hb0 := (Below.refl wr.heap.size wr).alloc (Nat.le_refl _) (.cells #[byteV c] 5)
                    have hM3 : M ≤ w2.heap.size := Nat.le_trans hM2 (Nat.le_trans (Nat.le_succ _) (by have := hg2.size; simpa using this))
                    have hF : RSt w w2 s (q + 1) (.slice pu lo.length cu) (.slice pl lw.length cl) v2 (a.length + 1) a (b ++ [c]) lo M := ⟨hBx, hsp, hg, rfl, hM1, hM3, (hrowO.next hb0 (Nat.le_refl _)).grownB (by decide) (hownB.alloc _) hg2, by rw [hx]; exact (hrowL.next hb0 (Nat.le_refl _)).grownB (hownB.alloc _) hg2, by rw [hx]; simpa using hown2, hn1, by simp; omega⟩
                    obtain ⟨pb2, cb2, rfl⟩ := own_sl hown2
                    clear hx hown2 hg2 hb0 hownB hrowL hrowO hB hBx hsp hg
                    go_wp2
                    go_roundw
                    case rel => exact ⟨q + 1, by omega, by go_num, .inl ⟨by omega, a.length + 1, a, b ++ [c], _, _, rfl, by rw [hbr.1], by rw [hbr.2], hF⟩⟩
                    case measure => dsimp only [intOf]; omega
                  · by_cases hhi : (126 : Int) < (c.toNat : Int)
                    · skip
                      have hx : rrun (b ++ [c]) = ⟨lw, ww ++ [c], false, true⟩ := by rw [hnx]; simp [rstp, h59', hbl, isBad]; omega
                      have hbr : (rrun (b ++ [c])).rem = false ∧ (rrun (b ++ [c])).bad = true := by rw [hx]; exact ⟨rfl, rfl⟩
                      clear hnx
                      go_wp2_with (at_builtin; refine wpList_append_own _ rfl _ _ 48 rfl w.heap.size 5 iB _ 1 1 Tryd.underlying48 hiB hzB0 hzB1 hzB2 rfl (by decide) _ _ _ rfl (hownB.alloc _) ⟨wr.heap.size, 0, none⟩ 1 1 [byteV c] rfl rfl (byte_news _ _) (byte_one _) ?d1 ?d2 ?d3 ?_)
                      case d1 => have : (4194309 : Nat) ≤ maxLen := by unfold maxLen; omega
                                 omega
                      case d2 => omega
                      case d3 => have := hB.size
                                 simp; omega
                      intro v2 w2 hown2 hg2 _
                      have hBx : Below w.heap.size w w2 := (hB.alloc hB.size _).grown hg2 (by have := hB.size; simp; omega) fun g e => (hownB.lt g e).1
                      have hb0 := (Below.refl wr.heap.size wr).alloc (Nat.le_refl _) (.cells #[byteV c] 5)
                      have hM3 : M ≤ w2.heap.size := Nat.le_trans hM2 (Nat.le_trans (Nat.le_succ _) (by have := hg2.size; simpa using this))
                      have hF : RSt w w2 s (q + 1) (.slice pu lo.length cu) (.slice pl lw.length cl) v2 (a.length + 1) a (b ++ [c]) lo M := ⟨hBx, hsp, hg, rfl, hM1, hM3, (hrowO.next hb0 (Nat.le_refl _)).grownB (by decide) (hownB.alloc _) hg2, by rw [hx]; exact (hrowL.next hb0 (Nat.le_refl _)).grownB (hownB.alloc _) hg2, by rw [hx]; simpa using hown2, hn1, by simp; omega⟩
                      obtain ⟨pb2, cb2, rfl⟩ := own_sl hown2
                      clear hx hown2 hg2 hb0 hownB hrowL hrowO hB hBx hsp hg
                      go_wp2
                      go_roundw
                      case rel => exact ⟨q + 1, by omega, by go_num, .inl ⟨by omega, a.length + 1, a, b ++ [c], _, _, rfl, by rw [hbr.1], by rw [hbr.2], hF⟩⟩
                      case measure => dsimp only [intOf]; omega
                    · skip
                      have hx : rrun (b ++ [c]) = ⟨lw, ww ++ [c], false, false⟩ := by rw [hnx]; simp [rstp, h59', hbl, isBad]; omega
                      have hbr : (rrun (b ++ [c])).rem = false ∧ (rrun (b ++ [c])).bad = false := by rw [hx]; exact ⟨rfl, rfl⟩
                      clear hnx
                      go_wp2_with (at_builtin; refine wpList_append_own _ rfl _ _ 48 rfl w.heap.size 5 iB _ 1 1 Tryd.underlying48 hiB hzB0 hzB1 hzB2 rfl (by decide) _ _ _ rfl (hownB.alloc _) ⟨wr.heap.size, 0, none⟩ 1 1 [byteV c] rfl rfl (byte_news _ _) (byte_one _) ?d1 ?d2 ?d3 ?_)
                      case d1 => have : (4194309 : Nat) ≤ maxLen := by unfold maxLen; omega
                                 omega
                      case d2 => omega
                      case d3 => have := hB.size
                                 simp; omega
                      intro v2 w2 hown2 hg2 _
                      have hBx : Below w.heap.size w w2 := (hB.alloc hB.size _).grown hg2 (by have := hB.size; simp; omega) fun g e => (hownB.lt g e).1
                      have hb0 := (Below.refl wr.heap.size wr).alloc (Nat.le_refl _) (.cells #[byteV c] 5)
                      have hM3 : M ≤ w2.heap.size := Nat.le_trans hM2 (Nat.le_trans (Nat.le_succ _) (by have := hg2.size; simpa using this))
                      have hF : RSt w w2 s (q + 1) (.slice pu lo.length cu) (.slice pl lw.length cl) v2 (a.length + 1) a (b ++ [c]) lo M := ⟨hBx, hsp, hg, rfl, hM1, hM3, (hrowO.next hb0 (Nat.le_refl _)).grownB (by decide) (hownB.alloc _) hg2, by rw [hx]; exact (hrowL.next hb0 (Nat.le_refl _)).grownB (hownB.alloc _) hg2, by rw [hx]; simpa using hown2, hn1, by simp; omega⟩
                      obtain ⟨pb2, cb2, rfl⟩ := own_sl hown2
                      clear hx hown2 hg2 hb0 hownB hrowL hrowO hB hBx hsp hg
                      go_wp2
                      go_roundw
                      case rel => exact ⟨q + 1, by omega, by go_num, .inl ⟨by omega, a.length + 1, a, b ++ [c], _, _, rfl, by rw [hbr.1], by rw [hbr.2], hF⟩⟩
                      case measure => dsimp only [intOf]; omega
                · skip
                  have hx : rrun (b ++ [c]) = ⟨lw, ww ++ [c], false, true⟩ := by rw [hnx]; simp [rstp, h59', hbl]
                  have hbr : (rrun (b ++ [c])).rem = false ∧ (rrun (b ++ [c])).bad = true := by rw [hx]; exact ⟨rfl, rfl⟩
                  clear hnx
                  go_wp2_with (at_builtin; refine wpList_append_own _ rfl _ _ 48 rfl w.heap.size 5 iB _ 1 1 Tryd.underlying48 hiB hzB0 hzB1 hzB2 rfl (by decide) _ _ _ rfl (hownB.alloc _) ⟨wr.heap.size, 0, none⟩ 1 1 [byteV c] rfl rfl (byte_news _ _) (byte_one _) ?d1 ?d2 ?d3 ?_)
                  case d1 => have : (4194309 : Nat) ≤ maxLen := by unfold maxLen; omega
                             omega
                  case d2 => omega
                  case d3 => have := hB.size
                             simp; omega
                  intro v2 w2 hown2 hg2 _
                  have hBx : Below w.heap.size w w2 := (hB.alloc hB.size _).grown hg2 (by have := hB.size; simp; omega) fun g e => (hownB.lt g e).1
                  have hb0 := (Below.refl wr.heap.size wr).alloc (Nat.le_refl _) (.cells #[byteV c] 5)
                  have hM3 : M ≤ w2.heap.size := Nat.le_trans hM2 (Nat.le_trans (Nat.le_succ _) (by have := hg2.size; simpa using this))
                  have hF : RSt w w2 s (q + 1) (.slice pu lo.length cu) (.slice pl lw.length cl) v2 (a.length + 1) a (b ++ [c]) lo M := ⟨hBx, hsp, hg, rfl, hM1, hM3, (hrowO.next hb0 (Nat.le_refl _)).grownB (by decide) (hownB.alloc _) hg2, by rw [hx]; exact (hrowL.next hb0 (Nat.le_refl _)).grownB (hownB.alloc _) hg2, by rw [hx]; simpa using hown2, hn1, by simp; omega⟩
                  obtain ⟨pb2, cb2, rfl⟩ := own_sl hown2
                  clear hx hown2 hg2 hb0 hownB hrowL hrowO hB hBx hsp hg
                  go_wp2
                  go_roundw
                  case rel => exact ⟨q + 1, by omega, by go_num, .inl ⟨by omega, a.length + 1, a, b ++ [c], _, _, rfl, by rw [hbr.1], by rw [hbr.2], hF⟩⟩
                  case measure => dsimp only [intOf]; omega
        · by_cases h59 : c = 59
          · subst h59
            have hc59 : (((59 : UInt8).toNat : Nat) : Int) = 59 := rfl
            · have hx : rrun (b ++ [(59 : UInt8)]) = ⟨fl lw ww, [], true, bad⟩ := by rw [hnx]; simp [rstp]
              clear hnx
              by_cases hww : ww = []
              · have hwl : ww.length = 0 := by rw [hww]; rfl
                have hF : RSt w wr s (q + 1) (.slice pu lo.length cu) (.slice pl lw.length cl) (.slice none 0 0) (a.length + 1) a (b ++ [(59 : UInt8)]) lo M := ⟨hB, hsp, hg, rfl, hM1, hM2, hrowO, by rw [hx]; dsimp only; rw [hww, fl_nil]; exact hrowL, by rw [hx]; exact World.ownsRow_nil _ _ _ _, hn1, by simp; omega⟩
                have hbr : (rrun (b ++ [(59 : UInt8)])).rem = true ∧ (rrun (b ++ [(59 : UInt8)])).bad = bad := by rw [hx]; exact ⟨rfl, rfl⟩
                clear hx hrowL hrowO hownB hB hww hsp hg
                go_wp2
                go_roundw
                case rel => exact ⟨q + 1, by omega, by go_num, .inl ⟨by omega, a.length + 1, a, b ++ [(59 : UInt8)], _, _, rfl, by rw [hbr.1], by rw [hbr.2], hF⟩⟩
                case measure => dsimp only [intOf]; omega
              · have hwl : 0 < (ww.length : Int) := by have := List.length_pos_iff.2 hww; omega
                have hrun := run_string_own (P := Tryd.prog) (dst := 9) Tryd.underlying48 Tryd.underlying5 Tryd.underlying9 hownB
                obtain ⟨ys, hownL, hputL⟩ := hrowL.row
                rw [fl_cons _ hww] at hx
                have hbr : (rrun (b ++ [(59 : UInt8)])).rem = true ∧ (rrun (b ++ [(59 : UInt8)])).bad = bad := by rw [hx]; exact ⟨rfl, rfl⟩
                clear hrowL hww
                go_wp2_with (at_builtin; refine wpList_append_own _ rfl _ _ 38 rfl M 9 iS _ 1 16 Tryd.underlying38 hiS hzS0 hzS1 hzS2 rfl (by decide) _ _ _ rfl (hownL.alloc _) ⟨wr.heap.size, 0, none⟩ 1 1 [.string ⟨ww.toArray⟩] rfl rfl (str_news _ _) (str_one _) ?d1 ?d2 ?d3 ?_)
                case d1 => have : (4194309 : Nat) ≤ maxLen := by unfold maxLen; omega
                           omega
                case d2 => omega
                case d3 => simp; omega
                intro v2 w2 hown2 hg2 _
                have hrowW := hputL w2 v2 _ ww rfl hown2
                have hrowO2 := (hrowO.next ((Below.refl wr.heap.size wr).alloc (Nat.le_refl _) _) (Nat.le_refl _)).grownW (by decide) (hownL.alloc _) hg2
                have hBx : Below w.heap.size w w2 := (hB.alloc hB.size _).grown hg2 (by have := hB.size; simp; omega) fun g e => Nat.le_trans hM1 (hownL.lt g e).1
                obtain ⟨pl2, cl2, rfl⟩ := own_sl hown2
                have hM3 : M ≤ w2.heap.size := Nat.le_trans hM2 (Nat.le_trans (Nat.le_succ _) (by have := hg2.size; simpa using this))
                clear hputL hownL hown2 hg2 hrowO hownB hrun
                have hF : RSt w w2 s (q + 1) (.slice pu lo.length cu) (.slice pl2 (lw.length + 1) cl2) (.slice none 0 0) (a.length + 1) a (b ++ [(59 : UInt8)]) lo M := ⟨hBx, hsp, hg, rfl, hM1, hM3, hrowO2, by rw [hx]; exact hrowW, by rw [hx]; exact World.ownsRow_nil _ _ _ _, hn1, by simp; omega⟩
                clear hx hrowW hrowO2 hB hBx hsp hg
                go_wp2
                go_roundw
                case rel => exact ⟨q + 1, by omega, by go_num, .inl ⟨by omega, a.length + 1, a, b ++ [(59 : UInt8)], _, _, rfl, by rw [hbr.1], by rw [hbr.2], hF⟩⟩
                case measure => dsimp only [intOf]; omega
          · have hc59 : ¬ (c.toNat : Int) = 59 := fun e => h59 (UInt8.toNat_inj.1 (by show c.toNat = 59; omega))
            have hb59 : ((c.toNat : Int) == 59) = false := by simpa using hc59
            clear h59
            · have hx : rrun (b ++ [c]) = ⟨fl lw ww, [], true, bad⟩ := by rw [hnx]; simp [rstp]
              clear hnx
              by_cases hww : ww = []
              · have hwl : ww.length = 0 := by rw [hww]; rfl
                have hF : RSt w wr s (q + 1) (.slice pu lo.length cu) (.slice pl lw.length cl) (.slice none 0 0) (a.length + 1) a (b ++ [c]) lo M := ⟨hB, hsp, hg, rfl, hM1, hM2, hrowO, by rw [hx]; dsimp only; rw [hww, fl_nil]; exact hrowL, by rw [hx]; exact World.ownsRow_nil _ _ _ _, hn1, by simp; omega⟩
                have hbr : (rrun (b ++ [c])).rem = true ∧ (rrun (b ++ [c])).bad = bad := by rw [hx]; exact ⟨rfl, rfl⟩
                clear hx hrowL hrowO hownB hB hww hsp hg
                go_wp2
                go_roundw
                case rel => exact ⟨q + 1, by omega, by go_num, .inl ⟨by omega, a.length + 1, a, b ++ [c], _, _, rfl, by rw [hbr.1], by rw [hbr.2], hF⟩⟩
                case measure => dsimp only [intOf]; omega
              · have hwl : 0 < (ww.length : Int) := by have := List.length_pos_iff.2 hww; omega
                have hrun := run_string_own (P := Tryd.prog) (dst := 9) Tryd.underlying48 Tryd.underlying5 Tryd.underlying9 hownB
                obtain ⟨ys, hownL, hputL⟩ := hrowL.row
                rw [fl_cons _ hww] at hx
                have hbr : (rrun (b ++ [c])).rem = true ∧ (rrun (b ++ [c])).bad = bad := by rw [hx]; exact ⟨rfl, rfl⟩
                clear hrowL hww
                go_wp2_with (at_builtin; refine wpList_append_own _ rfl _ _ 38 rfl M 9 iS _ 1 16 Tryd.underlying38 hiS hzS0 hzS1 hzS2 rfl (by decide) _ _ _ rfl (hownL.alloc _) ⟨wr.heap.size, 0, none⟩ 1 1 [.string ⟨ww.toArray⟩] rfl rfl (str_news _ _) (str_one _) ?d1 ?d2 ?d3 ?_)
                case d1 => have : (4194309 : Nat) ≤ maxLen := by unfold maxLen; omega
                           omega
                case d2 => omega
                case d3 => simp; omega
                intro v2 w2 hown2 hg2 _
                have hrowW := hputL w2 v2 _ ww rfl hown2
                have hrowO2 := (hrowO.next ((Below.refl wr.heap.size wr).alloc (Nat.le_refl _) _) (Nat.le_refl _)).grownW (by decide) (hownL.alloc _) hg2
                have hBx : Below w.heap.size w w2 := (hB.alloc hB.size _).grown hg2 (by have := hB.size; simp; omega) fun g e => Nat.le_trans hM1 (hownL.lt g e).1
                obtain ⟨pl2, cl2, rfl⟩ := own_sl hown2
                have hM3 : M ≤ w2.heap.size := Nat.le_trans hM2 (Nat.le_trans (Nat.le_succ _) (by have := hg2.size; simpa using this))
                clear hputL hownL hown2 hg2 hrowO hownB hrun
                have hF : RSt w w2 s (q + 1) (.slice pu lo.length cu) (.slice pl2 (lw.length + 1) cl2) (.slice none 0 0) (a.length + 1) a (b ++ [c]) lo M := ⟨hBx, hsp, hg, rfl, hM1, hM3, hrowO2, by rw [hx]; exact hrowW, by rw [hx]; exact World.ownsRow_nil _ _ _ _, hn1, by simp; omega⟩
                clear hx hrowW hrowO2 hB hBx hsp hg
                go_wp2
                go_roundw
                case rel => exact ⟨q + 1, by omega, by go_num, .inl ⟨by omega, a.length + 1, a, b ++ [c], _, _, rfl, by rw [hbr.1], by rw [hbr.2], hF⟩⟩
                case measure => dsimp only [intOf]; omega
end Go.Proofs.YtejfienogljboaaDoor
