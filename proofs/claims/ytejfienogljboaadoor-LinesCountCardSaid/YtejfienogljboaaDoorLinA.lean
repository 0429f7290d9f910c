/- lines.blank, lines.words. -/
import Derived.Test.YtejfienogljboaaDoorLin
namespace Go.Proofs.YtejfienogljboaaDoor
open Go.RowKit

theorem blank_val (c : UInt8) (w : World) : Calls Tryd.prog 26 #[.int .u8 (c.toNat : Int)] w fun e w' => e = .returned (.bool (isBl c)) ∧ w = w' := by
  have e1 : isBl c = (((c.toNat : Int) == 32) || ((c.toNat : Int) == 9)) := by
    unfold isBl
    congr 1
    · rw [Bool.eq_iff_iff]
      simp only [beq_iff_eq]
      exact ⟨fun h => by subst h; rfl, fun h => UInt8.toNat_inj.1 (by show c.toNat = 32; omega)⟩
    · rw [Bool.eq_iff_iff]
      simp only [beq_iff_eq]
      exact ⟨fun h => by subst h; rfl, fun h => UInt8.toNat_inj.1 (by show c.toNat = 9; omega)⟩
  rw [e1]
  clear e1
  generalize (c.toNat : Int) = n
  cases h1 : (n == 32) <;> cases h2 : (n == 9)
  all_goals
    go_enter Tryd.func26, Tryd.ntmps26
    go_wp2
    go_ret
    exact ⟨rfl, rfl⟩

/-! the words of what has been read -/
theorem run1_suf (p : By) : ∃ a, p = a ++ (run1 p).2.1 := by
  have key : ∀ (p : By) (x : List By × By × Bool), ∃ a, x.2.1 ++ p = a ++ (p.foldl stp x).2.1 := by
    intro p
    induction p with
    | nil => intro x; exact ⟨[], by simp⟩
    | cons c r ih =>
      intro x
      rw [List.foldl_cons]
      obtain ⟨a, ha⟩ := ih (stp x c)
      by_cases hb : isBl c = true
      · have e : stp x c = (fl x.1 x.2.1, [], x.2.2) := by simp [stp, hb]
        rw [e] at ha ⊢
        exact ⟨x.2.1 ++ [c] ++ a, by simp at ha ⊢; exact ha⟩
      · have e : stp x c = (x.1, x.2.1 ++ [c], x.2.2 || isBad c) := by simp [stp, hb]
        rw [e] at ha ⊢
        exact ⟨a, by simpa using ha⟩
  obtain ⟨a, ha⟩ := key p ([], [], false)
  exact ⟨a, by simpa [run1] using ha⟩
theorem bad_stays : ∀ (p : By) (x : List By × By × Bool), x.2.2 = true → (p.foldl stp x).2.2 = true
  | [], _, h => h
  | c :: r, x, h => by
    rw [List.foldl_cons]
    refine bad_stays r _ ?_
    unfold stp
    split
    · exact h
    · simp [h]
theorem bad_none {a b : By} (h : (run1 a).2.2 = true) : wordsOf (a ++ b) = none := by
  unfold wordsOf run1
  rw [List.foldl_append]
  exact if_pos (bad_stays b (a.foldl stp ([], [], false)) h)
def one (w : By) : Nat := if w = [] then 0 else 1
theorem fl_len (l : List By) (w : By) : (fl l w).length = l.length + one w := by
  unfold fl one
  split <;> simp
theorem run1_len (p : By) : (run1 p).1.length + one (run1 p).2.1 ≤ p.length := by
  have key : ∀ (p : By) (x : List By × By × Bool), (p.foldl stp x).1.length + one (p.foldl stp x).2.1 ≤ x.1.length + one x.2.1 + p.length := by
    intro p
    induction p with
    | nil => intro x; simp
    | cons c r ih =>
      intro x
      rw [List.foldl_cons]
      refine Nat.le_trans (ih (stp x c)) ?_
      by_cases hb : isBl c = true
      · have e : stp x c = (fl x.1 x.2.1, [], x.2.2) := by simp [stp, hb]
        rw [e]
        dsimp only
        rw [fl_len]
        have : one [] = 0 := rfl
        simp only [List.length_cons]
        omega
      · have e : stp x c = (x.1, x.2.1 ++ [c], x.2.2 || isBad c) := by simp [stp, hb]
        rw [e]
        have : one (x.2.1 ++ [c]) = 1 := by simp [one]
        dsimp only
        rw [this]
        simp only [List.length_cons]
        omega
  have h := key p ([], [], false)
  have h0 : one ([] : By) = 0 := rfl
  have h1 : (([] : List By)).length = 0 := rfl
  dsimp only at h
  rw [h0, h1] at h
  unfold run1
  omega
theorem take_snoc (s : ByteArray) (k : Nat) (h : k < s.size) : s.data.toList.take (k + 1) = s.data.toList.take k ++ [s[k]] := by
  rw [List.take_succ_eq_append_getElem (by simpa using h)]; rfl
/-- where the word at hand began -/
def frm (q : Nat) (w : By) : Int := if w = [] then -1 else (q : Int) - w.length
/-- the state of 'words' at round q -/
structure WSt (w wr : World) (s : ByteArray) (q : Nat) (v : Value) (f : Int) : Prop where
  bad : (run1 (s.data.toList.take q)).2.2 = false
  b : Below w.heap.size w wr
  o : q ≤ s.size → WordRow wr w.heap.size v (run1 (s.data.toList.take q)).1 ∧ f = frm q (run1 (s.data.toList.take q)).2.1
  z : q = s.size + 1 → WordRow wr w.heap.size v (fl (run1 s.data.toList).1 (run1 s.data.toList).2.1)

def WordsPost (w : World) (s : ByteArray) (e : Ending) (w' : World) : Prop :=
  Below w.heap.size w w' ∧ ((wordsOf s.data.toList = none ∧ e = .returned (.tuple #[.slice none 0 0, .bool false])) ∨ ∃ ws v, wordsOf s.data.toList = some ws ∧ e = .returned (.tuple #[v, .bool true]) ∧ WordRow w' w.heap.size v ws)

theorem extract_word (s : ByteArray) (a q : Nat) (x y : By) (h : s.data.toList.take q = x ++ y) (ha : x.length = a) : (s.extract a q).data.toList = y := by
  have : (s.extract a q).data.toList = (s.data.toList.take q).drop a := by
    simp [ByteArray.data_extract, List.extract_eq_take_drop, List.drop_take]
  rw [this, h, ← ha, List.drop_left]

set_option maxHeartbeats 4000000 in
theorem words_val (s : ByteArray) (hs : s.size ≤ 4194304) (w : World) : Calls Tryd.prog 20 #[.string s] w (WordsPost w s) := by
  obtain ⟨i0, hi, hz0, hz1, hz2⟩ := info_parts infoS
  go_enter Tryd.func20, Tryd.ntmps20
  go_wp2
  go_loopw [4, 5, 6] (fun v f i wr => ∃ q : Nat, q ≤ s.size + 1 ∧ i = .int .i64 (q : Int) ∧ ∃ fi : Int, f = .int .i64 fi ∧ WSt w wr s q v fi) (fun _ _ i _ => s.size + 1 - (intOf i).toNat)
  case atStart => exact ⟨0, Nat.zero_le _, rfl, -1, rfl, ⟨rfl, Below.refl _ _, fun _ => ⟨WordRow.nil, rfl⟩, fun h => by omega⟩⟩
  case round =>
    obtain ⟨q, hq, rfl, fi, rfl, hW⟩ := hrel
    have hB := hW.b
    by_cases hend : q = s.size + 1
    · have hz := hW.z hend
      obtain ⟨pu, cu, rfl⟩ := hz.slice
      have hbad := hW.bad
      have e : s.data.toList.take q = s.data.toList := List.take_of_length_le (by simp; omega)
      rw [e] at hbad
      have hP : WordsPost w s (.returned (.tuple #[.slice pu (fl (run1 s.data.toList).1 (run1 s.data.toList).2.1).length cu, .bool true])) wr :=
        ⟨hB, .inr ⟨_, _, by unfold wordsOf; rw [if_neg (by rw [hbad]; simp)], rfl, hz⟩⟩
      have hlt : (s.size : Int) < (q : Int) := by omega
      clear hz hW hbad e
      go_wp2
      go_ret2
      exact hP
    · obtain ⟨hrow, rfl⟩ := hW.o (by omega)
      have hbad := hW.bad
      have hsuf := run1_suf (s.data.toList.take q)
      have hlen := run1_len (s.data.toList.take q)
      have hl2 := List.length_take_le q s.data.toList
      have hl3 : (s.data.toList.take q).length = q := by rw [List.length_take]; have : s.data.toList.length = s.size := by simp
                                                         omega
      clear hW
      rcases hrun : run1 (s.data.toList.take q) with ⟨lw, ww, bb⟩
      rw [hrun] at hrow hbad hsuf hlen
      dsimp only at hrow hbad hsuf hlen
      subst hbad
      obtain ⟨x, hx⟩ := hsuf
      have hxl : x.length + ww.length = q := by
        have := congrArg List.length hx
        rw [hl3, List.length_append] at this
        omega
      have hlw : lw.length ≤ 4194304 := by omega
      obtain ⟨pu, cu, rfl⟩ := hrow.slice
      obtain ⟨xs, hown, hput⟩ := hrow.row
      have hsz := hB.size
      have HF : ∀ w2 v', ww ≠ [] → w2.ownsRow w.heap.size 9 1 v' (lw.length + 1) (xs ++ [.string (s.extract x.length q)]) → WordRow w2 w.heap.size v' (fl lw ww) := fun w2 v' hw ho => by
        rw [fl_cons _ hw]
        exact hput w2 v' _ _ (extract_word s x.length q x _ hx rfl) ho
      have HG : ∀ w2, (wr.alloc (Obj.cells #[.string (s.extract x.length q)] 9)).grownBy w2 (Value.slice pu lw.length cu).ownBlock → Below w.heap.size w w2 := fun w2 hg =>
        (hB.alloc hsz _).grown hg (by simp; omega) fun g e => (hown.lt g e).1
      have hnews := str_news wr (s.extract x.length q)
      have hfr : (ww = [] ∧ frm q ww = -1) ∨ (ww ≠ [] ∧ frm q ww = (x.length : Int)) := by
        unfold frm
        by_cases hw : ww = []
        · exact .inl ⟨hw, if_pos hw⟩
        · exact .inr ⟨hw, by rw [if_neg hw]; omega⟩
      have hxq : x.length ≤ q := by omega
      clear hput hx hl2 hl3
      have htoo : (4194305 : Nat) ≤ maxLen := by unfold maxLen; omega
      by_cases hqs : q = s.size
      · clear hxl
        have e : s.data.toList.take q = s.data.toList := List.take_of_length_le (by simp; omega)
        have hall : run1 s.data.toList = (lw, ww, false) := by rw [← e]; exact hrun
        have hfin : ∀ v2 w2 f, WordRow w2 w.heap.size v2 (fl lw ww) → Below w.heap.size w w2 → WSt w w2 s (q + 1) v2 f := fun v2 w2 f h1 h2 =>
          ⟨by rw [List.take_of_length_le (by simp; omega), hall], h2, fun h => by omega, fun _ => by rw [hall]; exact h1⟩
        clear hrun e hall
        subst hqs
        rcases hfr with ⟨hw, hf⟩ | ⟨hw, hf⟩
        · rw [hf]
          have h2 := hfin _ wr (-1) (by rw [hw, fl_nil]; exact hrow) hB
          clear hrow HF HG hfin hf
          go_wp2
          go_roundw
          case rel => exact ⟨s.size + 1, by omega, by go_num, -1, rfl, h2⟩
          case measure => simp [intOf]
        · rw [hf]
          clear hrow hf
          go_wp2_with (at_builtin; refine wpList_append_own _ rfl _ _ 38 rfl w.heap.size 9 i0 _ 1 16 Tryd.underlying38 hi hz0 hz1 hz2 rfl (by decide) _ _ _ rfl (hown.alloc _) ⟨wr.heap.size, 0, none⟩ 1 1 [.string (s.extract x.length s.size)] rfl rfl hnews (str_one _) ?d1 ?d2 ?d3 ?_)
          case d1 => omega
          case d2 => omega
          case d3 => simp; omega
          intro v2 w2 hown2 hg2 _
          have h2 := hfin v2 w2 (-1) (HF _ _ hw hown2) (HG _ hg2)
          obtain ⟨pu2, cu2, rfl⟩ := own_sl hown2
          clear HF HG hfin hown hown2 hg2 hnews
          go_wp2
          go_roundw
          case rel => exact ⟨s.size + 1, by omega, by go_num, -1, rfl, h2⟩
          case measure => simp [intOf]
      · have hlt : q < s.size := by omega
        have hc := take_snoc s q hlt
        generalize hcc : s[q] = c at hc
        have hcell : s[q] = c := hcc
        have hnx : run1 (s.data.toList.take (q + 1)) = stp (lw, ww, false) c := by rw [hc, run1_snoc, hrun]
        clear hcc hrun
        cases hbl : isBl c
        · have hnx2 : run1 (s.data.toList.take (q + 1)) = (lw, ww ++ [c], isBad c) := by rw [hnx]; simp [stp, hbl]
          clear hnx
          cases hbd : isBad c
          · rw [hbd] at hnx2
            have h32 : ¬ (c.toNat : Int) ≤ 32 := by simp [isBad] at hbd; omega
            have h126 : ¬ (126 : Int) < c.toNat := by simp [isBad] at hbd; omega
            have hfin : ∀ f, f = frm (q + 1) (ww ++ [c]) → WSt w wr s (q + 1) (.slice pu lw.length cu) f := fun f h =>
              ⟨by rw [hnx2], hB, fun _ => by rw [hnx2]; exact ⟨hrow, h⟩, fun h => by omega⟩
            have hfr2 : frm (q + 1) (ww ++ [c]) = (x.length : Int) := by
              unfold frm
              rw [if_neg (by simp), List.length_append, List.length_singleton]
              omega
            rw [hfr2] at hfin
            clear hnx2 hc hrow HF HG hbd hfr2
            rcases hfr with ⟨hw, hf⟩ | ⟨hw, hf⟩
            · rw [hf]
              have hxl2 : (q : Int) = x.length := by rw [hw] at hxl; simp at hxl; omega
              have h2 := hfin (q : Int) hxl2
              clear hxl2 hxl; clear hfin hf
              go_wp2_with (go_at_call 26; refine (blank_val c _).mono ?_; rintro e w2 ⟨rfl, rfl⟩; try rw [hbl])
              go_roundw
              case rel => exact ⟨q + 1, by omega, by go_num, (q : Int), rfl, h2⟩
              case measure => simp [intOf]; omega
            · rw [hf]
              have h2 := hfin _ rfl
              have hx0 : ¬ (x.length : Int) < 0 := by omega
              clear hfin hf
              generalize (x.length : Int) = fx at h2 hx0 ⊢
              go_wp2_with (go_at_call 26; refine (blank_val c _).mono ?_; rintro e w2 ⟨rfl, rfl⟩; try rw [hbl])
              go_roundw
              case rel => exact ⟨q + 1, by omega, by go_num, _, rfl, h2⟩
              case measure => simp [intOf]; omega
          · have hno : wordsOf s.data.toList = none := by
              have := bad_none (b := s.data.toList.drop (q + 1)) (by rw [hnx2]; exact hbd : (run1 (s.data.toList.take (q + 1))).2.2 = true)
              rwa [List.take_append_drop] at this
            have hP : WordsPost w s (.returned (.tuple #[.slice none 0 0, .bool false])) wr := ⟨hB, .inl ⟨hno, rfl⟩⟩
            have hbad2 : (c.toNat : Int) ≤ 32 ∨ ¬ (c.toNat : Int) ≤ 32 ∧ (126 : Int) < c.toNat := by simp [isBad] at hbd; omega
            clear hnx2 hc hrow HF HG hbd hno hfr
            generalize frm q ww = fw
            rcases hbad2 with h32 | ⟨h32, h126⟩
            · go_wp2_with (go_at_call 26; refine (blank_val c _).mono ?_; rintro e w2 ⟨rfl, rfl⟩; try rw [hbl])
              go_ret2
              exact hP
            · go_wp2_with (go_at_call 26; refine (blank_val c _).mono ?_; rintro e w2 ⟨rfl, rfl⟩; try rw [hbl])
              go_ret2
              exact hP
        · have hnx2 : run1 (s.data.toList.take (q + 1)) = (fl lw ww, [], false) := by rw [hnx]; simp [stp, hbl]
          have hfin : ∀ v2 w2, WordRow w2 w.heap.size v2 (fl lw ww) → Below w.heap.size w w2 → WSt w w2 s (q + 1) v2 (-1) := fun v2 w2 h1 h2 =>
            ⟨by rw [hnx2], h2, fun _ => by rw [hnx2]; exact ⟨h1, rfl⟩, fun h => by omega⟩
          clear hnx hnx2 hc
          rcases hfr with ⟨hw, hf⟩ | ⟨hw, hf⟩
          · rw [hf]
            have h2 := hfin _ wr (by rw [hw, fl_nil]; exact hrow) hB
            clear hrow HF HG hfin hf
            go_wp2_with (go_at_call 26; refine (blank_val c _).mono ?_; rintro e w2 ⟨rfl, rfl⟩; try rw [hbl])
            go_roundw
            case rel => exact ⟨q + 1, by omega, by go_num, -1, rfl, h2⟩
            case measure => simp [intOf]; omega
          · rw [hf]
            clear hrow hf
            go_wp2_with (first | (go_at_call 26; refine (blank_val c _).mono ?_; rintro e w2 ⟨rfl, rfl⟩; try rw [hbl]) | (at_builtin; refine wpList_append_own _ rfl _ _ 38 rfl w.heap.size 9 i0 _ 1 16 Tryd.underlying38 hi hz0 hz1 hz2 rfl (by decide) _ _ _ rfl (hown.alloc _) ⟨wr.heap.size, 0, none⟩ 1 1 [.string (s.extract x.length q)] rfl rfl hnews (str_one _) ?d1 ?d2 ?d3 ?_))
            case d1 => omega
            case d2 => omega
            case d3 => simp; omega
            intro v2 w2 hown2 hg2 _
            have h2 := hfin v2 w2 (HF _ _ hw hown2) (HG _ hg2)
            obtain ⟨pu2, cu2, rfl⟩ := own_sl hown2
            clear HF HG hfin hown hown2 hg2 hnews
            go_wp2
            go_roundw
            case rel => exact ⟨q + 1, by omega, by go_num, -1, rfl, h2⟩
            case measure => simp [intOf]; omega
end Go.Proofs.YtejfienogljboaaDoor
