/- Rows of lines; lines.Split. -/
import Derived.Test.YtejfienogljboaaDoorLinA
import Derived.Test.YtejfienogljboaaDoorShelf
namespace Go.Proofs.YtejfienogljboaaDoor
open Go.RowKit

def lineC (ns : Nat → Nat) (vs : Nat → Value) (i k : Nat) : Value := if k = 0 then .int .i64 (ns i : Int) else vs i
/-- a row of lines of the call's own -/
def LineRow (T : TypeId) (w : World) (B : Nat) (v : Value) (l : List Ln) : Prop :=
  ∃ ns vs, Owns w B T 2 v l.length (lineC ns vs) ∧ ∀ (j : Nat) x, l[j]? = some x → ns j = x.1 ∧ WordRow w B (vs j) x.2
section
variable {T : TypeId} {w w' : World} {B : Nat} {v v' : Value} {l : List Ln}
theorem LineRow.nil : LineRow T w B (.slice none 0 0) [] := ⟨fun _ => 0, fun _ => .slice none 0 0, Owns.nil, fun j x h => by cases h⟩
theorem LineRow.slice (h : LineRow T w B v l) : ∃ pu cu, v = .slice pu l.length cu := by
  obtain ⟨_, _, h, _⟩ := h
  exact h.slice
theorem LineRow.next {C : Nat} (h : LineRow T w B v l) (hb : Below C w w') (hC : w.heap.size ≤ C) : LineRow T w' B v l := by
  obtain ⟨ns, vs, h, hr⟩ := h
  exact ⟨ns, vs, h.next hb hC, fun j x hx => ⟨(hr j x hx).1, (hr j x hx).2.next hb hC⟩⟩
theorem LineRow.mono {B' : Nat} (h : LineRow T w B v l) (hB : B' ≤ B) : LineRow T w B' v l := by
  obtain ⟨ns, vs, ⟨h1, h2⟩, hr⟩ := h
  refine ⟨ns, vs, ⟨h1, ?_⟩, fun j x hx => ⟨(hr j x hx).1, (hr j x hx).2.mono hB⟩⟩
  rcases h2 with h2 | ⟨g', cap, cur, y1, y2, y3⟩
  · exact .inl h2
  · exact .inr ⟨g', cap, cur, y1, by omega, y3⟩
theorem LineRow.lt (h : LineRow T w B v l) : ∀ k, v.ownBlock = some k → B ≤ k ∧ k < w.heap.size := by
  obtain ⟨_, _, h, hr⟩ := h
  exact h.lt
theorem WordRow.grown {u : Value} {ws : List By} {s n : Nat} {f : Nat → Nat → Value} (h : WordRow w B u ws) (hT : 9 ≠ T) (ho : Owns w B T s v n f) (hg : w.grownBy w' v.ownBlock) : WordRow w' B u ws := by
  refine h.kept hg ?_
  cases hu : u.ownBlock with
  | none => exact .inl rfl
  | some g =>
    obtain ⟨ss, h, _⟩ := h
    exact .inr fun e => h.unlike ho hT hu e.symm
/-- one line more -/
theorem LineRow.row (h : LineRow T w B v l) (hT : 9 ≠ T) : ∃ xs, w.ownsRow B T 2 v l.length xs ∧ ∀ (w2 : World) (v' u : Value) (n : Nat) (ws : List By) (o : Obj),
    WordRow w B u ws → (w.alloc o).grownBy w2 v.ownBlock → w2.ownsRow B T 2 v' (l.length + 1) (xs ++ [.int .i64 (n : Int), u]) → LineRow T w2 B v' (l ++ [(n, ws)]) := by
  obtain ⟨ns, vs, h, hr⟩ := h
  refine ⟨_, h, fun w2 v' u n ws o hu hg hown => ?_⟩
  have keep : ∀ {u ws}, WordRow w B u ws → WordRow w2 B u ws := fun hu =>
    (hu.next ((Below.refl w.heap.size w).alloc (Nat.le_refl _) o) (Nat.le_refl _)).grown hT (h.alloc o) hg
  refine ⟨fun j => if j = l.length then n else ns j, fun j => if j = l.length then u else vs j, ?_, fun j x hx => ?_⟩
  · have e : (l ++ [(n, ws)]).length = l.length + 1 := by simp
    rw [e]
    refine Owns.push hown (fun i k hi _ => ?_) ?_
    · simp only [lineC, if_neg (by omega : i ≠ l.length)]
    · simp [List.range_succ, lineC]
  · by_cases e : j = l.length
    · subst e
      rw [List.getElem?_append_right (Nat.le_refl _), Nat.sub_self] at hx
      have : (n, ws) = x := by simpa using hx
      subst this
      dsimp only
      rw [if_pos rfl, if_pos rfl]
      exact ⟨rfl, keep hu⟩
    · dsimp only
      rw [if_neg e, if_neg e]
      have hl : l[j]? = some x := by
        by_cases hl : j < l.length
        · rwa [List.getElem?_append_left hl] at hx
        · rw [List.getElem?_eq_none (by simp; omega)] at hx
          cases hx
      exact ⟨(hr j x hl).1, keep (hr j x hl).2⟩
/-- 'append(out, Line{n, u})' -/
theorem line_news (w : World) (n : Int) (u : Value) : ∀ j x, ([Value.int .i64 n, u])[j]? = some x → (w.alloc (Obj.cells #[.int .i64 n, u] T)).cell? ((⟨w.heap.size, 0, none⟩ : Addr).add j) = some x := by
  intro j x hx
  rw [add_at, Nat.zero_add, World.cell?_alloc_mark]
  simpa using hx
theorem line_one (n : Int) {p : Option Addr} {a b : Nat} : ∀ x ∈ [Value.int .i64 n, .slice p a b], x.oneCell' = true := by
  intro x hx
  simp only [List.mem_cons, List.not_mem_nil, or_false] at hx
  rcases hx with rfl | rfl <;> rfl
end

/-! the pieces, the cut -/
theorem splitNL_mem : ∀ (s : By) (p : By), p ∈ splitNL s → p.length ≤ s.length := by
  intro s
  induction s with
  | nil => intro p h; simp [splitNL] at h; subst h; simp
  | cons c r ih =>
    intro p h
    unfold splitNL at h
    split at h
    · rcases List.mem_cons.1 h with rfl | h
      · simp
      · have := ih p h; simp; omega
    · split at h
      · simp at h; subst h; simp
      · rename_i p0 a e
        rcases List.mem_cons.1 h with rfl | h
        · have := ih p0 (by rw [e]; simp); simp; omega
        · have := ih p (by rw [e]; simp [h]); simp; omega
theorem cutRem_len (p : By) : (cutRem p).length ≤ p.length := by
  unfold cutRem
  exact (List.takeWhile_prefix _).length_le
theorem cut_val (p : ByteArray) (hp : p.size ≤ 4194304) (m : Int) (w : World) (hm : w.cell? ⟨0, 0, none⟩ = some (.int .i64 m)) : Calls Tryd.prog 19 #[.string p, .string ⟨#[59]⟩] w fun e w' =>
    ∃ (c : ByteArray) (b : ByteArray) (d : Bool), e = .returned (.tuple #[.string c, .string b, .bool d]) ∧ c.data.toList = cutRem p.data.toList ∧ c.size ≤ p.size ∧ ∃ n, w' = w.drewN n := by
  refine (Tryd.strings_Cut p ⟨#[59]⟩ m w (by omega) hm).mono ?_
  rintro e w' ⟨rfl, hn⟩
  have h : (Lib.cut p.data.toList (⟨#[59]⟩ : ByteArray).data.toList).1 = cutRem p.data.toList := cut_rem p.data.toList
  refine ⟨_, _, _, rfl, ?_, ?_, hn⟩
  · rw [h]
  · rw [h]
    have h2 := cutRem_len p.data.toList
    have e1 : p.data.toList.length = p.size := by simp
    have e2 : (⟨(cutRem p.data.toList).toArray⟩ : ByteArray).size = (cutRem p.data.toList).length := by simp [ByteArray.size]
    omega

theorem words_no (s : ByteArray) (hs : s.size ≤ 4194304) (p : By) (hp : s.data.toList = p) (h : wordsOf p = none) (w : World) : Calls Tryd.prog 20 #[.string s] w fun e w' => e = .returned (.tuple #[.slice none 0 0, .bool false]) ∧ Below w.heap.size w w' := by
  subst hp
  refine (words_val s hs w).mono ?_
  rintro e w' ⟨hb, ⟨_, rfl⟩ | ⟨ws, v, h2, _⟩⟩
  · exact ⟨rfl, hb⟩
  · rw [h] at h2; cases h2
theorem words_yes (s : ByteArray) (hs : s.size ≤ 4194304) (p : By) (hp : s.data.toList = p) {ws : List By} (h : wordsOf p = some ws) (w : World) : Calls Tryd.prog 20 #[.string s] w fun e w' =>
    ∃ pu cu, e = .returned (.tuple #[.slice pu ws.length cu, .bool true]) ∧ Below w.heap.size w w' ∧ WordRow w' w.heap.size (.slice pu ws.length cu) ws := by
  subst hp
  refine (words_val s hs w).mono ?_
  rintro e w' ⟨hb, ⟨h2, rfl⟩ | ⟨ws2, v, h2, rfl, hr⟩⟩
  · rw [h] at h2; cases h2
  · rw [h] at h2
    cases h2
    obtain ⟨pu, cu, rfl⟩ := hr.slice
    exact ⟨pu, cu, rfl, hb, hr⟩
theorem words_len {p : By} {ws : List By} (h : wordsOf p = some ws) : ws.length ≤ p.length := by
  unfold wordsOf at h
  split at h
  · cases h
  · cases h
    have := run1_len p
    rw [fl_len]
    exact this

/-- the call's answer -/
def SplitPost (T : TypeId) (w : World) (s : ByteArray) (e : Ending) (w' : World) : Prop :=
  Below w.heap.size w w' ∧ match linesOf s.data.toList with
    | .inl l => ∃ v, e = .returned (.tuple #[v, .int .i64 0, .int .i64 0]) ∧ LineRow T w' w.heap.size v l
    | .inr k => e = .returned (.tuple #[.slice none 0 0, .int .i64 (k : Int), .int .i64 3])
structure SpSt (T : TypeId) (w1 wr : World) (ps : List By) (q : Nat) (v : Value) (l : List Ln) : Prop where
  b : Below w1.heap.size w1 wr
  o : LineRow T wr w1.heap.size v l
  g : goL 1 (ps.take q) = .inl l
  n : l.length ≤ q

theorem split_big (s : ByteArray) (hs : 4194304 < s.size) (w : World) : Calls Tryd.prog 9 #[.string s] w fun e w' => e = .returned (.tuple #[.slice none 0 0, .int .i64 0, .int .i64 2]) ∧ w = w' := by
  have h : (4194304 : Int) < (s.size : Int) := by omega
  go_enter Tryd.func9, Tryd.ntmps9
  go_wp2
  go_ret3
  exact ⟨rfl, rfl⟩

/-- what is known of the pieces -/
structure Pcs (s : ByteArray) (N : Nat) (p : Nat → ByteArray) : Prop where
  le : N ≤ 4194305
  sz : ∀ q, q < N → (p q).size ≤ 4194304
  all : (splitNL s.data.toList).take N = splitNL s.data.toList
  err : ∀ q l, q < N → goL 1 ((splitNL s.data.toList).take q) = .inl l → wordsOf (cutRem (p q).data.toList) = none → linesOf s.data.toList = .inr (q + 1)
  go : ∀ q l ws, q < N → goL 1 ((splitNL s.data.toList).take q) = .inl l → wordsOf (cutRem (p q).data.toList) = some ws → goL 1 ((splitNL s.data.toList).take (q + 1)) = .inl (if ws = [] then l else l ++ [(q + 1, ws)])
theorem pcs (s : ByteArray) (hs : s.size ≤ 4194304) : Pcs s (pieces s).length (fun q => (pieces s).getD q .empty) := by
  have hps := pieces_data s
  have hpl := pieces_len s
  have e0 : s.data.toList.length = s.size := by simp
  have hd : ∀ q, q < (pieces s).length → (splitNL s.data.toList)[q]? = some ((pieces s).getD q .empty).data.toList := fun q h => by
    rw [← hps]
    simp [h]
  have hll : (splitNL s.data.toList).length = (pieces s).length := by rw [← hps]; simp
  have hstep : ∀ q, q < (pieces s).length → (splitNL s.data.toList).take (q + 1) = (splitNL s.data.toList).take q ++ [((pieces s).getD q .empty).data.toList] := fun q h => by
    rw [List.take_add_one, hd q h]
    rfl
  have hlen : ∀ q, q ≤ (pieces s).length → ((splitNL s.data.toList).take q).length = q := fun q h => by
    rw [List.length_take]
    omega
  refine ⟨?_, fun q h => ?_, ?_, fun q l h h1 h2 => ?_, fun q l ws h h1 h2 => ?_⟩
  · rw [hpl]
    have := List.count_le_length (a := (10 : UInt8)) (l := s.data.toList)
    omega
  · have h1 := List.mem_of_getElem? (hd q h)
    have h2 := splitNL_mem _ _ h1
    have e2 : ((pieces s).getD q .empty).data.toList.length = ((pieces s).getD q .empty).size := by simp
    show ((pieces s).getD q .empty).size ≤ _
    omega
  · rw [List.take_of_length_le (by omega)]
  · have e : splitNL s.data.toList = (splitNL s.data.toList).take q ++ ((pieces s).getD q .empty).data.toList :: (splitNL s.data.toList).drop (q + 1) := by
      have h3 := hstep q h
      have h4 := (List.take_append_drop (q + 1) (splitNL s.data.toList)).symm
      rw [h3, List.append_assoc] at h4
      exact h4
    unfold linesOf
    rw [e, goL_app, h1]
    dsimp only
    rw [hlen q (by omega), goL_cons, h2]
    rw [Nat.add_comm]
  · rw [hstep q h, goL_app, h1]
    dsimp only
    rw [hlen q (by omega), goL_cons, h2]
    dsimp only
    rw [goL]
    dsimp only
    split
    · rw [List.append_nil]
    · rw [Nat.add_comm]
theorem pieces_call (s : ByteArray) (hs : s.size ≤ 4194304) : ∃ N p, Pcs s N p ∧ ∀ m w, w.cell? ⟨0, 0, none⟩ = some (.int .i64 m) → Calls Tryd.prog 18 #[.string s, .string nlB] w fun e w' =>
    e = .returned (.slice (some ⟨w.heap.size, 0, none⟩) N N) ∧ Below w.heap.size w w' ∧ w'.heap.size = w.heap.size + 1 ∧ w'.cell? ⟨0, 0, none⟩ = some (.int .i64 m) ∧ ∀ q, q < N → w'.cell? ⟨w.heap.size, q, none⟩ = some (.string (p q)) := by
  refine ⟨_, _, pcs s hs, fun m w hm => ?_⟩
  have hwz : 0 < w.heap.size := World.block_lt_of_cell? w _ hm
  have hcall := Tryd.strings_Split s nlB m w (by omega) hm (by decide)
  have hcount : Lib.countB s nlB + 1 = (pieces s).length := by rw [pieces_len, countB_nl]
  have hpe : (Lib.splitB nlB 0 (Lib.countB s nlB) s) = pieces s := rfl
  rw [hcount, hpe] at hcall
  refine hcall.mono ?_
  rintro e w' ⟨rfl, rfl⟩
  refine ⟨rfl, (Below.refl w.heap.size w).alloc (Nat.le_refl _) _, by simp, by rw [World.cell?_alloc_lt _ _ _ hwz]; exact hm, fun q h => ?_⟩
  rw [World.cell?_alloc_mark]
  simp [h]

set_option maxHeartbeats 4000000 in
theorem split_val (s : ByteArray) (hs : s.size ≤ 4194304) (m : Int) (w : World) (hm : w.cell? ⟨0, 0, none⟩ = some (.int .i64 m)) : Calls Tryd.prog 9 #[.string s] w (SplitPost 40 w s) := by
  obtain ⟨i0, hi, hz0, hz1, hz2⟩ := info_parts infoL
  have hle : ¬ (4194304 : Int) < (s.size : Int) := by omega
  have hwz : 0 < w.heap.size := World.block_lt_of_cell? w _ hm
  obtain ⟨N, p, hp, hcall⟩ := pieces_call s hs
  have hNn := hp.le
  go_enter Tryd.func9, Tryd.ntmps9
  go_wp2_with (go_at_call 18; refine (hcall m _ hm).mono ?_; rintro e w1 ⟨rfl, hW0, hW1, hm1, hread⟩)
  clear hcall
  go_loopw [5, 6, 7, 8, 9, 16] (fun v _ _ _ _ i wr => ∃ q : Nat, q ≤ N ∧ i = .int .i64 (q : Int) ∧ ∃ l, SpSt 40 w1 wr (splitNL s.data.toList) q v l) (fun _ _ _ _ _ i _ => N - (intOf i).toNat)
  case atStart => exact ⟨0, Nat.zero_le _, rfl, [], ⟨Below.refl _ _, LineRow.nil, rfl, Nat.le_refl _⟩⟩
  case round =>
    obtain ⟨q, hq, rfl, l, hW⟩ := hrel
    have hB := hW.b
    have hrow := hW.o
    obtain ⟨pu, cu, rfl⟩ := hrow.slice
    have hg := hW.g
    have hln := hW.n
    clear hW
    have hBB : Below w.heap.size w wr := hW0.trans (hB.mono (by omega))
    by_cases hend : q = N
    · subst hend
      have hP : SplitPost 40 w s (.returned (.tuple #[.slice pu l.length cu, .int .i64 0, .int .i64 0])) wr := by
        refine ⟨hBB, ?_⟩
        unfold linesOf
        rw [← hp.all, hg]
        exact ⟨_, rfl, hrow.mono (by omega)⟩
      clear hrow hB hBB hg hread hm1 hW0 hp
      go_wp2
      go_ret3
      exact hP
    · have hlt : q < N := by omega
      have hltI : (q : Int) < (N : Int) := by omega
      have hm2 : wr.cell? ⟨0, 0, none⟩ = some (.int .i64 m) := by rw [hB.cell (by show 0 < w1.heap.size; omega)]; exact hm1
      have hr2 : wr.cell? ⟨w.heap.size, q, none⟩ = some (.string (p q)) := by rw [hB.cell (by show w.heap.size < w1.heap.size; omega)]; exact hread q hlt
      have hpz := hp.sz q hlt
      have herr := hp.err q l hlt hg
      have hgo := hp.go q l
      have hgo2 : ∀ ws, wordsOf (cutRem (p q).data.toList) = some ws → goL 1 ((splitNL s.data.toList).take (q + 1)) = .inl (if ws = [] then l else l ++ [(q + 1, ws)]) := fun ws h => hgo ws hlt hg h
      clear hgo hread hm1 hp hg hend
      generalize hpq : p q = pc at *
      clear hpq
      cases hwo : wordsOf (cutRem pc.data.toList) with
      | none =>
        have hout := herr hwo
        clear herr hgo2 hrow hW0
        go_wp2_with (first | (go_at_call 19; refine (cut_val pc hpz m _ hm2).mono ?_; rintro e w2 ⟨c, b, d, rfl, hc1, hc2, n, rfl⟩) | (go_at_call 20; refine (words_no c (Nat.le_trans hc2 hpz) _ hc1 hwo _).mono ?_; rintro e w3 ⟨rfl, hb3⟩))
        have hP : SplitPost 40 w s (.returned (.tuple #[.slice none 0 0, .int .i64 ((q : Int) + 1), .int .i64 3])) w3 := by
          refine ⟨hBB.trans ((below_drewN (Below.refl wr.heap.size wr) n).trans hb3 |>.mono hBB.size), ?_⟩
          rw [hout]
          rfl
        go_wp2
        go_ret3
        exact hP
      | some ws =>
        have hg2 := hgo2 ws hwo
        have hwl := words_len hwo
        have hcl := cutRem_len pc.data.toList
        have hpl : pc.data.toList.length = pc.size := by simp
        have hwl2 : ws.length ≤ 4194304 := by omega
        clear herr hgo2 hcl hwl hpl
        have hBs := hB.size
        by_cases hws : ws = []
        · rw [if_pos hws] at hg2
          have hl0 : ws.length = 0 := by rw [hws]; rfl
          go_wp2_with (first | (go_at_call 19; refine (cut_val pc hpz m _ hm2).mono ?_; rintro e w2 ⟨c, b, d, rfl, hc1, hc2, n, rfl⟩) | (go_at_call 20; refine (words_yes c (Nat.le_trans hc2 hpz) _ hc1 hwo _).mono ?_; rintro e w3 ⟨pw, cw, rfl, hb3, hwr⟩; have hb4 := (below_drewN (Below.refl wr.heap.size wr) n).trans hb3; have hr3 := hrow.next hb4 (Nat.le_refl _); obtain ⟨xs, hown, hput⟩ := hr3.row (by decide); clear hrow hm2 hr2))
          have hW : SpSt 40 w1 w3 (splitNL s.data.toList) (q + 1) (.slice pu l.length cu) l := ⟨hB.trans (hb4.mono hBs), hr3, hg2, by omega⟩
          clear hput hown hwr hb4 hb3
          go_wp2
          go_roundw
          case rel => exact ⟨q + 1, by omega, by go_num, _, hW⟩
          case measure => simp [intOf]; omega
        · rw [if_neg hws] at hg2
          have hl0 : 0 < (ws.length : Int) := by have := List.length_pos_iff.2 hws; omega
          go_wp2_with (first | (go_at_call 19; refine (cut_val pc hpz m _ hm2).mono ?_; rintro e w2 ⟨c, b, d, rfl, hc1, hc2, n, rfl⟩) | (go_at_call 20; refine (words_yes c (Nat.le_trans hc2 hpz) _ hc1 hwo _).mono ?_; rintro e w3 ⟨pw, cw, rfl, hb3, hwr⟩; have hb4 := (below_drewN (Below.refl wr.heap.size wr) n).trans hb3; have hr3 := hrow.next hb4 (Nat.le_refl _); obtain ⟨xs, hown, hput⟩ := hr3.row (by decide); clear hrow hm2 hr2) | (at_builtin; refine wpList_append_own _ rfl _ _ 22 rfl w1.heap.size 40 i0 _ 2 32 Tryd.underlying22 hi hz0 hz1 hz2 rfl (by decide) _ _ _ rfl (hown.alloc _) ⟨w3.heap.size, 0, none⟩ 1 1 [.int .i64 ((q : Int) + 1), .slice pw ws.length cw] rfl rfl (line_news _ _ _) (line_one _) ?d1 ?d2 ?d3 ?_))
          case d1 => have : (4194307 : Nat) ≤ maxLen := by unfold maxLen; omega
                     omega
          case d2 => omega
          case d3 => have h1 := hb4.size
                     simp; omega
          intro v2 w4 hown2 hg4 _
          rw [← hW1] at hown2
          have hr4 := hput w4 v2 _ (q + 1) ws _ (hwr.mono hBs) hg4 hown2
          have hB4 : Below w1.heap.size w1 w4 := ((hB.trans (hb4.mono hBs)).alloc (by have := hb4.size; omega) _).grown hg4 (by have := hb4.size; simp; omega) fun g e => (hown.lt g e).1
          obtain ⟨pu2, cu2, rfl⟩ := own_sl hown2
          have hW : SpSt 40 w1 w4 (splitNL s.data.toList) (q + 1) (.slice pu2 (l.length + 1) cu2) (l ++ [(q + 1, ws)]) := ⟨hB4, hr4, hg2, by simp; omega⟩
          clear hput hown hown2 hg4 hr4 hB4 hwr hb4 hb3
          go_wp2
          go_roundw
          case rel => exact ⟨q + 1, by omega, by go_num, _, hW⟩
          case measure => simp [intOf]; omega
end Go.Proofs.YtejfienogljboaaDoor
