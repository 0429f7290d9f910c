/- lines.Join. -/
import Derived.Test.YtejfienogljboaaDoorLinI
import Derived.Test.YtejfienogljboaaDoorLinE
namespace Go.Proofs.YtejfienogljboaaDoor
open Go.RowKit

def joinI (l : List LnI) : By := l.flatMap fun x => joinW x.2 ++ [10]
theorem joinI_ints (l : List Ln) : joinI (ints l) = joinL l := by simp [joinI, ints, joinL, List.flatMap_map]
theorem joinW_snoc : ∀ {r : List By} (x : By), r ≠ [] → joinW (r ++ [x]) = joinW r ++ 32 :: x
  | [], _, h => absurd rfl h
  | [w], x, _ => rfl
  | w :: v :: r, x, _ => by
    have := joinW_snoc (r := v :: r) x (by simp)
    simp only [List.cons_append, joinW, List.append_assoc] at this ⊢
    rw [this]
theorem joinI_snoc (l : List LnI) (x : LnI) : joinI (l ++ [x]) = joinI l ++ (joinW x.2 ++ [10]) := by simp [joinI]
theorem joinI_app (a b : List LnI) : joinI (a ++ b) = joinI a ++ joinI b := by simp [joinI]
theorem joinI_cons (x : LnI) (r : List LnI) : joinI (x :: r) = joinW x.2 ++ [10] ++ joinI r := by simp [joinI]
theorem joinW_pre (a b : List By) : (joinW a).length ≤ (joinW (a ++ b)).length := by
  induction b generalizing a with
  | nil => simp
  | cons x b ih =>
    have h := ih (a ++ [x])
    rw [List.append_assoc] at h
    refine Nat.le_trans ?_ h
    by_cases e : a = []
    · subst e; simp [joinW]
    · rw [joinW_snoc x e]; simp
/-- what has been written of line q, word j -/
theorem join_le {l : List LnI} {q : Nat} (hq : q < l.length) (j : Nat) : (joinI (l.take q)).length + (joinW (l[q].2.take j)).length + 1 ≤ (joinI l).length := by
  have e : l = l.take q ++ l[q] :: l.drop (q + 1) := by rw [← drop_at hq, List.take_append_drop]
  have h2 := joinW_pre (l[q].2.take j) (l[q].2.drop j)
  rw [List.take_append_drop] at h2
  have h3 : (joinI l).length = (joinI (l.take q)).length + ((joinW l[q].2).length + 1 + (joinI (l.drop (q + 1))).length) := by
    have h4 : joinI (l[q] :: l.drop (q + 1)) = joinW l[q].2 ++ [10] ++ joinI (l.drop (q + 1)) := joinI_cons _ _
    have h5 : joinI l = joinI (l.take q) ++ (joinW l[q].2 ++ [10] ++ joinI (l.drop (q + 1))) := by
      rw [← h4, ← joinI_app, ← e]
    rw [h5]
    simp only [List.length_append, List.length_cons, List.length_nil]
  omega
theorem joinI_ge : ∀ (l : List LnI), l.length ≤ (joinI l).length
  | [] => Nat.le_refl _
  | x :: r => by
    have := joinI_ge r
    rw [joinI_cons]
    simp only [List.length_append, List.length_cons, List.length_nil]
    omega
theorem joinW_ge : ∀ (l : List By), l.length ≤ (joinW l).length + 1
  | [] => by simp
  | [w] => by simp
  | w :: v :: r => by
    have := joinW_ge (v :: r)
    simp only [joinW, List.length_append, List.length_cons] at this ⊢
    omega
theorem take_at {α : Type} {l : List α} {q : Nat} (h : q < l.length) : l.take (q + 1) = l.take q ++ [l[q]] := (List.take_append_getElem h).symm

theorem bld_next {B b : Nat} {l : By} {w w' : World} (h : BldOf B b l w) (hb : Below w.heap.size w w') : BldOf B b l w' := by
  rcases h with ⟨hB, v, hk, ho, hn⟩ | ⟨hB, v, hk, ho, hn⟩
  · have hlt : b < w.heap.size := by rcases Nat.lt_or_ge b w.heap.size with h' | h'; · exact h'
                                     · simp [Array.getElem?_eq_none h'] at hk
    exact .inl ⟨hB, v, by rw [hb.block b hlt]; exact hk, ho.kept (grown_below hb (Nat.le_refl _)) (by cases v.ownBlock <;> simp), hn⟩
  · have hlt : b < w.heap.size := by rcases Nat.lt_or_ge b w.heap.size with h' | h'; · exact h'
                                     · simp [Array.getElem?_eq_none h'] at hk
    exact .inr ⟨hB, v, by rw [hb.block b hlt]; exact hk, ho.kept (grown_below hb (Nat.le_refl _)) (by cases v.ownBlock <;> simp), hn⟩

set_option maxHeartbeats 4000000 in
theorem join_val (l : List LnI) (hn : (joinI l).length ≤ 1000000000) (v : Value) (w : World) (hl : LinesAt w v l) :
    Calls Tryd.prog 15 #[v] w fun e w' => e = .returned (.string ⟨(joinI l).toArray⟩) ∧ Below w.heap.size w w' := by
  obtain ⟨p, cu, rfl, hl⟩ := hl
  have hll := joinI_ge l
  have hB0 : BldOf w.heap.size w.heap.size [] (w.alloc (.cells #[.pointer none, .slice none 0 0] 51)) := by
    refine .inl ⟨Nat.le_refl _, .slice none 0 0, Go.heap_alloc_new _ _, World.ownsRow_nil _ _ _ _, by simp [Value.ownBlock]⟩
  go_enter Tryd.func15, Tryd.ntmps15
  go_wp2
  go_loopw [10] (fun i wr => ∃ q : Nat, q ≤ l.length ∧ i = .int .i64 (q : Int) ∧ Below w.heap.size w wr ∧ BldOf w.heap.size w.heap.size (joinI (l.take q)) wr) (fun i _ => l.length - (intOf i).toNat)
  case atStart => exact ⟨0, Nat.zero_le _, rfl, (Below.refl _ _).alloc (Nat.le_refl _) _, hB0⟩
  case round =>
    obtain ⟨q, hq, rfl, hb, hB⟩ := hrel
    by_cases hend : q = l.length
    · subst hend
      rw [List.take_length] at hB
      have hc := Tryd.Builder_String_any w.heap.size w.heap.size _ wr hB hb.size
      clear hB hB0 hl
      go_wp2_with (go_at_call 23; refine hc.mono ?_)
      rintro e w2 ⟨rfl, hb2⟩
      have hb3 := hb.trans hb2
      go_wp2
      go_ret
      exact ⟨rfl, hb3⟩
    · have hlt : q < l.length := by omega
      have hltI : (q : Int) < (l.length : Int) := by omega
      have hle := join_le hlt
      obtain ⟨a, u, rfl, h1, h2, pw, cw, rfl, h3⟩ := hl q l[q] (by simp [hlt])
      have htk := joinI_snoc (l.take q) l[q]
      rw [← take_at hlt] at htk
      generalize l[q].2 = ws at *
      generalize l[q].1 = nq at *
      have hlen : (joinI (l.take q)).length + 1 ≤ 1000000000 := by have := hle 0; omega
      have hle2 : ∀ j, (joinI (l.take q)).length + (joinW (ws.take j)).length + 1 ≤ 1000000000 := fun j => by have := hle j; omega
      have hwl := joinW_ge ws
      have hwl2 := hle2 ws.length
      rw [List.take_length] at hwl2
      clear hle hB0 hl hend
      generalize joinI (l.take q) = acc at *
      have d1 : wr.cell? (a.add (q * 2)) = some (.int .i64 nq) := by rw [hb.cell (cells_lt h1)]; exact h1
      have d2 : wr.cell? ⟨(a.add (q * 2)).block, (a.add (q * 2)).off + 1, none⟩ = some (.slice pw ws.length cw) := by rw [hb.cell (cells_lt h2)]; exact h2
      go_wp2
      obtain ⟨wo, rfl⟩ : ∃ wo : World, wo = wr := ⟨_, rfl⟩
      go_loopw [17] (fun k w2 => ∃ j : Nat, j ≤ ws.length ∧ k = .int .i64 (j : Int) ∧ Below w.heap.size w w2 ∧ BldOf w.heap.size w.heap.size (acc ++ joinW (ws.take j)) w2) (fun k _ => ws.length - (intOf k).toNat)
      case atStart => exact ⟨0, Nat.zero_le _, rfl, hb.alloc hb.size _, by simpa [joinW] using bld_next hB ((Below.refl _ _).alloc (Nat.le_refl _) _)⟩
      case round =>
        obtain ⟨j, hj, rfl, hb2, hB2⟩ := hrel
        have hlj := hle2 j
        by_cases hje : j = ws.length
        · subst hje
          rw [List.take_length] at hB2
          have hc := putByte_val _ _ _ 10 wr hB2 (by have := hle2 ws.length; rw [List.take_length] at this; simp; omega) hb2.size
          clear hB hB2 h3 hle2
          go_wp2_with (go_at_call 21; refine hc.mono ?_)
          rintro e w3 ⟨rfl, hB3, hb3⟩
          have hb4 := hb2.trans hb3
          rw [List.append_assoc, ← htk] at hB3
          clear hb2 hb3 hb
          go_wp2
          go_roundw
          case rel => exact ⟨q + 1, by omega, by go_num, hb4, hB3⟩
          case measure => simp [intOf]; omega
        · have hjl : j < ws.length := by omega
          have hjI : (j : Int) < (ws.length : Int) := by omega
          obtain ⟨b, s, rfl, g1, g2⟩ := h3 j ws[j] (by simp [hjl])
          have hlj2 := hle2 (j + 1)
          have hst := take_at hjl
          rw [hst] at hlj2
          have e1 : wr.cell? (b.add j) = some (.string s) := by rw [hb2.cell (cells_lt g1)]; exact g1
          have hss : s.data.toList.length = s.size := by simp
          rw [← g2] at hlj2 hst
          by_cases h0 : j = 0
          · have hjp : ¬ (0 : Int) < (j : Int) := by omega
            have hc := putStr_val _ _ _ s wr hB2 (by subst h0; simp [joinW] at hlj2 ⊢; omega) hb2.size
            have hnx : acc ++ joinW (ws.take j) ++ s.data.toList = acc ++ joinW (ws.take (j + 1)) := by subst h0; rw [hst]; simp [joinW]
            rw [hnx] at hc
            clear hB hB2 h3 hle2 hnx h0 hst hlj2 hlj hss
            go_wp2_with (go_at_call 22; refine hc.mono ?_)
            intro e w3 hx hB3 hb3; subst hx
            have hb4 := hb2.trans hb3
            clear hb2 hb3 hb
            go_wp2
            go_roundw
            case rel => exact ⟨j + 1, by omega, by go_num, hb4, hB3⟩
            case measure => simp [intOf]; omega
          · have hjp : (0 : Int) < (j : Int) := by omega
            have hne : ws.take j ≠ [] := by
              intro e
              have := congrArg List.length e
              rw [List.length_take, List.length_nil] at this
              omega
            have hnx : acc ++ joinW (ws.take j) ++ [32] ++ s.data.toList = acc ++ joinW (ws.take (j + 1)) := by rw [hst, joinW_snoc _ hne]; simp
            rw [joinW_snoc _ hne] at hlj2
            have hc := putByte_val _ _ _ 32 wr hB2 (by simp at hlj2 ⊢; omega) hb2.size
            clear hB hB2 h3 hle2 hst hlj
            go_wp2_with (go_at_call 21; refine hc.mono ?_)
            rintro e w3 ⟨rfl, hB3, hb3⟩
            have hb4 := hb2.trans hb3
            clear hb2 hb3 hb hc
            have hc := putStr_val _ _ _ s w3 hB3 (by simp at hlj2 ⊢; omega) hb4.size
            rw [hnx] at hc
            clear hB3 hnx
            go_wp2_with (go_at_call 22; refine hc.mono ?_)
            rintro e w5 ⟨rfl, hB5, hb5⟩
            have hb6 := hb4.trans hb5
            clear hb4 hb5
            go_wp2
            go_roundw
            case rel => exact ⟨j + 1, by omega, by go_num, hb6, hB5⟩
            case measure => simp [intOf]; omega
end Go.Proofs.YtejfienogljboaaDoor
