/- The walks of words: word.Get. -/
import Derived.Test.YtafigegbjcbdoaaWordG
namespace Go.Proofs.Ytafigegbjcbdoaa
open Go.RowKit Word Num Flo

def getA (l : List UInt8) : Int × List UInt8 × Int × Bool :=
  if l.isEmpty = true then (0, [], 0, false)
  else if (l == tNull) = true then (4, [], 0, true)
  else if nameB l = true then (1, l, 0, true)
  else if l.getD 0 0 = 35 then
    if (getN l.tail).2 = true ∧ 0 ≤ (getN l.tail).1 ∧ (getN l.tail).1 ≤ 999 then (5, [], (getN l.tail).1, true) else (0, [], 0, false)
  else ((numberV l).1, [], (numberV l).2.1, (numberV l).2.2)

theorem ba_of {t : ByteArray} {l : List UInt8} (h : l = t.data.toList) : t = ⟨l.toArray⟩ := by
  subst h; cases t; simp
theorem ba_empty {t : ByteArray} (h : [] = t.data.toList) : t = ByteArray.empty := ba_of h
theorem ba_eq {s t : ByteArray} (h : s.data.toList = t.data.toList) : t = s := by
  rw [ba_of h]
theorem extract_tail (s : ByteArray) : (s.extract 1 s.size).data.toList = s.data.toList.tail := by
  rw [ByteArray.data_extract]
  simp [List.drop_one]
  rw [List.take_of_length_le (by simp)]

set_option maxHeartbeats 1000000 in
theorem get3_val (s : ByteArray) (K n : Int) (t : ByteArray) (b : Bool) (h : getA s.data.toList = (K, t.data.toList, n, b)) (w : World) :
    Calls Try.prog 11 #[.string s] w fun e w' => e = .returned (.tuple #[.agg #[.int .i64 K, .string t, .int .i64 n], .bool b]) ∧ Below w.heap.size w w' := by
  have hz := (Below.refl w.heap.size w).alloc (Nat.le_refl _) (Obj.cells #[.int .i64 0, .string { data := #[] }, .int .i64 0] 25)
  have hzs : w.heap.size ≤ (w.alloc (Obj.cells #[.int .i64 0, .string { data := #[] }, .int .i64 0] 25)).heap.size := hz.size
  have hB := hz
  have he := ByteArray.toList_eq s
  unfold getA at h
  cases h1 : s.toList.isEmpty
  · have h1' : s.data.toList.isEmpty = false := by rw [← he]; exact h1
    rw [if_neg (by rw [h1']; decide)] at h
    have hsz : 1 ≤ s.size := by
      rw [← size_data]
      cases hh : s.data.toList with
      | nil => rw [hh] at h1'; cases h1'
      | cons x l => simp
    cases h2 : (s.toList == [110, 117, 108, 108])
    · have h2' : ¬ (s.data.toList == tNull) = true := by rw [← he]; show ¬ (s.toList == [110, 117, 108, 108]) = true; rw [h2]; decide
      rw [if_neg h2'] at h
      cases h3 : nameB s.data.toList
      · rw [if_neg (by rw [h3]; decide)] at h
        have H3 := Lib.hid h3
        clear h3 h2' h1' he
        have hg0 := getD_atN (s := s) (k := 0) hsz
        rw [hg0] at h
        clear hg0
        by_cases h4 : s[0] = 35
        · rw [if_pos h4] at h
          have h5 : ((s[0].toNat : Int) == 35) = true := by rw [h4]; rfl
          clear h4
          rcases hn : getN s.data.toList.tail with ⟨k, b2⟩
          rw [hn] at h
          rw [← extract_tail] at hn
          have Hn := Lib.hid hn
          clear hn
          cases b2
          · rw [if_neg (fun x => by cases x.1)] at h
            simp only [Prod.mk.injEq] at h
            obtain ⟨rfl, ht, rfl, rfl⟩ := h
            obtain rfl := ba_empty ht
            clear ht
            go_enter Try.func11, Try.ntmps11
            go_wp2_with (first | ((with_reducible refine (name_val _ _ H3.out _).mono ?_); rintro e w' ⟨rfl, rfl⟩) | ((with_reducible refine (gnget_val _ _ _ Hn.out _).mono ?_); rintro e w1 ⟨rfl, h0⟩; replace hB := hz.trans (h0.mono hzs); obtain ⟨c0, c1, c2, f0, f1, f2⟩ := box6 h0) | ((with_reducible refine (number_val _ _ _ _ Hm.out _).mono ?_); rintro e w1 ⟨rfl, h0⟩; replace hB := hz.trans (h0.mono hzs); obtain ⟨c0, c1, c2, f0, f1, f2⟩ := box6 h0))
            all_goals (try (go_quiet (fail); go_wp2))
            ((try simp only [Exit.inBlock, Exit.then]); refine bodyPost_ret_by (v := (.tuple #[.agg #[.int .i64 0, .string .empty, .int .i64 0], .bool false])) ((results_cell_tmp rfl _ _ _).trans (by go_simp; try rfl)) rfl ⟨rfl, ?_⟩)
            (repeat (first | with_reducible assumption | exact (Below.refl _ _).alloc (Nat.le_refl _) _ | exact Below.refl _ _ | (refine Below.drew ?_) | (refine Below.setCell ?_ ?_ _; rotate_left; first | exact Nat.le_refl _ | (dsimp only; omega)) | (refine Below.alloc ?_ ?_ _; rotate_left; first | exact Nat.le_refl _ | (simp; omega) | simp)))
          · by_cases h6 : 0 ≤ k
            · by_cases h7 : k ≤ 999
              · rw [if_pos ⟨rfl, h6, h7⟩] at h
                simp only [Prod.mk.injEq] at h
                obtain ⟨rfl, ht, rfl, rfl⟩ := h
                obtain rfl := ba_empty ht
                clear ht
                go_enter Try.func11, Try.ntmps11
                go_wp2_with (first | ((with_reducible refine (name_val _ _ H3.out _).mono ?_); rintro e w' ⟨rfl, rfl⟩) | ((with_reducible refine (gnget_val _ _ _ Hn.out _).mono ?_); rintro e w1 ⟨rfl, h0⟩; replace hB := hz.trans (h0.mono hzs); obtain ⟨c0, c1, c2, f0, f1, f2⟩ := box6 h0) | ((with_reducible refine (number_val _ _ _ _ Hm.out _).mono ?_); rintro e w1 ⟨rfl, h0⟩; replace hB := hz.trans (h0.mono hzs); obtain ⟨c0, c1, c2, f0, f1, f2⟩ := box6 h0))
                all_goals (try (go_quiet (fail); go_wp2))
                ((try simp only [Exit.inBlock, Exit.then]); refine bodyPost_ret_by (v := (.tuple #[.agg #[.int .i64 5, .string .empty, .int .i64 k], .bool true])) ((results_cell_tmp rfl _ _ _).trans (by go_simp; try rfl)) rfl ⟨rfl, ?_⟩)
                (repeat (first | with_reducible assumption | exact (Below.refl _ _).alloc (Nat.le_refl _) _ | exact Below.refl _ _ | (refine Below.drew ?_) | (refine Below.setCell ?_ ?_ _; rotate_left; first | exact Nat.le_refl _ | (dsimp only; omega)) | (refine Below.alloc ?_ ?_ _; rotate_left; first | exact Nat.le_refl _ | (simp; omega) | simp)))
              · rw [if_neg (fun x => h7 x.2.2)] at h
                simp only [Prod.mk.injEq] at h
                obtain ⟨rfl, ht, rfl, rfl⟩ := h
                obtain rfl := ba_empty ht
                clear ht
                go_enter Try.func11, Try.ntmps11
                go_wp2_with (first | ((with_reducible refine (name_val _ _ H3.out _).mono ?_); rintro e w' ⟨rfl, rfl⟩) | ((with_reducible refine (gnget_val _ _ _ Hn.out _).mono ?_); rintro e w1 ⟨rfl, h0⟩; replace hB := hz.trans (h0.mono hzs); obtain ⟨c0, c1, c2, f0, f1, f2⟩ := box6 h0) | ((with_reducible refine (number_val _ _ _ _ Hm.out _).mono ?_); rintro e w1 ⟨rfl, h0⟩; replace hB := hz.trans (h0.mono hzs); obtain ⟨c0, c1, c2, f0, f1, f2⟩ := box6 h0))
                all_goals (try (go_quiet (fail); go_wp2))
                ((try simp only [Exit.inBlock, Exit.then]); refine bodyPost_ret_by (v := (.tuple #[.agg #[.int .i64 0, .string .empty, .int .i64 0], .bool false])) ((results_cell_tmp rfl _ _ _).trans (by go_simp; try rfl)) rfl ⟨rfl, ?_⟩)
                (repeat (first | with_reducible assumption | exact (Below.refl _ _).alloc (Nat.le_refl _) _ | exact Below.refl _ _ | (refine Below.drew ?_) | (refine Below.setCell ?_ ?_ _; rotate_left; first | exact Nat.le_refl _ | (dsimp only; omega)) | (refine Below.alloc ?_ ?_ _; rotate_left; first | exact Nat.le_refl _ | (simp; omega) | simp)))
            · rw [if_neg (fun x => h6 x.2.1)] at h
              simp only [Prod.mk.injEq] at h
              obtain ⟨rfl, ht, rfl, rfl⟩ := h
              obtain rfl := ba_empty ht
              clear ht
              go_enter Try.func11, Try.ntmps11
              go_wp2_with (first | ((with_reducible refine (name_val _ _ H3.out _).mono ?_); rintro e w' ⟨rfl, rfl⟩) | ((with_reducible refine (gnget_val _ _ _ Hn.out _).mono ?_); rintro e w1 ⟨rfl, h0⟩; replace hB := hz.trans (h0.mono hzs); obtain ⟨c0, c1, c2, f0, f1, f2⟩ := box6 h0) | ((with_reducible refine (number_val _ _ _ _ Hm.out _).mono ?_); rintro e w1 ⟨rfl, h0⟩; replace hB := hz.trans (h0.mono hzs); obtain ⟨c0, c1, c2, f0, f1, f2⟩ := box6 h0))
              all_goals (try (go_quiet (fail); go_wp2))
              ((try simp only [Exit.inBlock, Exit.then]); refine bodyPost_ret_by (v := (.tuple #[.agg #[.int .i64 0, .string .empty, .int .i64 0], .bool false])) ((results_cell_tmp rfl _ _ _).trans (by go_simp; try rfl)) rfl ⟨rfl, ?_⟩)
              (repeat (first | with_reducible assumption | exact (Below.refl _ _).alloc (Nat.le_refl _) _ | exact Below.refl _ _ | (refine Below.drew ?_) | (refine Below.setCell ?_ ?_ _; rotate_left; first | exact Nat.le_refl _ | (dsimp only; omega)) | (refine Below.alloc ?_ ?_ _; rotate_left; first | exact Nat.le_refl _ | (simp; omega) | simp)))
        · rw [if_neg h4] at h
          have h5 : ((s[0].toNat : Int) == 35) = false := by
            rw [beq_eq_false_iff_ne]
            intro hh
            exact h4 (UInt8.toNat_inj.mp (by have : ((35 : UInt8).toNat : Int) = 35 := rfl; omega))
          clear h4
          rcases hm : numberV s.data.toList with ⟨K', n', b'⟩
          rw [hm] at h
          have Hm := Lib.hid hm
          clear hm
          simp only [Prod.mk.injEq] at h
          obtain ⟨rfl, ht, rfl, rfl⟩ := h
          obtain rfl := ba_empty ht
          clear ht
          go_enter Try.func11, Try.ntmps11
          go_wp2_with (first | ((with_reducible refine (name_val _ _ H3.out _).mono ?_); rintro e w' ⟨rfl, rfl⟩) | ((with_reducible refine (gnget_val _ _ _ Hn.out _).mono ?_); rintro e w1 ⟨rfl, h0⟩; replace hB := hz.trans (h0.mono hzs); obtain ⟨c0, c1, c2, f0, f1, f2⟩ := box6 h0) | ((with_reducible refine (number_val _ _ _ _ Hm.out _).mono ?_); rintro e w1 ⟨rfl, h0⟩; replace hB := hz.trans (h0.mono hzs); obtain ⟨c0, c1, c2, f0, f1, f2⟩ := box6 h0))
          ((try simp only [Exit.inBlock, Exit.then]); refine bodyPost_ret_by (v := (.tuple #[.agg #[.int .i64 K', .string .empty, .int .i64 n'], .bool b'])) ((results_cell_tmp rfl _ _ _).trans (by go_simp; try rfl)) rfl ⟨rfl, ?_⟩)
          (repeat (first | with_reducible assumption | exact (Below.refl _ _).alloc (Nat.le_refl _) _ | exact Below.refl _ _ | (refine Below.drew ?_) | (refine Below.setCell ?_ ?_ _; rotate_left; first | exact Nat.le_refl _ | (dsimp only; omega)) | (refine Below.alloc ?_ ?_ _; rotate_left; first | exact Nat.le_refl _ | (simp; omega) | simp)))
      · rw [if_pos h3] at h
        have H3 := Lib.hid h3
        clear h3 h2' h1' he
        simp only [Prod.mk.injEq] at h
        obtain ⟨rfl, ht, rfl, rfl⟩ := h
        obtain rfl := ba_eq ht
        clear ht
        go_enter Try.func11, Try.ntmps11
        go_wp2_with (first | ((with_reducible refine (name_val _ _ H3.out _).mono ?_); rintro e w' ⟨rfl, rfl⟩) | ((with_reducible refine (gnget_val _ _ _ Hn.out _).mono ?_); rintro e w1 ⟨rfl, h0⟩; replace hB := hz.trans (h0.mono hzs); obtain ⟨c0, c1, c2, f0, f1, f2⟩ := box6 h0) | ((with_reducible refine (number_val _ _ _ _ Hm.out _).mono ?_); rintro e w1 ⟨rfl, h0⟩; replace hB := hz.trans (h0.mono hzs); obtain ⟨c0, c1, c2, f0, f1, f2⟩ := box6 h0))
        ((try simp only [Exit.inBlock, Exit.then]); refine bodyPost_ret_by (v := (.tuple #[.agg #[.int .i64 1, .string t, .int .i64 0], .bool true])) ((results_cell_tmp rfl _ _ _).trans (by go_simp; try rfl)) rfl ⟨rfl, ?_⟩)
        (repeat (first | with_reducible assumption | exact (Below.refl _ _).alloc (Nat.le_refl _) _ | exact Below.refl _ _ | (refine Below.drew ?_) | (refine Below.setCell ?_ ?_ _; rotate_left; first | exact Nat.le_refl _ | (dsimp only; omega)) | (refine Below.alloc ?_ ?_ _; rotate_left; first | exact Nat.le_refl _ | (simp; omega) | simp)))
    · have h2' : (s.data.toList == tNull) = true := by rw [← he]; exact h2
      rw [if_pos h2'] at h
      clear h2' h1' he
      simp only [Prod.mk.injEq] at h
      obtain ⟨rfl, ht, rfl, rfl⟩ := h
      obtain rfl := ba_empty ht
      clear ht
      go_enter Try.func11, Try.ntmps11
      go_wp2_with (first | ((with_reducible refine (name_val _ _ H3.out _).mono ?_); rintro e w' ⟨rfl, rfl⟩) | ((with_reducible refine (gnget_val _ _ _ Hn.out _).mono ?_); rintro e w1 ⟨rfl, h0⟩; replace hB := hz.trans (h0.mono hzs); obtain ⟨c0, c1, c2, f0, f1, f2⟩ := box6 h0) | ((with_reducible refine (number_val _ _ _ _ Hm.out _).mono ?_); rintro e w1 ⟨rfl, h0⟩; replace hB := hz.trans (h0.mono hzs); obtain ⟨c0, c1, c2, f0, f1, f2⟩ := box6 h0))
      ((try simp only [Exit.inBlock, Exit.then]); refine bodyPost_ret_by (v := (.tuple #[.agg #[.int .i64 4, .string .empty, .int .i64 0], .bool true])) ((results_cell_tmp rfl _ _ _).trans (by go_simp; try rfl)) rfl ⟨rfl, ?_⟩)
      (repeat (first | with_reducible assumption | exact (Below.refl _ _).alloc (Nat.le_refl _) _ | exact Below.refl _ _ | (refine Below.drew ?_) | (refine Below.setCell ?_ ?_ _; rotate_left; first | exact Nat.le_refl _ | (dsimp only; omega)) | (refine Below.alloc ?_ ?_ _; rotate_left; first | exact Nat.le_refl _ | (simp; omega) | simp)))
  · have h1' : s.data.toList.isEmpty = true := by rw [← he]; exact h1
    rw [if_pos h1'] at h
    clear h1' he
    simp only [Prod.mk.injEq] at h
    obtain ⟨rfl, ht, rfl, rfl⟩ := h
    obtain rfl := ba_empty ht
    clear ht
    go_enter Try.func11, Try.ntmps11
    go_wp2_with (first | ((with_reducible refine (name_val _ _ H3.out _).mono ?_); rintro e w' ⟨rfl, rfl⟩) | ((with_reducible refine (gnget_val _ _ _ Hn.out _).mono ?_); rintro e w1 ⟨rfl, h0⟩; replace hB := hz.trans (h0.mono hzs); obtain ⟨c0, c1, c2, f0, f1, f2⟩ := box6 h0) | ((with_reducible refine (number_val _ _ _ _ Hm.out _).mono ?_); rintro e w1 ⟨rfl, h0⟩; replace hB := hz.trans (h0.mono hzs); obtain ⟨c0, c1, c2, f0, f1, f2⟩ := box6 h0))
    ((try simp only [Exit.inBlock, Exit.then]); refine bodyPost_ret_by (v := (.tuple #[.agg #[.int .i64 0, .string .empty, .int .i64 0], .bool false])) ((results_cell_tmp rfl _ _ _).trans (by go_simp; try rfl)) rfl ⟨rfl, ?_⟩)
    (repeat (first | with_reducible assumption | exact (Below.refl _ _).alloc (Nat.le_refl _) _ | exact Below.refl _ _ | (refine Below.drew ?_) | (refine Below.setCell ?_ ?_ _; rotate_left; first | exact Nat.le_refl _ | (dsimp only; omega)) | (refine Below.alloc ?_ ?_ _; rotate_left; first | exact Nat.le_refl _ | (simp; omega) | simp)))

end Go.Proofs.Ytafigegbjcbdoaa
