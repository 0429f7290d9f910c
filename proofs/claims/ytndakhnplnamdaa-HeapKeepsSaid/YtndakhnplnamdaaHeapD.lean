/- heap.Store. -/
import Derived.Test.YtndakhnplnamdaaHeapC
namespace Go.Proofs.Ytndakhnplnamdaa
open Go.RowKit

/-- a heap in which a field is written -/
def putOb (n : Nat) (ob : Nat → ObjD) (o : Vl) (at' : Int) (v : Vl) : Nat → ObjD :=
  fun i => if (loadV n ob o at').2 = true ∧ i = (o.2 - 1).toNat then { ob i with vs := fun j => if j = at'.toNat then v else (ob i).vs j } else ob i
/-- value i of object q written -/
def setOb (ob : Nat → ObjD) (q i : Nat) (v : Vl) : Nat → ObjD := fun a => if a = q then { ob q with vs := fun j => if j = i then v else (ob q).vs j } else ob a
theorem setOb_at (ob : Nat → ObjD) (q i : Nat) (v : Vl) : setOb ob q i v q = { ob q with vs := fun j => if j = i then v else (ob q).vs j } := if_pos rfl
theorem setOb_ne {ob : Nat → ObjD} {q a : Nat} (h : a ≠ q) (i : Nat) (v : Vl) : setOb ob q i v a = ob a := if_neg h
theorem setOb_sl (ob : Nat → ObjD) (q i : Nat) (v : Vl) (a : Nat) : slV (setOb ob q i v a) = slV (ob a) := by
  by_cases e : a = q
  · subst e; rw [setOb_at]; rfl
  · rw [setOb_ne e]
theorem HeapOwn.store {w : World} {B n m q i g l k : Nat} {v : Value} {ob : Nat → ObjD} (h : HeapOwn w B v n m ob) (hq : q < m) (hs : slV (ob q) = .slice (some ⟨g, 0, none⟩) l k) (s : ByteArray) (x : Int) :
    HeapOwn ((w.setCell ⟨g, i * 2, none⟩ (.string s)).setCell ⟨g, i * 2 + 1, none⟩ (.int .i64 x)) B v n m (setOb ob q i (s, x)) := by
  have hl : (ob q).l = l := by
    unfold slV at hs
    simp only [Value.slice.injEq] at hs
    exact hs.2.1
  have hv := h.vals q hq
  rw [hs, hl] at hv
  have g0 := grown_setCell w g (i * 2) (.string s)
  have g1 := grown_setCell (w.setCell ⟨g, i * 2, none⟩ (.string s)) g (i * 2 + 1) (.int .i64 x)
  have hg : (Value.slice (some ⟨g, 0, none⟩) l k).ownBlock = some g := rfl
  have hn : v.ownBlock ≠ some g := hv.unlike h.row (by decide) rfl
  refine ⟨((h.row.kept g0 (.inr hn)).kept g1 (.inr hn)).congr fun a b _ _ => ?_, fun j hj => ?_, fun a b y ha hb hab e1 e2 => ?_⟩
  · unfold objC
    have := setOb_sl ob q i (s, x) a
    unfold slV at this
    rw [this]
    by_cases e : a = q
    · subst e; rw [setOb_at]
    · rw [setOb_ne e]
  · rw [setOb_sl]
    by_cases e : j = q
    · subst e
      rw [setOb_at]
      dsimp only
      rw [hs, hl]
      have a0 := hv.set (by decide : 0 < 2) (i := i) (.string s)
      rw [Nat.add_zero] at a0
      have a1 := a0.set (by decide : 1 < 2) (i := i) (.int .i64 x)
      refine a1.congr fun a b _ hb => ?_
      rcases (by omega : b = 0 ∨ b = 1) with rfl | rfl
      · by_cases e2 : a = i <;> simp [valC, e2]
      · by_cases e2 : a = i <;> simp [valC, e2]
    · rw [setOb_ne e]
      have hne : (slV (ob j)).ownBlock ≠ some g := fun e1 => h.apart j q g hj hq e e1 (by rw [hs]; rfl)
      exact ((h.vals j hj).kept g0 (.inr hne)).kept g1 (.inr hne)
  · rw [setOb_sl] at e1 e2
    exact h.apart a b y ha hb hab e1 e2

def StorePost (w : World) (n : Nat) (ob : Nat → ObjD) (ok : Bool) (e : Ending) (w' : World) : Prop :=
  ∃ v oq, e = .returned (.tuple #[v, .bool ok]) ∧ HeapOwn w' w.heap.size v n n oq ∧ SameAs n oq ob ∧ Below w.heap.size w w'

theorem loadV_no {n : Nat} {ob : Nat → ObjD} {o : Vl} {at' : Int} {r : ByteArray} {m : Int} (h : loadV n ob o at' = ((r, m), false)) : ∀ v, putOb n ob o at' v = ob := fun v => by
  unfold putOb
  funext i
  rw [h, if_neg (by simp)]
theorem loadV_yes {n : Nat} {ob : Nat → ObjD} {s : ByteArray} {x at' : Int} {r : ByteArray} {m : Int} (h : loadV n ob (s, x) at' = ((r, m), true)) :
    ∃ q i : Nat, x = (q : Int) + 1 ∧ at' = (i : Int) ∧ q < n ∧ i < (ob q).l ∧ ∀ v, putOb n ob (s, x) at' v = setOb ob q i v := by
  have h0 := h
  unfold loadV at h
  split at h
  · rename_i hc
    obtain ⟨h1, h2, h3⟩ := hc
    have hi := leadsI h1
    obtain ⟨q, rfl⟩ : ∃ q : Nat, x = (q : Int) + 1 := ⟨(x - 1).toNat, by omega⟩
    obtain ⟨i, rfl⟩ : ∃ i : Nat, at' = (i : Int) := ⟨at'.toNat, by omega⟩
    have e : ((q : Int) + 1 - 1).toNat = q := by omega
    dsimp only at h3
    rw [e] at h3
    refine ⟨q, i, rfl, rfl, by omega, by omega, fun v => ?_⟩
    unfold putOb setOb
    funext a
    rw [h0]
    dsimp only
    rw [e]
    by_cases ea : a = q
    · subst ea; simp
    · simp [ea]
  · simp at h

set_option maxHeartbeats 2000000 in
theorem store_val (ph : Option Addr) (n ch : Nat) (ob : Nat → ObjD) (hn : n ≤ 1000) (hl : ∀ i, i < n → (ob i).l ≤ 1000) (s : ByteArray) (x at' : Int) (t : ByteArray) (y : Int) (w : World) (hO : Objs w ph n ob) :
    Calls Try.prog 14 #[.slice ph n ch, .agg #[.string s, .int .i64 x], .int .i64 at', .agg #[.string t, .int .i64 y]] w (StorePost w n (putOb n ob (s, x) at' (t, y)) (loadV n ob (s, x) at').2) := by
  rcases hL : loadV n ob (s, x) at' with ⟨⟨r, m⟩, ok⟩
  have hsz : ((w.alloc (Obj.cells #[.string s, .int .i64 x] 25)).alloc (Obj.cells #[.string t, .int .i64 y] 25)).heap.size = w.heap.size + 1 + 1 := by simp
  have hB0 : Below w.heap.size w ((w.alloc (Obj.cells #[.string s, .int .i64 x] 25)).alloc (Obj.cells #[.string t, .int .i64 y] 25)) := (boxes2 (c1 := [.string s, .int .i64 x]) (c2 := [.string t, .int .i64 y]) (Below.refl _ _)).2.2
  have HC := copied_val ph n ch ob hn hl _ (hO.below hB0)
  have HL := fun w1 (hb : Below w.heap.size w w1) => load_val ph n ch ob s x at' r m ok hL w1 (hO.below hb)
  have HP : ∀ w1 w2 vv oq, HeapOwn w1 (w.heap.size + 1 + 1) vv n n oq → Below w1.heap.size w1 w2 → HeapOwn w2 (w.heap.size + 1 + 1) vv n n oq := fun w1 w2 vv oq h hb => h.next hb (Nat.le_refl _)
  cases ok
  · have hno := loadV_no hL (t, y)
    rw [hno]
    go_enter Try.func14, Try.ntmps14
    go_wp2_with fail
    refine HC.mono ?_
    rintro e w1 ⟨v, oq, rfl, hH, hS, hb⟩
    rw [hsz] at hH
    obtain ⟨hx, hy, hB1⟩ := boxes2 (c1 := [.string s, .int .i64 x]) (c2 := [.string t, .int .i64 y]) hb
    have a0 := hx.c 0 _ rfl
    have a1 := hx.c 1 _ rfl
    obtain ⟨pu, cu, rfl⟩ := hH.row.slice
    clear HC hb hsz hB0
    go_wp2_with fail
    refine (HL _ hB1).mono ?_
    rintro e w2 ⟨rfl, hb2⟩
    have hH2 := HP _ _ _ _ hH hb2
    have hB2 := hB1.trans (hb2.mono hB1.size)
    have hP : StorePost w n ob false (.returned (.tuple #[.slice pu n cu, .bool false])) (w2.alloc (Obj.cells #[.string r, .int .i64 m] 25)) :=
      ⟨_, oq, rfl, (hH2.next ((Below.refl _ _).alloc (Nat.le_refl _) _) (Nat.le_refl _)).mono (by omega), hS, hB2.alloc hB2.size _⟩
    have b0 := (hx.nx hb2).c 0 _ rfl
    clear HL HP hH hH2 hB2 hB1 hS a0 a1 hx hy hb2 hL hno hO hl
    go_wp2
    go_ret2
    exact hP
  · obtain ⟨q, i, rfl, rfl, hq, hi, hyes⟩ := loadV_yes hL
    rw [hyes]
    go_enter Try.func14, Try.ntmps14
    go_wp2_with fail
    refine HC.mono ?_
    rintro e w1 ⟨v, oq, rfl, hH, hS, hb⟩
    rw [hsz] at hH
    obtain ⟨hx, hy, hB1⟩ := boxes2 (c1 := [.string s, .int .i64 ((q : Int) + 1)]) (c2 := [.string t, .int .i64 y]) hb
    have a0 := hx.c 0 _ rfl
    have a1 := hx.c 1 _ rfl
    obtain ⟨pu, cu, rfl⟩ := hH.row.slice
    clear HC hb hsz hB0
    go_wp2_with fail
    refine (HL _ hB1).mono ?_
    rintro e w2 ⟨rfl, hb2⟩
    have hH2 := HP _ _ _ _ hH hb2
    have hB2 := hB1.trans (hb2.mono hB1.size)
    clear a0 a1
    obtain ⟨w3, hw3⟩ : ∃ w3, (w2.alloc (Obj.cells #[.string r, .int .i64 m] 25)).drew = w3 := ⟨_, rfl⟩
    have hb3 : Below w2.heap.size w2 w3 := hw3 ▸ ((Below.refl _ _).alloc (Nat.le_refl _) _).drew
    have hH3 := hH2.next hb3 (Nat.le_refl _)
    have hx3 := (hx.nx hb2).nx hb3
    have hy3 := (hy.nx hb2).nx hb3
    have hB3 := hB2.trans (hb3.mono hB2.size)
    have b0 := (hx.nx hb2).c 0 _ rfl
    have b1 := (hx.nx hb2).c 1 _ rfl
    have hb3 := Lib.hid hw3
    clear hw3
    go_wp2
    clear b0 b1
    have a1 := hx3.c 1 _ rfl
    have b0 := hy3.c 0 _ rfl
    have b1 := hy3.c 1 _ rfl
    obtain ⟨g, cu', e, hg0, hg1, hcu, hc, hf⟩ := hH3.row.at (by omega)
    simp only [Value.slice.injEq, true_and] at e
    obtain ⟨rfl, rfl⟩ := e
    have hSq := hS q hq
    have hv3 := hH3.vals q hq
    obtain ⟨g2, k2, e2, hg20, hg21, hk2, hc2, hf2⟩ := hv3.at (by rw [hSq.2.1]; omega)
    have c1 := hc q 1 hq (by decide)
    have e2' : objC oq q 1 = .slice (some ⟨g2, 0, none⟩) (oq q).l k2 := e2
    rw [e2'] at c1
    have d0 := hc2 i 0 (by rw [hSq.2.1]; omega) (by decide)
    have d1 := hc2 i 1 (by rw [hSq.2.1]; omega) (by decide)
    rw [Nat.add_zero] at d0
    have f0 := hf2 (i * 2)
    have f1 := hf2 (i * 2 + 1)
    have hHf := hH3.store (i := i) hq e2 t y
    have hBf := (hB3.setCell (p := ⟨g2, i * 2, none⟩) (by dsimp only; omega) (.string t)).setCell (p := ⟨g2, i * 2 + 1, none⟩) (by dsimp only; omega) (.int .i64 y)
    have hlq : i < (oq q).l := by rw [hSq.2.1]; exact hi
    have hl63 : (oq q).l ≤ 1000 := by rw [hSq.2.1]; exact hl q hq
    have hP : StorePost w n (setOb ob q i (t, y)) true (.returned (.tuple #[.slice (some ⟨g, 0, none⟩) n cu, .bool true])) ((w3.setCell ⟨g2, i * 2, none⟩ (.string t)).setCell ⟨g2, i * 2 + 1, none⟩ (.int .i64 y)) :=
      ⟨_, _, rfl, hHf.mono (by omega), fun a ha => by
        by_cases ea : a = q
        · subst ea
          rw [setOb_at, setOb_at]
          obtain ⟨h1, h2, h3⟩ := hS a ha
          exact ⟨h1, h2, by dsimp only; rw [h3]⟩
        · rw [setOb_ne ea, setOb_ne ea]
          exact hS a ha, hBf⟩
    generalize (oq q).l = lq at *
    clear hHf hBf hH3 hH2 hH hS hSq hv3 e2 e2' hc hf hc2 hf2 hx3 hy3 hx hy hb2 hB3 hB2 hB1 HL HP hL hyes hO hl
    have ew : IntKind.i64.wrap (q : Int) = (q : Int) := IntWalk.i64_in _ (by omega)
    have el1 : (q : Int) < (n : Int) := by omega
    have el2 : (i : Int) < (lq : Int) := by omega
    refine wp_region_ser (S := SStore 10 (fun v => v = w3) (fun v => v = (w3.setCell ⟨g2, i * 2, none⟩ (.string t)).setCell ⟨g2, i * 2 + 1, none⟩ (.int .i64 y))) rfl (by kernel_rfl) (SStore.start hb3.out) ?_
    iterate 10 (first | ((refine Ser.step (a1 := ?_) rfl (fun L w1 K' Q' hS hi hR hd hK => ?_) ?_ ?_; rotate_left); (· ((skip); go_simp; (try simp only [Act.put, List.setIfInBounds_toArray, List.set_cons_zero, List.set_cons_succ]); exact hK.out _ (hS.pass rfl))); (· rfl)) | ((refine Ser.step (a1 := ?_) rfl (fun L w1 K' Q' hS hi hR hd hK => ?_) ?_ ?_; rotate_left); (· ((have e0 := hS.1 (hR.out 10 _ (by kernel_rfl) hi); subst e0); go_simp; (try simp only [Act.put, List.setIfInBounds_toArray, List.set_cons_zero, List.set_cons_succ]); exact hK.out _ (hS.pass rfl))); (· rfl)))
    (refine Ser.step (a1 := ?_) rfl (fun L w1 K' Q' hS hi hR hd hK => ?_) ?_ ?_; rotate_left)
    · have e0 := hS.1 hi
      subst e0
      go_simp
      exact hK.out _ (SStore.done rfl)
    · rfl
    refine Ser.nil fun w4 hS4 => ?_
    have e4 := hS4.2 rfl
    subst e4
    clear hS4 ew el1 el2 hb3 a1 b0 b1 c1 d0 d1 f0 f1
    go_wp2
    go_ret2
    exact hP
end Go.Proofs.Ytndakhnplnamdaa
