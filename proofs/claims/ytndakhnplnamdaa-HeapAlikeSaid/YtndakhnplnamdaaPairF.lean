/- heap.Alike: whether values are alike. -/
import Derived.Test.YtndakhnplnamdaaPairE
namespace Go.Proofs.Ytndakhnplnamdaa
open Go.RowKit Go.ChangeMaps

def AlikePost (w : World) (P : Prop) (e : Ending) (w' : World) : Prop := ∃ b : Bool, e = .returned (.bool b) ∧ (b = true ↔ P) ∧ Below w.heap.size w w'

/-- the state at the head of the search's loop -/
def AlSt (w wr : World) (B pb bt bb : Nat) (hv kv : Value) (n m : Nat) (ob oq : Nat → ObjD) (l l' : Nat) (vs us : Nat → Vl) (k : Nat) : Prop :=
  ∃ T td vt, PairSt wr B pb bt bb hv kv vt T td ∧ Search n m ob oq l l' vs us T td ∧ Below B w wr ∧ k = 2 * (n - T.length) + td.length

theorem PairSt.made (w : World) (hv kv : Value) (c1 c2 : Nat) : PairSt (((w.alloc (.map #[] c1)).alloc (.map #[] c2)).alloc (Obj.cells #[hv, kv, .map (some w.heap.size), .map (some (w.heap.size + 1)), .slice none 0 0] 59)) w.heap.size (w.heap.size + 1 + 1) w.heap.size (w.heap.size + 1) hv kv (.slice none 0 0) [] [] := by
  have s1 : (w.alloc (.map #[] c1)).heap.size = w.heap.size + 1 := by simp
  have s2 : ((w.alloc (.map #[] c1)).alloc (.map #[] c2)).heap.size = w.heap.size + 1 + 1 := by simp
  have m1 : MapIs (w.alloc (.map #[] c1)) w.heap.size [] := MapIs.made
  have m2 : MapIs ((w.alloc (.map #[] c1)).alloc (.map #[] c2)) (w.heap.size + 1) [] := by
    have := MapIs.made (w := w.alloc (.map #[] c1)) (clock := c2)
    rwa [s1] at this
  have g1 := World.grownBy_alloc (w.alloc (.map #[] c1)) (.map #[] c2) none
  have g2 := World.grownBy_alloc ((w.alloc (.map #[] c1)).alloc (.map #[] c2)) (Obj.cells #[hv, kv, .map (some w.heap.size), .map (some (w.heap.size + 1)), .slice none 0 0] 59) none
  have hx := Box.alloc ((w.alloc (.map #[] c1)).alloc (.map #[] c2)) [hv, kv, .map (some w.heap.size), .map (some (w.heap.size + 1)), .slice none 0 0] 59
  rw [s2] at hx
  exact
  { x := hx
    ty := ⟨#[hv, kv, .map (some w.heap.size), .map (some (w.heap.size + 1)), .slice none 0 0], (0, 0), by
      rw [← s2]
      exact heap_alloc_new _ _⟩
    mt := grown_map (grown_map m1 g1 (by simp)) g2 (by simp)
    mb := grown_map m2 g2 (by simp)
    o := World.ownsRow_nil _ _ _ _
    h0 := by omega, h1 := Nat.le_refl _, h2 := by omega, n1 := by omega, n2 := by omega, n3 := by omega }

set_option maxHeartbeats 4000000 in
theorem alike_val {ph pk pa pu : Option Addr} {n m l l' ch ck ca cu : Nat} (hn : n ≤ 100) (hm : m ≤ 1000) (ob oq : Nat → ObjD) (vs us : Nat → Vl) 
    (w : World) (hO : Objs w ph n ob) (hQ : Objs w pk m oq) (hV : Vals w pa l vs) (hU : Vals w pu l' us) :
    Calls Try.prog 20 #[.slice ph n ch, .slice pa l ca, .slice pk m ck, .slice pu l' cu] w (AlikePost w (AlikeP n m ob oq l l' vs us)) := by
  have bO := fun w1 (hb : Below w.heap.size w w1) => hO.below hb
  have bQ := fun w1 (hb : Below w.heap.size w w1) => hQ.below hb
  have bV := fun w1 (hb : Below w.heap.size w w1) => hV.below hb
  have bU := fun w1 (hb : Below w.heap.size w w1) => hU.below hb
  clear hO hQ hV hU
  have hB0 : Below w.heap.size w (((w.alloc (.map #[] 0)).alloc (.map #[] 0)).alloc (Obj.cells #[.slice ph n ch, .slice pk m ck, .map (some w.heap.size), .map (some (w.heap.size + 1)), .slice none 0 0] 59)) :=
    ((((Below.refl _ _).alloc (Nat.le_refl _) _).alloc (by simp) _).alloc (by simp; omega) _)
  have H0 := PairSt.made w (.slice ph n ch) (.slice pk m ck) 0 0
  have HV := values_val hn hm ob oq vs us Nice.nil (Nat.le_refl _) _ (ca := ca) (cu := cu) (bO _ hB0) (bQ _ hB0) (bV _ hB0) (bU _ hB0) (fun w1 hb => bO w1 (hB0.trans hb)) (fun w1 hb => bQ w1 (hB0.trans hb)) (fun w1 hb => bV w1 (hB0.trans hb)) (fun w1 hb => bU w1 (hB0.trans hb)) H0 hB0.size
  have hmm := @run_makeMap Try.prog
  by_cases hex : ∃ R, Fun2 R ∧ Sub [] R ∧ OkL n m l l' vs us R
  · have HY := HV.mono fun e w' hp => ValPost.yes hex hp
    clear HV hex
    go_enter Try.func20, Try.ntmps20
    go_wp2_with (go_at_call 28; refine HY.mono ?_; rintro e w1 ⟨rfl, U, vt, hP, hN, hk, hF, hB1⟩)
    have hS : AlSt w w1 w.heap.size (w.heap.size + 1 + 1) w.heap.size (w.heap.size + 1) (.slice ph n ch) (.slice pk m ck) n m ob oq l l' vs us (2 * (n - U.length) + U.length) := ⟨U, U, vt, hP, Search.start hN hk hF, hB0.trans hB1, rfl⟩
    clear hP hN hk hF hB1 HY H0 hB0 hmm
    go_loopg [10] (2 * (n - U.length) + U.length) (fun k p wr => AlSt w wr w.heap.size (w.heap.size + 1 + 1) w.heap.size (w.heap.size + 1) (.slice ph n ch) (.slice pk m ck) n m ob oq l l' vs us k)
    case atStart => exact hS
    case round =>
      clear hS
      obtain ⟨T, td, vt', hP, hS, hBr, rfl⟩ := hrel
      rcases List.eq_nil_or_concat td with rfl | ⟨td0, x, rfl⟩
      · obtain ⟨pu', cu', rfl⟩ := own_slice hP.o
        have c4 := hP.x.c 4 _ rfl
        have HG : AlikePost w (AlikeP n m ob oq l l' vs us) (.returned (.bool true)) wr := ⟨true, rfl, ⟨fun _ => hS.done, fun _ => rfl⟩, hBr⟩
        clear hP hS hBr bO bQ bV bU
        go_wp2
        go_ret
        exact HG
      · rw [List.concat_eq_append] at *
        obtain ⟨g, cu', rfl, hg1, hcu, -, -⟩ := own_last hP.o
        obtain ⟨q, hq⟩ : ∃ q, td0.length = q := ⟨_, rfl⟩
        rw [hq] at hP hcu
        obtain ⟨x1, x2⟩ := x
        have hI := hS.at
        obtain ⟨q1, rfl⟩ : ∃ q1 : Nat, x1 = (q1 : Int) + 1 := ⟨(x1 - 1).toNat, by have := hI.1.1; omega⟩
        obtain ⟨q2, rfl⟩ : ∃ q2 : Nat, x2 = (q2 : Int) + 1 := ⟨(x2 - 1).toNat, by have := hI.2.1; omega⟩
        have c4 := hP.x.c 4 _ rfl
        have F5 : ∀ w2, Below wr.heap.size wr w2 → w2.cell? ⟨w.heap.size + 1 + 1, 4, none⟩ = some (.slice (some ⟨g, 0, none⟩) (q + 1) cu') ∧ w2.cell? ⟨g, q * 2, none⟩ = some (.int .i64 ((q1 : Int) + 1)) ∧ w2.cell? ⟨g, q * 2 + 1, none⟩ = some (.int .i64 ((q2 : Int) + 1)) := fun w2 hb => by
          have hP2 := hP.next hb
          obtain ⟨g', cu'', e, _, _, h1, h2⟩ := own_last hP2.o
          have e : g = g' := by
            simp only [Value.slice.injEq, Option.some.injEq, Addr.mk.injEq, and_true] at e
            exact e.1
          subst e
          rw [hq] at h1 h2
          exact ⟨hP2.x.c 4 _ rfl, h1, h2⟩
        have hq63 : q ≤ 100 := by
          have := hS.ni.few
          have := hS.k
          simp at this
          omega
        have el : (q : Int) < (q : Int) + 1 := by omega
        have ew : IntKind.i64.wrap (q : Int) = (q : Int) := IntWalk.i64_in _ (by omega)
        go_wp2
        refine wp_region_serF (S := SBox wr 12 13 [.int .i64 0, .int .i64 0] [.int .i64 ((q1 : Int) + 1), .int .i64 ((q2 : Int) + 1)]) rfl (by kernel_rfl) (SBox.start (Below.refl _ _).drew) ?_
        clear c4
        iterate 12 (first | ((refine SerF.step (a1 := ?_) (fun _ => rfl) (fun V L w1 K' Q' hS hi hR hd hK => ?_) ?_ ?_ ?_; rotate_left); (· ((skip); go_simp; (try simp only [Act.put, List.setIfInBounds_toArray, List.set_cons_zero, List.set_cons_succ]); exact hK.out _ (hS.keep rfl rfl))); (· (intro V; rfl)); (· (exact fun _ _ _ _ _ _ => rfl))) | ((refine SerF.step (a1 := ?_) (fun _ => rfl) (fun V L w1 K' Q' hS hi hR hd hK => ?_) ?_ ?_ ?_; rotate_left); (· ((obtain ⟨c4, g0, g1⟩ := F5 _ hS.1); go_simp; (try simp only [Act.put, List.setIfInBounds_toArray, List.set_cons_zero, List.set_cons_succ]); exact hK.out _ (hS.keep rfl rfl))); (· (intro V; rfl)); (· (exact fun _ _ _ _ _ _ => rfl))))
        (refine SerF.free (fun _ => rfl) (fun V L w1 K' Q' hS hi hR hd hK => ?_) ?_; (· (go_simp; (try simp only [Act.put, List.setIfInBounds_toArray, List.set_cons_zero, List.set_cons_succ]); exact hK.out _ _ rfl (hS.made rfl hi _))); (try simp only [Act.put, List.setIfInBounds_toArray, List.set_cons_zero, List.set_cons_succ]))
        refine SerF.val undef (fun _ => rfl) (fun V L w1 K' Q' hS hi hR' hd hK => ?_) ?_
        · (have hl := hd.out (12) (by kernel_rfl); obtain ⟨p, hp, hp0, hp1, hx⟩ := hS.at hl hi; have c0 := hx.c 0 _ rfl; have c1 := hx.c 1 _ rfl; have f0 := hx.f 0 (by decide); have f1 := hx.f 1 (by decide); go_simp; refine hK.out _ _ (by simp only [hp]; rfl) (hS.fill hl hp hp0 (by simpa using hp1) ((hS.1.setCell hp0 _).setCell hp0 _) (hx.set2 _ _) rfl))
        refine SerF.nil fun V w2 hS => ?_
        obtain ⟨p, hp, hp0, hp1, hx⟩ := hS.done rfl rfl
        have hB2 := hS.1
        simp only [hp]
        clear hS hp
        have c4 := (F5 _ hB2).1
        go_wp2
        obtain ⟨w3, hw3⟩ : ∃ w3, w2.drew = w3 := ⟨_, rfl⟩
        have hP3 : PairSt w3 w.heap.size (w.heap.size + 1 + 1) w.heap.size (w.heap.size + 1) (.slice ph n ch) (.slice pk m ck) (.slice (some ⟨g, 0, none⟩) (q + 1) cu') T (td0 ++ [((q1 : Int) + 1, (q2 : Int) + 1)]) := hw3 ▸ (hP.next hB2).drew
        have hx3 : Box w3 p [.int .i64 ((q1 : Int) + 1), .int .i64 ((q2 : Int) + 1)] := hw3 ▸ hx.drew
        have hB3 : Below w.heap.size w w3 := hw3 ▸ (hBr.trans (hB2.mono hBr.size)).drew
        have hpp : (⟨w.heap.size + 1 + 1, 4, none⟩ : Addr).block ≠ p := by have := hP.x.lt; dsimp only; omega
        have c4 := hP3.x.c 4 _ rfl
        have f4 := hP3.x.f 4 (by simp)
        refine wp_region_ser (S := SStore 14 (fun v => v = w3) (fun v => v = w3.setCell ⟨w.heap.size + 1 + 1, 4, none⟩ (.slice (some ⟨g, 0, none⟩) q cu'))) rfl (by kernel_rfl) (SStore.start hw3) ?_
        have ek : (q : Int) ≤ (cu' : Int) := by omega
        iterate 12 (first | ((refine Ser.step (a1 := ?_) rfl (fun L w1 K' Q' hS hi hR hd hK => ?_) ?_ ?_; rotate_left); (· ((skip); go_simp; (try simp only [Act.put, List.setIfInBounds_toArray, List.set_cons_zero, List.set_cons_succ]); exact hK.out _ (hS.pass rfl))); (· rfl)) | ((refine Ser.step (a1 := ?_) rfl (fun L w1 K' Q' hS hi hR hd hK => ?_) ?_ ?_; rotate_left); (· ((have e0 := hS.1 (hR.out 14 _ (by kernel_rfl) hi); subst e0); go_simp; (try simp only [Act.put, List.setIfInBounds_toArray, List.set_cons_zero, List.set_cons_succ]); exact hK.out _ (hS.pass rfl))); (· rfl)))
        ((refine Ser.step (a1 := ?_) rfl (fun L w1 K' Q' hS hi hR hd hK => ?_) ?_ ?_; rotate_left); (· ((skip); go_simp; (try simp only [Act.put, List.setIfInBounds_toArray, List.set_cons_zero, List.set_cons_succ]); exact hK.out _ (hS.pass rfl))); (· rfl))
        ((refine Ser.step (a1 := ?_) rfl (fun L w1 K' Q' hS hi hR hd hK => ?_) ?_ ?_; rotate_left); (· ((skip); go_simp; (try simp only [Act.put, List.setIfInBounds_toArray, List.set_cons_zero, List.set_cons_succ]); exact hK.out _ (hS.pass rfl))); (· rfl))
        (refine Ser.step (a1 := ?_) rfl (fun L w1 K' Q' hS hi hR hd hK => ?_) ?_ ?_; rotate_left)
        · have e0 := hS.1 hi
          subst e0
          go_simp
          exact hK.out _ (SStore.done rfl)
        · rfl
        refine Ser.nil fun w4 hS4 => ?_
        have e4 := hS4.2 rfl
        clear hS4 c4 f4 hw3 ew el ek
        have E4 := Lib.hid e4
        clear e4
        go_wp2
        have e4 := E4.out
        clear E4
        have hP4 : PairSt w4 w.heap.size (w.heap.size + 1 + 1) w.heap.size (w.heap.size + 1) (.slice ph n ch) (.slice pk m ck) (.slice (some ⟨g, 0, none⟩) q cu') T td0 := by
          rw [e4]
          have := hP3
          rw [← hq] at this
          rw [← hq]
          exact this.pop
        have hx4 : Box w4 p [.int .i64 ((q1 : Int) + 1), .int .i64 ((q2 : Int) + 1)] := by rw [e4]; exact hx3.far hpp _
        have hB4 : Below w.heap.size w w4 := by rw [e4]; exact hB3.setCell (by dsimp only; omega) _
        clear e4 hP3 hx3 hB3 hpp hP F5 hx hB2 hp0 hp1
        have hn1 : q1 < n := by have := hI.1.2; omega
        have hn2 : q2 < m := by have := hI.2.2; omega
        have O1 := bO w4 hB4
        have O2 := bQ w4 hB4
        obtain ⟨Bh, oh, rfl, hBh, hch⟩ := O1.at' (by omega)
        obtain ⟨Bk, ok, rfl, hBk, hck⟩ := O2.at' (by omega)
        obtain ⟨a0, a1⟩ := hch q1 hn1
        obtain ⟨b0, b1⟩ := hck q2 hn2
        have F7 : ∀ w2, Below w4.heap.size w4 w2 → w2.cell? ⟨p, 0, none⟩ = some (.int .i64 ((q1 : Int) + 1)) ∧ w2.cell? ⟨p, 1, none⟩ = some (.int .i64 ((q2 : Int) + 1)) ∧ w2.cell? ⟨Bh, oh + q1 * 2, none⟩ = some (.string (ob q1).c) ∧ w2.cell? ⟨Bh, oh + q1 * 2 + 1, none⟩ = some (.slice (ob q1).p (ob q1).l (ob q1).k) ∧
            w2.cell? ⟨Bk, ok + q2 * 2, none⟩ = some (.string (oq q2).c) ∧ w2.cell? ⟨Bk, ok + q2 * 2 + 1, none⟩ = some (.slice (oq q2).p (oq q2).l (oq q2).k) := fun w2 hb => by
          have := hx4.nx hb
          exact ⟨this.c 0 _ rfl, this.c 1 _ rfl, by rw [hb.cell hBh]; exact a0, by rw [hb.cell hBh]; exact a1, by rw [hb.cell hBk]; exact b0, by rw [hb.cell hBk]; exact b1⟩
        clear a0 a1 b0 b1 hch hck hx4 O1 O2
        have ew1 : IntKind.i64.wrap (q1 : Int) = (q1 : Int) := IntWalk.i64_in _ (by omega)
        have ew2 : IntKind.i64.wrap (q2 : Int) = (q2 : Int) := IntWalk.i64_in _ (by omega)
        have el1 : (q1 : Int) < (n : Int) := by omega
        have el2 : (q2 : Int) < (m : Int) := by omega
        refine wp_region_serF (S := SBox2 w4 12 14 13 15 [.string { data := #[] }, .slice none 0 0] [.string (ob q1).c, .slice (ob q1).p (ob q1).l (ob q1).k] [.string (oq q2).c, .slice (oq q2).p (oq q2).l (oq q2).k]) rfl (by kernel_rfl) (SBox2.start (Below.refl _ _).drew) ?_
        iterate 12 (first | ((refine SerF.step (a1 := ?_) (fun _ => rfl) (fun V L w1 K' Q' hS hi hR hd hK => ?_) ?_ ?_ ?_; rotate_left); (· ((skip); go_simp; (try simp only [Act.put, List.setIfInBounds_toArray, List.set_cons_zero, List.set_cons_succ]); exact hK.out _ (hS.keep rfl rfl rfl rfl))); (· (intro V; rfl)); (· (exact fun _ _ _ _ _ _ => rfl))) | ((refine SerF.step (a1 := ?_) (fun _ => rfl) (fun V L w1 K' Q' hS hi hR hd hK => ?_) ?_ ?_ ?_; rotate_left); (· ((obtain ⟨c0, c1, a0, a1, b0, b1⟩ := F7 _ hS.b); go_simp; (try simp only [Act.put, List.setIfInBounds_toArray, List.set_cons_zero, List.set_cons_succ]); exact hK.out _ (hS.keep rfl rfl rfl rfl))); (· (intro V; rfl)); (· (exact fun _ _ _ _ _ _ => rfl))))
        (refine SerF.free (fun _ => rfl) (fun V L w1 K' Q' hS hi hR hd hK => ?_) ?_; (· (go_simp; (try simp only [Act.put, List.setIfInBounds_toArray, List.set_cons_zero, List.set_cons_succ]); exact hK.out _ _ rfl (hS.made1 rfl rfl rfl hi _))); (try simp only [Act.put, List.setIfInBounds_toArray, List.set_cons_zero, List.set_cons_succ]))
        (refine SerF.free (fun _ => rfl) (fun V L w1 K' Q' hS hi hR hd hK => ?_) ?_; (· (go_simp; (try simp only [Act.put, List.setIfInBounds_toArray, List.set_cons_zero, List.set_cons_succ]); exact hK.out _ _ rfl (hS.made2 rfl rfl rfl hi _))); (try simp only [Act.put, List.setIfInBounds_toArray, List.set_cons_zero, List.set_cons_succ]))
        refine SerF.val undef (fun _ => rfl) (fun V L w1 K' Q' hS hi hR' hd hK => ?_) ?_
        · have hl := hd.out 12 (by kernel_rfl)
          obtain ⟨p, hp, hp0, hp1, hx⟩ := hS.x.at hl hi
          have c0 := hx.c 0 _ rfl
          have c1 := hx.c 1 _ rfl
          have f0 := hx.f 0 (by decide)
          have f1 := hx.f 1 (by decide)
          go_simp
          refine hK.out _ _ (by simp only [hp]; rfl) (hS.fill1 hl hp hp0 (by simpa using hp1) ((hS.b.setCell hp0 _).setCell hp0 _) (hx.set2 _ _) grown_two rfl rfl rfl)
        refine SerF.val undef (fun _ => rfl) (fun V L w1 K' Q' hS hi hR' hd hK => ?_) ?_
        · have hl := hd.out 13 (by kernel_rfl)
          obtain ⟨p, hp, hp0, hp1, hx⟩ := hS.y.at hl hi
          have c0 := hx.c 0 _ rfl
          have c1 := hx.c 1 _ rfl
          have f0 := hx.f 0 (by decide)
          have f1 := hx.f 1 (by decide)
          go_simp
          refine hK.out _ _ (by simp only [hp]; rfl) (hS.fill2 hl hp hp0 (by simpa using hp1) ((hS.b.setCell hp0 _).setCell hp0 _) (hx.set2 _ _) grown_two rfl rfl rfl)
        refine SerF.nil fun V w5 hS5 => ?_
        obtain ⟨px, hpx, -, -, hxx⟩ := hS5.x.done rfl rfl
        obtain ⟨py, hpy, -, -, hxy⟩ := hS5.y.done rfl rfl
        have hB45 := hS5.b
        simp only [hpx, hpy]
        clear hS5 hpx hpy F7 ew1 ew2 el1 el2
        have hP5 := hP4.next hB45
        have hB5 : Below w.heap.size w w5 := hB4.trans (hB45.mono hB4.size)
        clear hP4 hB4 hB45
        have a0 := hxx.c 0 _ rfl
        have a1 := hxx.c 1 _ rfl
        have b0 := hxy.c 0 _ rfl
        have b1 := hxy.c 1 _ rfl
        have en1 : nth ob ((q1 : Int) + 1) = ob q1 := by unfold nth; congr 1; omega
        have en2 : nth oq ((q2 : Int) + 1) = oq q2 := by unfold nth; congr 1; omega
        have HM := hS.miss
        have HGo := fun U => hS.go (U := U)
        have HL := fun U => hS.less (U := U)
        have hni := hS.ni
        have hkk : td0.length ≤ T.length := by
          have := hS.k
          simp at this
          omega
        clear hS
        dsimp only at HM HGo
        rw [en1, en2] at HM HGo
        by_cases hcl : (ob q1).c.toList = (oq q2).c.toList
        · have hcc := str_ext hcl
          have bO' := fun w1 hb => bO w1 (hB5.trans hb)
          have bQ' := fun w1 hb => bQ w1 (hB5.trans hb)
          have HV := values_val hn hm ob oq (ob q1).vs (oq q2).vs hni hkk w5 (ca := (ob q1).k) (cu := (oq q2).k) (bO w5 hB5) (bQ w5 hB5) ((bO w5 hB5).v q1 hn1) ((bQ w5 hB5).v q2 hn2) bO' bQ' (fun w1 hb => (bO' w1 hb).v q1 hn1) (fun w1 hb => (bQ' w1 hb).v q2 hn2) hP5 hB5.size
          by_cases hex : ∃ R, Fun2 R ∧ Sub T R ∧ OkL n m (ob q1).l (oq q2).l (ob q1).vs (oq q2).vs R
          · have HY := HV.mono fun e w' hp => ValPost.yes hex hp
            have Hcc := Lib.hid hcc
            have ec : ((ob q1).c.toList == (oq q2).c.toList) = true := by simpa using hcl
            clear HV hex HM hcc hcl bO' bQ' bO bQ bV bU hP5 en1 en2 hxx hxy hn1 hn2 hni hkk hI
            go_wp2_with (go_at_call 28; refine HY.mono ?_; rintro e w6 ⟨rfl, U6, vt6, hP6, hN6, hk6, hF6, hB6⟩)
            have hM := HL U6 hN6
            have hst : AlSt w w6 w.heap.size (w.heap.size + 1 + 1) w.heap.size (w.heap.size + 1) (.slice (some ⟨Bh, oh, none⟩) n ch) (.slice (some ⟨Bk, ok, none⟩) m ck) n m ob oq l l' vs us (2 * (n - (T ++ U6).length) + (td0 ++ U6).length) :=
              ⟨T ++ U6, td0 ++ U6, vt6, hP6, HGo U6 Hcc.out hN6 hk6 hF6, hB5.trans hB6, rfl⟩
            clear HGo HL hP6 hN6 hk6 hF6 hB6 HY
            go_roundg (2 * (n - (T ++ U6).length) + (td0 ++ U6).length)
            case measure => exact hM
            case rel => exact hst
          · have HN := HV.mono fun e w' hp => ValPost.no hex hp
            have HG : ∀ w', Below w.heap.size w5 w' → AlikePost w (AlikeP n m ob oq l l' vs us) (.returned (.bool false)) w' := fun w' hb =>
              ⟨false, rfl, ⟨(fun e => by cases e), fun h => absurd h (HM fun h2 => hex h2.2)⟩, hB5.trans hb⟩
            have ec : ((ob q1).c.toList == (oq q2).c.toList) = true := by simpa using hcl
            clear HV hex HM hcc hcl bO' bQ' bO bQ bV bU hP5 en1 en2 HGo HL hxx hxy hn1 hn2 hni hkk hI
            go_wp2_with (go_at_call 28; refine HN.mono ?_; rintro e w6 ⟨rfl, hb⟩)
            have HG := HG _ hb
            go_ret
            exact HG
        · have HG : AlikePost w (AlikeP n m ob oq l l' vs us) (.returned (.bool false)) w5 := ⟨false, rfl, ⟨(fun e => by cases e), fun h => absurd h (HM fun h2 => hcl (congrArg ByteArray.toList h2.1))⟩, hB5⟩
          have ec : ((ob q1).c.toList == (oq q2).c.toList) = false := by simpa using hcl
          clear HM HGo HL hcl bO bQ bV bU hP5 en1 en2
          go_wp2
          go_ret
          exact HG
  · have HN := HV.mono fun e w' hp => ValPost.no hex hp
    have HG : ∀ w', Below w.heap.size (((w.alloc (.map #[] 0)).alloc (.map #[] 0)).alloc (Obj.cells #[.slice ph n ch, .slice pk m ck, .map (some w.heap.size), .map (some (w.heap.size + 1)), .slice none 0 0] 59)) w' →
        AlikePost w (AlikeP n m ob oq l l' vs us) (.returned (.bool false)) w' := fun w' hb => ⟨false, rfl, ⟨(fun e => by cases e), fun h => absurd h (Search.never fun R h1 h2 h3 => hex ⟨R, h1, h2, h3⟩)⟩, hB0.trans hb⟩
    clear HV hex hB0 H0
    go_enter Try.func20, Try.ntmps20
    go_wp2_with (go_at_call 28; refine HN.mono ?_; rintro e w1 ⟨rfl, hb⟩)
    have HG := HG _ hb
    go_ret
    exact HG
end Go.Proofs.Ytndakhnplnamdaa
