/- The pairing of heap.Alike: pair, value. -/
import Derived.Test.YtndakhnplnamdaaPairB
import Derived.Test.YtndakhnplnamdaaAlike
namespace Go.Proofs.Ytndakhnplnamdaa
open Go.RowKit Go.ChangeMaps

/-- what a step of the search shows -/
def ValPost (w : World) (B pb bt bb : Nat) (hv kv : Value) (n m : Nat) (T td : List (Int × Int)) (ok : Rel2 → Prop) (e : Ending) (w' : World) : Prop :=
  (e = .returned (.bool true) ∧ ∃ U vt', PairSt w' B pb bt bb hv kv vt' (T ++ U) (td ++ U) ∧ Nice n m (T ++ U) ∧ ok (inL (T ++ U)) ∧ (∀ R, Fun2 R → Sub T R → ok R → Sub (T ++ U) R) ∧ Below B w w') ∨
  (e = .returned (.bool false) ∧ (∀ R, Fun2 R → Sub T R → ¬ ok R) ∧ Below B w w')

section
variable {B pb bt bb : Nat} {hv kv vt : Value} {n m : Nat} {T td : List (Int × Int)}
theorem sub_push {R : Rel2} {a b : Int} (h : Sub T R) (hab : R a b) : Sub (T ++ [(a, b)]) R := by
  intro x hx
  rcases List.mem_append.1 hx with hx | hx
  · exact h x hx
  · have : x = (a, b) := by simpa using hx
    rw [this]
    exact hab
theorem pair_val {a b : Int} (hn : n ≤ 100) (hT : Nice n m T) (htd : td.length ≤ T.length) (hi : InR n m a b) (w : World) (h : PairSt w B pb bt bb hv kv vt T td) :
    Calls Try.prog 31 #[.pointer (some ⟨pb, 0, none⟩), .int .i64 a, .int .i64 b] w (ValPost w B pb bt bb hv kv n m T td fun R => R a b) := by
  have hfew := hT.few
  by_cases hk : (look T a).2 = true ∨ (look (T.map swp) b).2 = true
  · refine (pair_known B pb bt bb hv kv vt T td a b w h hk).mono ?_
    rintro e w' ⟨rfl, rfl⟩
    have ho := pair_old hT hk rfl
    generalize ((look T a).2 && (look (T.map swp) b).2 && (look T a).1 == b && (look (T.map swp) b).1 == a) = ok at ho ⊢
    cases ok
    · exact .inr ⟨rfl, ho.2 rfl, Below.refl _ _⟩
    · refine .inl ⟨rfl, [], vt, by simpa using h, by simpa using hT, ?_, fun R _ hS _ => by simpa using hS, Below.refl _ _⟩
      have := ho.1 rfl
      unfold inL
      simpa using this
  · have h1 : (look T a).2 = false := by
      cases hh : (look T a).2 with
      | false => rfl
      | true => exact absurd (.inl hh) hk
    have h2 : (look (T.map swp) b).2 = false := by
      cases hh : (look (T.map swp) b).2 with
      | false => rfl
      | true => exact absurd (.inr hh) hk
    have g1 := look_no h1
    have g2 : ∀ x ∈ T, x.2 ≠ b := fun x hx => look_no h2 (swp x) (List.mem_map.2 ⟨x, hx, rfl⟩)
    refine (pair_fresh B pb bt bb hv kv vt T td a b (by omega) g1 g2 w h).mono ?_
    rintro e w' ⟨rfl, vt', hP, hB⟩
    refine .inl ⟨rfl, [(a, b)], vt', hP, hT.push hi g1 g2, ?_, fun R _ hS hab => sub_push hS hab, hB⟩
    unfold inL
    simp

theorem object_ex {n : Nat} (hn : n ≤ 9223372036854775807) (ob : Nat → ObjD) (s : ByteArray) (k : Int) : ∃ (c : ByteArray) (p : Option Addr) (l q : Nat), ∀ (ph : Option Addr) (ch : Nat) (w : World), Objs w ph n ob →
    Calls Try.prog 27 #[.slice ph n ch, .agg #[.string s, .int .i64 k]] w fun e w' => e = .returned (.tuple #[.agg #[.string c, .slice p l q], .bool (leadsB n (s, k))]) ∧ Below w.heap.size w w' := by
  rcases hl : leadsB n (s, k) with _ | _
  · exact ⟨_, _, _, _, fun ph ch w _ => object_no ph n ch hn s k hl w⟩
  · exact ⟨_, _, _, _, fun ph ch w hO => object_yes ph n ch ob s k hl w hO⟩

theorem Box.set2 {w : World} {p : Nat} {a b : Value} (h : Box w p [a, b]) (x y : Value) : Box ((w.setCell ⟨p, 0, none⟩ x).setCell ⟨p, 1, none⟩ y) p [x, y] :=
  (h.set (i := 0) (by simp) x).set (i := 1) (by simp) y

theorem ref_toList {s : ByteArray} (h : isRef s = true) : s.toList = [114, 101, 102] := by simpa [isRef] using h
theorem ok_off {v u : Vl} (h : v.1 ≠ u.1) : ∀ R, Fun2 R → Sub T R → ¬ OkV n m R v u := fun _ _ _ hk => h hk.t

def OkRef (n m : Nat) (s : ByteArray) (x y : Int) (l1 l2 : Bool) : Prop := ∀ R, OkV n m R (s, x) (s, y) ↔ (l1 = l2 ∧ (x = 0 ↔ y = 0) ∧ (l1 = true → R x y))
theorem ok_none {w wx : World} {s : ByteArray} {x y : Int} {z : Bool} (gp : PairSt wx B pb bt bb hv kv vt T td) (hT : Nice n m T) (hB : Below B w wx)
    (hok : OkRef n m s x y false false) (ex : (x == 0) = z) (ey : (y == 0) = z) :
    ValPost w B pb bt bb hv kv n m T td (fun R => OkV n m R (s, x) (s, y)) (.returned (.bool true)) wx := by
  refine .inl ⟨rfl, [], vt, by simpa using gp, by simpa using hT, (hok _).2 ⟨rfl, ?_, (fun e => by cases e)⟩, fun R _ hS _ => by simpa using hS, hB⟩
  cases z <;> simp at ex ey <;> omega
theorem ok_zero {w wx : World} {s : ByteArray} {x y : Int} {z1 z2 l1 l2 : Bool} 
    (hok : OkRef n m s x y l1 l2) (ex : (x == 0) = z1) (ey : (y == 0) = z2) (hz : z1 ≠ z2) (hB : Below B w wx) :
    ValPost w B pb bt bb hv kv n m T td (fun R => OkV n m R (s, x) (s, y)) (.returned (.bool false)) wx := by
  refine .inr ⟨rfl, fun R _ _ hk => ?_, hB⟩
  have := ((hok R).1 hk).2.1
  cases z1 <;> cases z2 <;> simp at ex ey hz <;> omega
theorem ok_leads {w wx : World} {s : ByteArray} {x y : Int} {l1 l2 : Bool} 
    (hok : OkRef n m s x y l1 l2) (hz : l1 ≠ l2) (hB : Below B w wx) :
    ValPost w B pb bt bb hv kv n m T td (fun R => OkV n m R (s, x) (s, y)) (.returned (.bool false)) wx :=
  .inr ⟨rfl, fun R _ _ hk => hz ((hok R).1 hk).1, hB⟩
theorem ok_pair {w wx w' : World} {s : ByteArray} {x y : Int} {e : Ending} (h : ValPost wx B pb bt bb hv kv n m T td (fun R => R x y) e w')
    (hok : OkRef n m s x y true true) (ex : (x == 0) = false) (ey : (y == 0) = false) (hB : Below B w wx) :
    ValPost w B pb bt bb hv kv n m T td (fun R => OkV n m R (s, x) (s, y)) e w' := by
  have hz : x = 0 ↔ y = 0 := by simp at ex ey; omega
  rcases h with ⟨rfl, U, vt', h1, h2, h3, h4, h5⟩ | ⟨rfl, h1, h2⟩
  · exact .inl ⟨rfl, U, vt', h1, h2, (hok _).2 ⟨rfl, hz, fun _ => h3⟩, fun R hF hS hk => h4 R hF hS (((hok R).1 hk).2.2 rfl), hB.trans h5⟩
  · exact .inr ⟨rfl, fun R hF hS hk => h1 R hF hS (((hok R).1 hk).2.2 rfl), hB.trans h2⟩
theorem ValPost.bool {w w' : World} {ok : Rel2 → Prop} {e : Ending} (h : ValPost w B pb bt bb hv kv n m T td ok e w') : ∃ b, e = .returned (.bool b) := by
  rcases h with ⟨rfl, _⟩ | ⟨rfl, _⟩ <;> exact ⟨_, rfl⟩

set_option maxHeartbeats 4000000 in
theorem value_ref {ph pk : Option Addr} {ch ck : Nat} (hn : n ≤ 100) (hm : m ≤ 1000) (ob oq : Nat → ObjD) (s : ByteArray) (x y : Int) (hs : s.toList = [114, 101, 102]) (hT : Nice n m T) (htd : td.length ≤ T.length)
    (w : World) (hO : Objs w ph n ob) (hQ : Objs w pk m oq) (h : PairSt w B pb bt bb (.slice ph n ch) (.slice pk m ck) vt T td) (hB : B ≤ w.heap.size) :
    Calls Try.prog 30 #[.pointer (some ⟨pb, 0, none⟩), .agg #[.string s, .int .i64 x], .agg #[.string s, .int .i64 y]] w (ValPost w B pb bt bb (.slice ph n ch) (.slice pk m ck) n m T td fun R => OkV n m R (s, x) (s, y)) := by
  obtain ⟨c1, p1, l1, q1, hc1⟩ := object_ex (n := n) (by omega) ob s x
  obtain ⟨c2, p2, l2, q2, hc2⟩ := object_ex (n := m) (by omega) oq s y
  have G : ∀ w1, Below ((w.alloc (Obj.cells #[.string s, .int .i64 x] 25)).alloc (Obj.cells #[.string s, .int .i64 y] 25)).heap.size ((w.alloc (Obj.cells #[.string s, .int .i64 x] 25)).alloc (Obj.cells #[.string s, .int .i64 y] 25)) w1 →
      Box w1 w.heap.size [.string s, .int .i64 x] ∧ Box w1 (w.heap.size + 1) [.string s, .int .i64 y] ∧ PairSt w1 B pb bt bb (.slice ph n ch) (.slice pk m ck) vt T td ∧ Objs w1 ph n ob ∧ Objs w1 pk m oq ∧ Below B w w1 := fun w1 hb => by
    obtain ⟨h1, h2, h3⟩ := boxes2 (c1 := [.string s, .int .i64 x]) (c2 := [.string s, .int .i64 y]) hb
    exact ⟨h1, h2, h.next h3, hO.below h3, hQ.below h3, h3.mono hB⟩
  have hi : leadsB n (s, x) = true → leadsB m (s, y) = true → InR n m x y := fun h1 h2 => ⟨leads_in h1, leads_in h2⟩
  have hok : OkRef n m s x y (leadsB n (s, x)) (leadsB m (s, y)) := fun R =>
    ⟨fun hk => ⟨hk.ld (by simp [isRef, hs]), hk.z (by simp [isRef, hs]), hk.g⟩, fun hk => ⟨rfl, (fun e => by simp [isRef, hs] at e), fun _ => hk.1, fun _ => hk.2.1, hk.2.2⟩⟩
  clear hO hQ h
  go_enter Try.func30, Try.ntmps30
  generalize leadsB n (s, x) = L1 at hc1 hi hok
  generalize leadsB m (s, y) = L2 at hc2 hi hok
  go_wp2
  refine wp_region_serF (S := SBox ((w.alloc (Obj.cells #[.string s, .int .i64 x] 25)).alloc (Obj.cells #[.string s, .int .i64 y] 25)) 9 10 [.string { data := #[] }, .slice none 0 0] [.string c1, .slice p1 l1 q1]) rfl (by kernel_rfl) (SBox.start (Below.refl _ _).drew) ?_
  iterate 5 (first | ((refine SerF.step (a1 := ?_) (fun _ => rfl) (fun V L w1 K' Q' hS hi hR hd hK => ?_) ?_ ?_ ?_; rotate_left); (· ((skip); go_simp; (try simp only [Act.put, List.setIfInBounds_toArray, List.set_cons_zero, List.set_cons_succ]); exact hK.out _ (hS.keep rfl rfl))); (· (intro V; rfl)); (· (exact fun _ _ _ _ _ _ => rfl))) | ((refine SerF.step (a1 := ?_) (fun _ => rfl) (fun V L w1 K' Q' hS hi hR hd hK => ?_) ?_ ?_ ?_; rotate_left); (· ((obtain ⟨ga, gb, gp, -⟩ := G _ hS.1; have a0 := ga.c 0 _ rfl; have a1 := ga.c 1 _ rfl; have b0 := gp.x.c 0 _ rfl; clear ga gb gp); go_simp; (try simp only [Act.put, List.setIfInBounds_toArray, List.set_cons_zero, List.set_cons_succ]); exact hK.out _ (hS.keep rfl rfl))); (· (intro V; rfl)); (· (exact fun _ _ _ _ _ _ => rfl))))
  ((refine SerF.step (a1 := ?_) (fun _ => rfl) (fun V L w1 K' Q' hS hi hR hd hK => ?_) ?_ ?_ ?_; rotate_left); (· (go_simp; go_wp2_with ((go_at_call 27; refine (hc1 _ _ _ (G _ hS.1).2.2.2.1).mono ?_; rintro e w2 ⟨rfl, hb⟩)); (try simp only [Act.put, List.setIfInBounds_toArray, List.set_cons_zero, List.set_cons_succ]); exact hK.out _ (hS.call hb rfl rfl))); (· (intro V; rfl)); (· (exact fun _ _ _ _ _ _ => rfl)))
  ((refine SerF.step (a1 := ?_) (fun _ => rfl) (fun V L w1 K' Q' hS hi hR hd hK => ?_) ?_ ?_ ?_; rotate_left); (· ((skip); go_simp; (try simp only [Act.put, List.setIfInBounds_toArray, List.set_cons_zero, List.set_cons_succ]); exact hK.out _ (hS.keep rfl rfl))); (· (intro V; rfl)); (· (exact fun _ _ _ _ _ _ => rfl)))
  ((refine SerF.step (a1 := ?_) (fun _ => rfl) (fun V L w1 K' Q' hS hi hR hd hK => ?_) ?_ ?_ ?_; rotate_left); (· ((skip); go_simp; (try simp only [Act.put, List.setIfInBounds_toArray, List.set_cons_zero, List.set_cons_succ]); exact hK.out _ (hS.keep rfl rfl))); (· (intro V; rfl)); (· (exact fun _ _ _ _ _ _ => rfl)))
  ((refine SerF.step (a1 := ?_) (fun _ => rfl) (fun V L w1 K' Q' hS hi hR hd hK => ?_) ?_ ?_ ?_; rotate_left); (· ((skip); go_simp; (try simp only [Act.put, List.setIfInBounds_toArray, List.set_cons_zero, List.set_cons_succ]); exact hK.out _ (hS.keep rfl rfl))); (· (intro V; rfl)); (· (exact fun _ _ _ _ _ _ => rfl)))
  (refine SerF.free (fun _ => rfl) (fun V L w1 K' Q' hS hi hR hd hK => ?_) ?_; (· (go_simp; (try simp only [Act.put, List.setIfInBounds_toArray, List.set_cons_zero, List.set_cons_succ]); exact hK.out _ _ rfl (hS.made rfl hi _))); (try simp only [Act.put, List.setIfInBounds_toArray, List.set_cons_zero, List.set_cons_succ]))
  refine SerF.val undef (fun _ => rfl) (fun V L w1 K' Q' hS hi hR' hd hK => ?_) ?_
  · (have hl := hd.out (9) (by kernel_rfl); obtain ⟨p, hp, hp0, hp1, hx⟩ := hS.at hl hi; have c0 := hx.c 0 _ rfl; have c1 := hx.c 1 _ rfl; have f0 := hx.f 0 (by decide); have f1 := hx.f 1 (by decide); go_simp; refine hK.out _ _ (by simp only [hp]; rfl) (hS.fill hl hp hp0 (by simpa using hp1) ((hS.1.setCell hp0 _).setCell hp0 _) (hx.set2 _ _) rfl))
  simp only [Act.put]
  ((refine SerF.step (a1 := ?_) (fun _ => rfl) (fun V L w1 K' Q' hS hi hR hd hK => ?_) ?_ ?_ ?_; rotate_left); (· ((skip); go_simp; (try simp only [Act.put, List.setIfInBounds_toArray, List.set_cons_zero, List.set_cons_succ]); exact hK.out _ (hS.keep rfl rfl))); (· (intro V; rfl)); (· (exact fun _ _ _ _ _ _ => rfl)))
  refine SerF.nil fun V w1 hS => ?_
  obtain ⟨p, hp, hp0, hp1, -⟩ := hS.done rfl rfl
  have hB1 := hS.1
  simp only [hp]
  clear hS hp
  go_wp2
  refine wp_region_serF (S := SBox w1 9 10 [.string { data := #[] }, .slice none 0 0] [.string c2, .slice p2 l2 q2]) rfl (by kernel_rfl) (SBox.start (Below.refl _ _).drew) ?_
  iterate 5 (first | ((refine SerF.step (a1 := ?_) (fun _ => rfl) (fun V L w1 K' Q' hS hi hR hd hK => ?_) ?_ ?_ ?_; rotate_left); (· ((skip); go_simp; (try simp only [Act.put, List.setIfInBounds_toArray, List.set_cons_zero, List.set_cons_succ]); exact hK.out _ (hS.keep rfl rfl))); (· (intro V; rfl)); (· (exact fun _ _ _ _ _ _ => rfl))) | ((refine SerF.step (a1 := ?_) (fun _ => rfl) (fun V L w1 K' Q' hS hi hR hd hK => ?_) ?_ ?_ ?_; rotate_left); (· ((obtain ⟨ga, gb, gp, -⟩ := G _ (bthen hB1 hS.1); have a0 := gb.c 0 _ rfl; have a1 := gb.c 1 _ rfl; have b0 := gp.x.c 1 _ rfl; clear ga gb gp); go_simp; (try simp only [Act.put, List.setIfInBounds_toArray, List.set_cons_zero, List.set_cons_succ]); exact hK.out _ (hS.keep rfl rfl))); (· (intro V; rfl)); (· (exact fun _ _ _ _ _ _ => rfl))))
  ((refine SerF.step (a1 := ?_) (fun _ => rfl) (fun V L w1 K' Q' hS hi hR hd hK => ?_) ?_ ?_ ?_; rotate_left); (· (go_simp; go_wp2_with ((go_at_call 27; refine (hc2 _ _ _ (G _ (bthen hB1 hS.1)).2.2.2.2.1).mono ?_; rintro e w2 ⟨rfl, hb⟩)); (try simp only [Act.put, List.setIfInBounds_toArray, List.set_cons_zero, List.set_cons_succ]); exact hK.out _ (hS.call hb rfl rfl))); (· (intro V; rfl)); (· (exact fun _ _ _ _ _ _ => rfl)))
  ((refine SerF.step (a1 := ?_) (fun _ => rfl) (fun V L w1 K' Q' hS hi hR hd hK => ?_) ?_ ?_ ?_; rotate_left); (· ((skip); go_simp; (try simp only [Act.put, List.setIfInBounds_toArray, List.set_cons_zero, List.set_cons_succ]); exact hK.out _ (hS.keep rfl rfl))); (· (intro V; rfl)); (· (exact fun _ _ _ _ _ _ => rfl)))
  ((refine SerF.step (a1 := ?_) (fun _ => rfl) (fun V L w1 K' Q' hS hi hR hd hK => ?_) ?_ ?_ ?_; rotate_left); (· ((skip); go_simp; (try simp only [Act.put, List.setIfInBounds_toArray, List.set_cons_zero, List.set_cons_succ]); exact hK.out _ (hS.keep rfl rfl))); (· (intro V; rfl)); (· (exact fun _ _ _ _ _ _ => rfl)))
  ((refine SerF.step (a1 := ?_) (fun _ => rfl) (fun V L w1 K' Q' hS hi hR hd hK => ?_) ?_ ?_ ?_; rotate_left); (· ((skip); go_simp; (try simp only [Act.put, List.setIfInBounds_toArray, List.set_cons_zero, List.set_cons_succ]); exact hK.out _ (hS.keep rfl rfl))); (· (intro V; rfl)); (· (exact fun _ _ _ _ _ _ => rfl)))
  (refine SerF.free (fun _ => rfl) (fun V L w1 K' Q' hS hi hR hd hK => ?_) ?_; (· (go_simp; (try simp only [Act.put, List.setIfInBounds_toArray, List.set_cons_zero, List.set_cons_succ]); exact hK.out _ _ rfl (hS.made rfl hi _))); (try simp only [Act.put, List.setIfInBounds_toArray, List.set_cons_zero, List.set_cons_succ]))
  refine SerF.val undef (fun _ => rfl) (fun V L w1 K' Q' hS hi hR' hd hK => ?_) ?_
  · (have hl := hd.out (9) (by kernel_rfl); obtain ⟨p, hp, hp0, hp1, hx⟩ := hS.at hl hi; have c0 := hx.c 0 _ rfl; have c1 := hx.c 1 _ rfl; have f0 := hx.f 0 (by decide); have f1 := hx.f 1 (by decide); go_simp; refine hK.out _ _ (by simp only [hp]; rfl) (hS.fill hl hp hp0 (by simpa using hp1) ((hS.1.setCell hp0 _).setCell hp0 _) (hx.set2 _ _) rfl))
  simp only [Act.put]
  ((refine SerF.step (a1 := ?_) (fun _ => rfl) (fun V L w1 K' Q' hS hi hR hd hK => ?_) ?_ ?_ ?_; rotate_left); (· ((skip); go_simp; (try simp only [Act.put, List.setIfInBounds_toArray, List.set_cons_zero, List.set_cons_succ]); exact hK.out _ (hS.keep rfl rfl))); (· (intro V; rfl)); (· (exact fun _ _ _ _ _ _ => rfl)))
  refine SerF.nil fun V w3 hS => ?_
  obtain ⟨p', hp', hp0', hp1', -⟩ := hS.done rfl rfl
  obtain ⟨ga, gb, gp, -, -, hBB⟩ := G _ (bthen hB1 hS.1)
  simp only [hp']
  clear hS hp' hc1 hc2 G
  have a0 := ga.c 0 _ rfl
  have a1 := ga.c 1 _ rfl
  have b0 := gb.c 0 _ rfl
  have b1 := gb.c 1 _ rfl
  cases L1 <;> cases L2
  · rcases ex : (x == 0) with _ | _ <;> rcases ey : (y == 0) with _ | _
    · go_wp2
      go_ret
      exact ok_none gp hT hBB hok ex ey
    · go_wp2
      go_ret
      exact ok_zero hok ex ey (by simp) hBB
    · go_wp2
      go_ret
      exact ok_zero hok ex ey (by simp) hBB
    · go_wp2
      go_ret
      exact ok_none gp hT hBB hok ex ey
  · go_wp2
    go_ret
    exact ok_leads hok (by simp) hBB
  · go_wp2
    go_ret
    exact ok_leads hok (by simp) hBB
  · have hI := hi rfl rfl
    have ex : (x == 0) = false := by rw [beq_eq_false_iff_ne]; have := hI.1.1; omega
    have ey : (y == 0) = false := by rw [beq_eq_false_iff_ne]; have := hI.2.1; omega
    go_wp2_with ((with_reducible refine (pair_val hn hT htd hI _ gp).mono ?_); intro e w4 hp4; obtain ⟨b, rfl⟩ := hp4.bool)
    go_ret
    exact ok_pair hp4 hok ex ey hBB
end
end Go.Proofs.Ytndakhnplnamdaa
