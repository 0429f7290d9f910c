/- The pairing of heap.Alike: value, of whatever two values; values. -/
import Derived.Test.YtndakhnplnamdaaPairC
namespace Go.Proofs.Ytndakhnplnamdaa
open Go.RowKit Go.ChangeMaps

section
variable {B pb bt bb : Nat} {hv kv vt : Value} {n m : Nat} {T td : List (Int × Int)}
theorem str_ext {s t : ByteArray} (h : s.toList = t.toList) : s = t := by
  rw [ByteArray.toList_eq, ByteArray.toList_eq] at h
  cases s; cases t
  congr 1
  exact Array.ext' h
set_option maxHeartbeats 2000000 in
theorem value_val {ph pk : Option Addr} {ch ck : Nat} (hn : n ≤ 100) (hm : m ≤ 1000) (ob oq : Nat → ObjD) (s t : ByteArray) (x y : Int) (hT : Nice n m T) (htd : td.length ≤ T.length)
    (w : World) (hO : Objs w ph n ob) (hQ : Objs w pk m oq) (h : PairSt w B pb bt bb (.slice ph n ch) (.slice pk m ck) vt T td) (hB : B ≤ w.heap.size) :
    Calls Try.prog 30 #[.pointer (some ⟨pb, 0, none⟩), .agg #[.string s, .int .i64 x], .agg #[.string t, .int .i64 y]] w (ValPost w B pb bt bb (.slice ph n ch) (.slice pk m ck) n m T td fun R => OkV n m R (s, x) (t, y)) := by
  by_cases hst : s.toList = t.toList
  · obtain rfl := str_ext hst
    by_cases hs : s.toList = [114, 101, 102]
    · exact value_ref hn hm ob oq s x y hs hT htd w hO hQ h hB
    · have hr : isRef s = false := by simpa [isRef] using hs
      have hl : leadsB n (s, x) = false := by simp [leadsB, hr]
      have hl2 : leadsB m (s, y) = false := by simp [leadsB, hr]
      have e1 : (s.toList == [114, 101, 102]) = false := by simpa using hs
      have hb2 : Below w.heap.size w ((w.alloc (Obj.cells #[.string s, .int .i64 x] 25)).alloc (Obj.cells #[.string s, .int .i64 y] 25)) := (boxes2 (c1 := [.string s, .int .i64 x]) (c2 := [.string s, .int .i64 y]) (Below.refl _ _)).2.2
      have hp := h.next hb2
      have HF : ∀ z, (x == y) = z → ValPost w B pb bt bb (.slice ph n ch) (.slice pk m ck) n m T td (fun R => OkV n m R (s, x) (s, y)) (.returned (.bool z)) ((w.alloc (Obj.cells #[.string s, .int .i64 x] 25)).alloc (Obj.cells #[.string s, .int .i64 y] 25)) := by
        intro z hz
        cases z
        · refine .inr ⟨rfl, fun R _ _ hk => ?_, hb2.mono hB⟩
          have := hk.p hr
          simp at hz
          exact hz this
        · refine .inl ⟨rfl, [], vt, by simpa using hp, by simpa using hT, ⟨rfl, fun _ => by simpa using hz, (fun e => by rw [hr] at e; cases e), (fun e => by rw [hr] at e; cases e), (fun e => by rw [hl] at e; cases e)⟩, fun R _ hS _ => by simpa using hS, hb2.mono hB⟩
      clear hst hs hr hl hl2 hb2 hp h hO hQ hT
      rcases e2 : (x == y) with _ | _
      all_goals
        have HG := HF _ e2
        clear HF
        go_enter Try.func30, Try.ntmps30
        go_wp2
        go_ret
        exact HG
  · have e1 : (s.toList == t.toList) = false := by simpa using hst
    have hb2 : Below w.heap.size w ((w.alloc (Obj.cells #[.string s, .int .i64 x] 25)).alloc (Obj.cells #[.string t, .int .i64 y] 25)) := (boxes2 (c1 := [.string s, .int .i64 x]) (c2 := [.string t, .int .i64 y]) (Below.refl _ _)).2.2
    have HG : ValPost w B pb bt bb (.slice ph n ch) (.slice pk m ck) n m T td (fun R => OkV n m R (s, x) (t, y)) (.returned (.bool false)) ((w.alloc (Obj.cells #[.string s, .int .i64 x] 25)).alloc (Obj.cells #[.string t, .int .i64 y] 25)) :=
      .inr ⟨rfl, ok_off (fun e => hst (congrArg ByteArray.toList e)), hb2.mono hB⟩
    clear hst hb2 h hO hQ hT
    go_enter Try.func30, Try.ntmps30
    go_wp2
    go_ret
    exact HG

def OkL (n m l l' : Nat) (vs us : Nat → Vl) (R : Rel2) : Prop := l = l' ∧ OkVs n m R l vs us
/-- a step's outcome is decided by what it begins with -/
theorem ValPost.yes {w w' : World} {ok : Rel2 → Prop} {e : Ending} (hex : ∃ R, Fun2 R ∧ Sub T R ∧ ok R) (h : ValPost w B pb bt bb hv kv n m T td ok e w') :
    e = .returned (.bool true) ∧ ∃ U vt', PairSt w' B pb bt bb hv kv vt' (T ++ U) (td ++ U) ∧ Nice n m (T ++ U) ∧ ok (inL (T ++ U)) ∧ (∀ R, Fun2 R → Sub T R → ok R → Sub (T ++ U) R) ∧ Below B w w' := by
  rcases h with h | ⟨_, h1, _⟩
  · exact h
  · obtain ⟨R, h2, h3, h4⟩ := hex
    exact absurd h4 (h1 R h2 h3)
theorem ValPost.no {w w' : World} {ok : Rel2 → Prop} {e : Ending} (hex : ¬ ∃ R, Fun2 R ∧ Sub T R ∧ ok R) (h : ValPost w B pb bt bb hv kv n m T td ok e w') : e = .returned (.bool false) ∧ Below B w w' := by
  rcases h with ⟨_, U, vt', h1, h2, h3, _⟩ | ⟨h1, _, h2⟩
  · exact absurd ⟨_, h2.fun2, fun x hx => List.mem_append_left _ hx, h3⟩ hex
  · exact ⟨h1, h2⟩
/-- the state of 'values' at round i -/
def ValsAt (w wr : World) (B pb bt bb : Nat) (hv kv : Value) (n m : Nat) (T td : List (Int × Int)) (vs us : Nat → Vl) (i : Nat) : Prop :=
  ∃ U vt', PairSt wr B pb bt bb hv kv vt' (T ++ U) (td ++ U) ∧ Nice n m (T ++ U) ∧ OkVs n m (inL (T ++ U)) i vs us ∧ (∀ R, Fun2 R → Sub T R → OkVs n m R i vs us → Sub (T ++ U) R) ∧ Below B w wr
theorem ValsAt.start {w : World} {vs us : Nat → Vl} (h : PairSt w B pb bt bb hv kv vt T td) (hT : Nice n m T) : ValsAt w w B pb bt bb hv kv n m T td vs us 0 :=
  ⟨[], vt, by simpa using h, by simpa using hT, fun j hj => absurd hj (Nat.not_lt_zero j), fun R _ hS _ => by simpa using hS, Below.refl _ _⟩
theorem okVs_succ {R : Rel2} {i : Nat} {vs us : Nat → Vl} : OkVs n m R (i + 1) vs us ↔ OkVs n m R i vs us ∧ OkV n m R (vs i) (us i) :=
  ⟨fun h => ⟨fun j hj => h j (by omega), h i (by omega)⟩, fun h j hj => by
    by_cases e : j = i
    · subst e; exact h.2
    · exact h.1 j (by omega)⟩
theorem ValsAt.yes {w wr w' : World} {vs us : Nat → Vl} {i : Nat} {U : List (Int × Int)} (hF : ∀ R, Fun2 R → Sub T R → OkVs n m R i vs us → Sub (T ++ U) R) (hv0 : OkVs n m (inL (T ++ U)) i vs us) (hB : Below B w wr)
    (h : ∃ U' vt', PairSt w' B pb bt bb hv kv vt' (T ++ U ++ U') (td ++ U ++ U') ∧ Nice n m (T ++ U ++ U') ∧ OkV n m (inL (T ++ U ++ U')) (vs i) (us i) ∧ (∀ R, Fun2 R → Sub (T ++ U) R → OkV n m R (vs i) (us i) → Sub (T ++ U ++ U') R) ∧ Below B wr w') :
    ValsAt w w' B pb bt bb hv kv n m T td vs us (i + 1) := by
  obtain ⟨U', vt', h1, h2, h3, h4, h5⟩ := h
  refine ⟨U ++ U', vt', by simpa using h1, by simpa using h2, ?_, fun R hR hS hk => ?_, hB.trans h5⟩
  · have := okVs_succ.2 ⟨hv0.mono inL_app, h3⟩
    simpa using this
  · obtain ⟨k1, k2⟩ := okVs_succ.1 hk
    simpa using h4 R hR (hF R hR hS k1) k2

set_option maxHeartbeats 4000000 in
theorem values_val {ph pk : Option Addr} {ch ck : Nat} (hn : n ≤ 100) (hm : m ≤ 1000) (ob oq : Nat → ObjD) {pa pu : Option Addr} {l l' ca cu : Nat} (vs us : Nat → Vl) (hT : Nice n m T) (htd : td.length ≤ T.length) 
    (w : World) (_ : Objs w ph n ob) (_ : Objs w pk m oq) (hV : Vals w pa l vs) (hU : Vals w pu l' us) (bO : ∀ w1, Below B w w1 → Objs w1 ph n ob) (bQ : ∀ w1, Below B w w1 → Objs w1 pk m oq) (bV : ∀ w1, Below B w w1 → Vals w1 pa l vs) (bU : ∀ w1, Below B w w1 → Vals w1 pu l' us)
    (h : PairSt w B pb bt bb (.slice ph n ch) (.slice pk m ck) vt T td) (hB : B ≤ w.heap.size) :
    Calls Try.prog 28 #[.pointer (some ⟨pb, 0, none⟩), .slice pa l ca, .slice pu l' cu] w (ValPost w B pb bt bb (.slice ph n ch) (.slice pk m ck) n m T td (OkL n m l l' vs us)) := by
  have hlm := hV.m
  have hlm' := hU.m
  by_cases hll : l = l'
  · subst hll
    clear hV hU
    go_enter Try.func28, Try.ntmps28
    go_wp2
    go_loopw [15] (fun i wr => ∃ q : Nat, q ≤ l ∧ i = .int .i64 (q : Int) ∧ ValsAt w wr B pb bt bb (.slice ph n ch) (.slice pk m ck) n m T td vs us q) (fun i _ => l - (intOf i).toNat)
    case atStart => exact ⟨0, Nat.zero_le _, rfl, ValsAt.start h hT⟩
    case round =>
      obtain ⟨q, hq, rfl, hA⟩ := hrel
      clear h hT
      obtain ⟨U, vt', hP, hN, hv0, hF, hBr⟩ := hA
      have hBsz : B ≤ wr.heap.size := Nat.le_trans hB hBr.size
      by_cases hlt : q < l
      · obtain ⟨Bv, o, rfl, hBv, hcv⟩ := (bV wr hBr).at' (by omega)
        obtain ⟨Bu, o2, rfl, hBu, hcu⟩ := (bU wr hBr).at' (by omega)
        obtain ⟨c0, c1⟩ := hcv q hlt
        obtain ⟨d0, d1⟩ := hcu q hlt
        have HC := value_val (w := wr.drew) hn hm ob oq (vs q).1 (us q).1 (vs q).2 (us q).2 hN (by simpa using htd) ((bO wr hBr).below (Below.refl _ _).drew) ((bQ wr hBr).below (Below.refl _ _).drew) hP.drew hBsz
        by_cases hex : ∃ R, Fun2 R ∧ Sub (T ++ U) R ∧ OkV n m R (vs q) (us q)
        · have HY := HC.mono fun e w' hp => ValPost.yes hex hp
          clear HC hex hcv hcu bO bQ bV bU hP
          have HJ : ∀ w', (∃ U' vt', PairSt w' B pb bt bb (.slice ph n ch) (.slice pk m ck) vt' (T ++ U ++ U') (td ++ U ++ U') ∧ Nice n m (T ++ U ++ U') ∧ OkV n m (inL (T ++ U ++ U')) (vs q) (us q) ∧ (∀ R, Fun2 R → Sub (T ++ U) R → OkV n m R (vs q) (us q) → Sub (T ++ U ++ U') R) ∧ Below B wr.drew w') →
              ValsAt w w' B pb bt bb (.slice ph n ch) (.slice pk m ck) n m T td vs us (q + 1) := fun w' h => ValsAt.yes hF hv0 hBr.drew h
          clear hF hv0 hN
          go_wp2
          refine wp_region_ser (S := SStore 9 (fun w1 => w1 = wr.drew) (fun w1 => ValsAt w w1 B pb bt bb (.slice ph n ch) (.slice pk m ck) n m T td vs us (q + 1))) rfl (by kernel_rfl) (SStore.start rfl) ?_
          iterate 9 (first | ((refine Ser.step (a1 := ?_) rfl (fun L w1 K' Q' hS hi hR hd hK => ?_) ?_ ?_; rotate_left); (· ((skip); go_simp; (try simp only [Act.put, List.setIfInBounds_toArray, List.set_cons_zero, List.set_cons_succ]); exact hK.out _ (hS.pass rfl))); (· rfl)) | ((refine Ser.step (a1 := ?_) rfl (fun L w1 K' Q' hS hi hR hd hK => ?_) ?_ ?_; rotate_left); (· ((have e0 := hS.1 (hR.out 9 _ (by kernel_rfl) hi); subst e0); go_simp; (try simp only [Act.put, List.setIfInBounds_toArray, List.set_cons_zero, List.set_cons_succ]); exact hK.out _ (hS.pass rfl))); (· rfl)))
          (refine Ser.step (a1 := ?_) rfl (fun L w1 K' Q' hS hi hR hd hK => ?_) ?_ ?_; rotate_left)
          · have e0 := hS.1 hi
            subst e0
            go_simp
            go_wp2_with (go_at_call 30; refine HY.mono ?_; rintro e w2 ⟨rfl, hJ⟩)
            (try simp only [Act.put, List.setIfInBounds_toArray, List.set_cons_zero, List.set_cons_succ])
            exact hK.out _ (SStore.done (HJ _ hJ))
          · rfl
          ((refine Ser.step (a1 := ?_) rfl (fun L w1 K' Q' hS hi hR hd hK => ?_) ?_ ?_; rotate_left); (· ((skip); go_simp; (try simp only [Act.put, List.setIfInBounds_toArray, List.set_cons_zero, List.set_cons_succ]); exact hK.out _ (hS.pass rfl))); (· rfl))
          refine Ser.nil fun w1 hS => ?_
          have hA := hS.2 rfl
          clear hS
          go_wp2
          go_roundw
          case rel => exact ⟨q + 1, by omega, by go_num, hA⟩
          case measure => simp [intOf]; omega
        · have HY := HC.mono fun e w' hp => ValPost.no hex hp
          have HJ : ∀ w', Below B wr.drew w' → ValPost w B pb bt bb (.slice ph n ch) (.slice pk m ck) n m T td (OkL n m l l vs us) (.returned (.bool false)) w' := fun w' hb =>
            .inr ⟨rfl, fun R hR hS hk => hex ⟨R, hR, hF R hR hS (fun j hj => hk.2 j (by omega)), hk.2 q hlt⟩, hBr.drew.trans hb⟩
          clear HC hex hcv hcu bO bQ bV bU hP hF hv0 hN
          go_wp2
          refine wp_region_ser (S := SStore 9 (fun w1 => w1 = wr.drew) (fun w1 => ValPost w B pb bt bb (.slice ph n ch) (.slice pk m ck) n m T td (OkL n m l l vs us) (.returned (.bool false)) w1)) rfl (by kernel_rfl) (SStore.start rfl) ?_
          iterate 9 (first | ((refine Ser.step (a1 := ?_) rfl (fun L w1 K' Q' hS hi hR hd hK => ?_) ?_ ?_; rotate_left); (· ((skip); go_simp; (try simp only [Act.put, List.setIfInBounds_toArray, List.set_cons_zero, List.set_cons_succ]); exact hK.out _ (hS.pass rfl))); (· rfl)) | ((refine Ser.step (a1 := ?_) rfl (fun L w1 K' Q' hS hi hR hd hK => ?_) ?_ ?_; rotate_left); (· ((have e0 := hS.1 (hR.out 9 _ (by kernel_rfl) hi); subst e0); go_simp; (try simp only [Act.put, List.setIfInBounds_toArray, List.set_cons_zero, List.set_cons_succ]); exact hK.out _ (hS.pass rfl))); (· rfl)))
          (refine Ser.step (a1 := ?_) rfl (fun L w1 K' Q' hS hi hR hd hK => ?_) ?_ ?_; rotate_left)
          · have e0 := hS.1 hi
            subst e0
            go_simp
            go_wp2_with (go_at_call 30; refine HY.mono ?_; rintro e w2 ⟨rfl, hJ⟩)
            (try simp only [Act.put, List.setIfInBounds_toArray, List.set_cons_zero, List.set_cons_succ])
            exact hK.out _ (SStore.done (HJ _ hJ))
          · rfl
          ((refine Ser.step (a1 := ?_) rfl (fun L w1 K' Q' hS hi hR hd hK => ?_) ?_ ?_; rotate_left); (· ((skip); go_simp; (try simp only [Act.put, List.setIfInBounds_toArray, List.set_cons_zero, List.set_cons_succ]); exact hK.out _ (hS.pass rfl))); (· rfl))
          refine Ser.nil fun w1 hS => ?_
          have hA := hS.2 rfl
          clear hS
          go_wp2
          go_ret
          exact hA
      · obtain rfl : q = l := by omega
        have HG : ValPost w B pb bt bb (.slice ph n ch) (.slice pk m ck) n m T td (OkL n m q q vs us) (.returned (.bool true)) wr := .inl ⟨rfl, U, vt', hP, hN, ⟨rfl, hv0⟩, fun R hR hS hk => hF R hR hS hk.2, hBr⟩
        clear hP hN hv0 hF hBr
        go_wp2
        go_ret
        exact HG
  · have e1 : ((l : Int) != (l' : Int)) = true := by rw [bne_iff_ne]; omega
    have HG : ValPost w B pb bt bb (.slice ph n ch) (.slice pk m ck) n m T td (OkL n m l l' vs us) (.returned (.bool false)) w :=
      .inr ⟨rfl, fun R _ _ hk => hll hk.1, Below.refl _ _⟩
    clear hll h hT hV hU
    go_enter Try.func28, Try.ntmps28
    go_wp2
    go_ret
    exact HG
end
end Go.Proofs.Ytndakhnplnamdaa
