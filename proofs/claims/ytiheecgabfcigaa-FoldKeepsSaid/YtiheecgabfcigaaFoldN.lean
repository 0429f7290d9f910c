/- FoldKeeps: the walk. -/
import Derived.Test.YtiheecgabfcigaaFoldM
import Derived.Test.YtiheecgabfcigaaFoldV
import Derived.Test.YtiheecgabfcigaaLift
namespace Go.Proofs.Ytiheecgabfcigaa
open Go.RowKit

theorem NewS.at' {B g : Nat} {w : World} {l j : Nat} (h : NewS B w (some ⟨g, 0, none⟩) l) (hj : j < l) : w.frozen? ⟨g, j, none⟩ = false ∧ ∃ s, w.cell? ⟨g, j, none⟩ = some (.string s) := by
  obtain ⟨g', e, _, _, h3⟩ := h (by omega)
  obtain rfl : g = g' := by simpa using e
  exact h3 j hj
theorem NewS.put {B g : Nat} {w : World} {l q : Nat} (h : NewS B w (some ⟨g, 0, none⟩) l) (_ : q < l) (s : ByteArray) : NewS B (w.setCell ⟨g, q, none⟩ (.string s)) (some ⟨g, 0, none⟩) l := fun h0 => by
  obtain ⟨g', e, h1, h2, h3⟩ := h h0
  obtain rfl : g = g' := by simpa using e
  refine ⟨g, rfl, h1, by simpa using h2, fun j hj => ?_⟩
  obtain ⟨hf, s', hc⟩ := h3 j hj
  refine ⟨by rw [World.frozen?_setCell]; exact hf, ?_⟩
  by_cases e : q = j
  · subst e
    exact ⟨s, World.cell?_setCell_same _ _ _ hc⟩
  · exact ⟨s', by rw [World.cell?_setCell_other _ _ _ _ (addr_off e)]; exact hc⟩
/-- 'append([]T{}, src...)', whatever src is -/
theorem wpList_append_any {P : Program} {w : World} {ops : Array Oper} {rest : List Oper} {o : Oper} {a : Act} {Q : Exit → Act → World → Prop} (hgd : o.guard = none) (s x : Operand) (t : TypeId)
    (ho : o.op = .call { callee := .builtin .append, args := #[s, x], argTypes := #[t, t] })
    (base : Nat) (e : TypeId) (i : TypeInfo) (z : Value) (size bytes : Nat) (ht : P.underlying t = some (.slice e)) (hi : P.info? e = some i) (hz : i.zero = some z)
    (hsize : i.size = size) (hby : i.bytes = bytes) (hzs : z.cells.size = size) (hsz : 0 < size)
    (v : Value) (n : Nat) (xs : List Value) (hs : a.eval s = v) (hown : w.ownsRow base e size v n xs)
    (pa : Option Addr) (m c : Nat) (news : List Value) (hx : a.eval x = .slice pa m c) (hnone : pa = none → m = 0 ∧ c = 0) (hl : news.length = m * size)
    (hnews : ∀ ad, pa = some ad → ∀ j u, news[j]? = some u → w.cell? (ad.add j) = some u) (h1 : ∀ u ∈ news, u.oneCell' = true)
    (h63 : n + m ≤ maxLen) (hbytes : (n + m) * bytes ≤ 140737488355328) (hbase : base ≤ w.heap.size)
    (h : ∀ v' w', w'.ownsRow base e size v' (n + m) (xs ++ news) → w.grownBy w' v.ownBlock → wpList P ops Q rest (a.put o.dst v') w') : wpList P ops Q (o :: rest) a w := by
  cases pa with
  | none =>
    obtain ⟨rfl, rfl⟩ := hnone rfl
    have hn : news = [] := List.length_eq_zero_iff.1 (by rw [hl]; simp)
    subst hn
    exact wpList_append_own_none hgd s x t ho base e i size ht hi v n xs hs hown hx (h v w (by simpa using hown) (grown_refl _ _))
  | some ad => exact wpList_append_own w hgd s x t ho base e i z size bytes ht hi hz hsize hby hzs hsz v n xs hs hown ad m c news hx hl (hnews ad rfl) h1 h63 hbytes hbase (fun v' w' k1 k2 _ => h v' w' k1 k2)

theorem own_made {W : World} {B k : Nat} {e : TypeId} {size : Nat} (hk : W.heap.size = k) (hB : B ≤ k) : (W.alloc (Obj.cells #[] e)).ownsRow B e size (.slice (some ⟨k, 0, none⟩) 0 0) 0 [] := by
  subst hk
  exact World.ownsRow_made W #[] 0 hB (by decide) (by simp)
/-- the cells of arguments, one behind the other -/
def argCell (el : Nat → Int × ByteArray × Int) (j : Nat) : Value := if j % 3 = 0 then .int .i64 (el (j / 3)).1 else if j % 3 = 1 then .string (el (j / 3)).2.1 else .int .i64 (el (j / 3)).2.2
theorem arg_one (l : Nat) (el : Nat → Int × ByteArray × Int) : ∀ u ∈ (List.range (l * 3)).map (argCell el), u.oneCell' = true := by
  intro u hu
  obtain ⟨j, _, rfl⟩ := List.mem_map.1 hu
  unfold argCell
  split
  · rfl
  · split <;> rfl
theorem args_cell {w : World} {a : Addr} {l : Nat} {el : Nat → Int × ByteArray × Int} (h : ArgsIn w (some a) l el) : ∀ j u, ((List.range (l * 3)).map (argCell el))[j]? = some u → w.cell? (a.add j) = some u := by
  intro j u hu
  have hj : j < l * 3 := by
    by_cases hj : j < l * 3
    · exact hj
    · rw [List.getElem?_eq_none (by simpa using hj)] at hu
      cases hu
  obtain ⟨B, o, e, hB, hc⟩ := h.at' (by omega)
  have e : a = ⟨B, o, none⟩ := by simpa using e
  subst e
  have : u = argCell el j := by simpa [hj] using hu.symm
  subst this
  obtain ⟨c0, c1, c2⟩ := hc (j / 3) (by omega)
  have ha : (⟨B, o, none⟩ : Addr).add j = ⟨B, o + j, none⟩ := by by_cases h0 : j = 0 <;> simp [Addr.add, h0]
  rw [ha]
  unfold argCell
  by_cases h0 : j % 3 = 0
  · rw [if_pos h0, ← c0]; congr 2; omega
  · rw [if_neg h0]
    by_cases h1 : j % 3 = 1
    · rw [if_pos h1, ← c1]; congr 2; omega
    · rw [if_neg h1, ← c2]; congr 2; omega
theorem args_new {w : World} {B : Nat} {v : Value} {l : Nat} {el : Nat → Int × ByteArray × Int} (h : w.ownsRow B 30 3 v l ((List.range (l * 3)).map (argCell el)))
    (hr : ∀ i, i < l → -9223372036854775808 ≤ (el i).2.2 ∧ (el i).2.2 ≤ 9223372036854775807) (hsz : ∀ i, i < l → (el i).2.1.size ≤ 9223372036854775807) : ∃ pu cu, v = .slice pu l cu ∧ ArgsIn w pu l el := by
  obtain ⟨pu, cu, rfl, hn⟩ := own_new h
  refine ⟨pu, cu, rfl, ⟨fun hl => ?_, hr, hsz⟩⟩
  obtain ⟨g, e, hb, hlt, hc, hf⟩ := hn hl
  refine ⟨g, 0, e, hlt, fun i hi => ?_⟩
  rw [Nat.zero_add, hc (i * 3) (by omega), hc (i * 3 + 1) (by omega), hc (i * 3 + 2) (by omega)]
  have e0 : i * 3 % 3 = 0 := by omega
  have e1 : (i * 3 + 1) % 3 = 1 := by omega
  have e2 : (i * 3 + 2) % 3 = 2 := by omega
  have d0 : i * 3 / 3 = i := by omega
  have d1 : (i * 3 + 1) / 3 = i := by omega
  have d2 : (i * 3 + 2) / 3 = i := by omega
  refine ⟨?_, ?_, ?_⟩
  · simp [show i * 3 < l * 3 by omega, argCell, d0]
  · simp [show i * 3 + 1 < l * 3 by omega, argCell, e1, d1]
  · simp [show i * 3 + 2 < l * 3 by omega, argCell, e2, d2]

set_option maxHeartbeats 4000000 in
theorem foldKeeps_walk (kind K : Int) (s : ByteArray) (n : Int) (pt : Option Addr) (lt ct : Nat) (N : Int) (ss : Nat → ByteArray) (op : Int) (d nm : ByteArray) (pa pf po : Option Addr) (l cap lf kf lo ko : Nat) (el : Nat → Int × ByteArray × Int)
    (hlt : lt ≤ 9223372036854775807) (hl : l ≤ 9223372036854775807) (ht0 : pt = none → lt = 0 ∧ ct = 0) (ha0 : pa = none → l = 0 ∧ cap = 0) (w : World) (hT : StrIn w pt lt ss) (hA : ArgsIn w pa l el) :
    Calls Try.prog 5 #[.agg #[.int .i64 kind, .int .i64 K, .string s, .int .i64 n, .slice pt lt ct, .int .i64 N], .agg #[.int .i64 op, .string d, .string nm, .slice pa l cap, .slice pf lf kf, .slice po lo ko]] w fun e w' => e = .returned (.bool true) ∧ Below w.heap.size w w' := by
  by_cases hbig : 100 < lt
  · go_enter Try.func5, Try.ntmps5
    go_wp2_with fail
    refine (awake_true _).mono ?_
    rintro e w1 ⟨rfl, hb1⟩
    obtain ⟨-, -, hB⟩ := boxes2 hb1
    go_wp2
    go_ret
    exact ⟨rfl, hB⟩
  by_cases hbig2 : 100 < l
  · go_enter Try.func5, Try.ntmps5
    go_wp2_with fail
    refine (awake_true _).mono ?_
    rintro e w1 ⟨rfl, hb1⟩
    obtain ⟨-, -, hB⟩ := boxes2 hb1
    go_wp2
    go_ret
    exact ⟨rfl, hB⟩
  have hlt' : lt ≤ 100 := by omega
  have hl' : l ≤ 100 := by omega
  clear hbig hbig2 hlt hl
  obtain ⟨i0, hi, hz0, hz1, hz2⟩ := info_parts infoS
  obtain ⟨i1, hi', hy0, hy1, hy2⟩ := info_parts infoA
  have hb0 := boxes2 (w := w) (c1 := [.int .i64 kind, .int .i64 K, .string s, .int .i64 n, .slice pt lt ct, .int .i64 N]) (c2 := [.int .i64 op, .string d, .string nm, .slice pa l cap, .slice pf lf kf, .slice po lo ko]) (t1 := 39) (t2 := 26) (Below.refl _ _)
  have hS1 : ∀ ad, pt = some ad → ∀ j u, ((List.range lt).map fun i => Value.string (ss i))[j]? = some u → (((w.alloc (Obj.cells #[.int .i64 kind, .int .i64 K, .string s, .int .i64 n, .slice pt lt ct, .int .i64 N] 39)).alloc (Obj.cells #[.int .i64 op, .string d, .string nm, .slice pa l cap, .slice pf lf kf, .slice po lo ko] 26)).alloc (Obj.cells #[] 9)).cell? (ad.add j) = some u := fun ad e j u hu => by
    have hc := news_str (e ▸ hT) j u hu
    have hlt := World.block_lt_of_cell? w _ hc
    rw [World.cell?_alloc_lt _ _ _ (by simp; omega), World.cell?_alloc_lt _ _ _ (by simp; omega), World.cell?_alloc_lt _ _ _ hlt]
    exact hc
  have hO1 := own_made (W := (w.alloc (Obj.cells #[.int .i64 kind, .int .i64 K, .string s, .int .i64 n, .slice pt lt ct, .int .i64 N] 39)).alloc (Obj.cells #[.int .i64 op, .string d, .string nm, .slice pa l cap, .slice pf lf kf, .slice po lo ko] 26)) (B := w.heap.size) (k := w.heap.size + 1 + 1) (e := 9) (size := 1) (by simp) (by omega)
  go_enter Try.func5, Try.ntmps5
  go_wp2_with (at_builtin; refine wpList_append_any rfl _ _ 37 rfl w.heap.size 9 i0 (.string .empty) 1 16 Try.underlying37 hi hz0 hz1 hz2 rfl (by decide) _ _ _ rfl hO1 pt lt ct ((List.range lt).map fun i => Value.string (ss i)) rfl ht0 ?c1 hS1 ?c3 ?c4 ?c5 ?c6 ?_)
  case c1 => simp
  case c3 => exact str_cells lt ss
  case c4 => unfold maxLen; omega
  case c5 => omega
  case c6 => simp; omega
  intro vt w2 hownT hgT
  obtain ⟨hX2, hY2, hB2⟩ := boxes2 (w := w) (c1 := [.int .i64 kind, .int .i64 K, .string s, .int .i64 n, .slice pt lt ct, .int .i64 N]) (c2 := [.int .i64 op, .string d, .string nm, .slice pa l cap, .slice pf lf kf, .slice po lo ko]) (t1 := 39) (t2 := 26) (w1 := w2)
    (((Below.refl _ _).alloc (Nat.le_refl _) _).grown hgT (by simp) (fun k e => by
      have e : w.heap.size + 1 + 1 = k := by simpa [Value.ownBlock] using e
      subst e
      simp))
  obtain ⟨pto, cto, rfl, -, hTo2⟩ := clone_done (w := w) hownT (Nat.le_refl _)
  have hT2 := hT.below hB2
  have hA2 := hA.below hB2
  clear hS1 hO1 hownT hgT hb0 hT hA
  have hS2 : ∀ ad, pa = some ad → ∀ j u, ((List.range (l * 3)).map (argCell el))[j]? = some u → (w2.alloc (Obj.cells #[] 30)).cell? (ad.add j) = some u := fun ad e j u hu => by
    have hc := args_cell (e ▸ hA2) j u hu
    rw [World.cell?_alloc_lt _ _ _ (World.block_lt_of_cell? _ _ hc)]
    exact hc
  have hO2 := own_made (W := w2) (B := w2.heap.size) (k := w2.heap.size) (e := 30) (size := 3) rfl (Nat.le_refl _)
  have y3 := fun o => (hY2.al o).c 3 _ rfl
  go_wp2_with (at_builtin; refine wpList_append_any rfl _ _ 22 rfl w2.heap.size 30 i1 (.agg #[.int .i64 0, .string .empty, .int .i64 0]) 3 32 Try.underlying22 hi' hy0 hy1 hy2 rfl (by decide) _ _ _ rfl hO2 pa l cap ((List.range (l * 3)).map (argCell el)) rfl ha0 ?c1 hS2 ?c3 ?c4 ?c5 ?c6 ?_)
  case c1 => simp
  case c3 => exact arg_one l el
  case c4 => unfold maxLen; omega
  case c5 => omega
  case c6 => simp
  intro va w3 hownA hgA
  have hB3' : Below w2.heap.size w2 w3 := ((Below.refl _ _).alloc (Nat.le_refl _) _).grown hgA (by simp) (fun k e => by
      have e : w2.heap.size = k := by simpa [Value.ownBlock] using e
      subst e
      exact Nat.le_refl _)
  obtain ⟨pao, cao, rfl, hAo3⟩ := args_new hownA hA2.r hA2.s
  have hX3 := hX2.nx hB3'
  have hY3 := hY2.nx hB3'
  have hB3 := bthen hB2 hB3'
  have hT3 := hT2.below hB3'
  have hA3 := hA2.below hB3'
  have hTo3 := hTo2.below hB3'
  clear hS2 hO2 y3 hownA hgA hX2 hY2 hB2 hT2 hA2 hTo2 hB3'
  (have t0 := (hX3).c 0 _ rfl; have t1 := (hX3).c 1 _ rfl; have t2 := (hX3).c 2 _ rfl; have t3 := (hX3).c 3 _ rfl; have t4 := (hX3).c 4 _ rfl; have t5 := (hX3).c 5 _ rfl)
  go_wp2_with fail
  refine (end_val kind K s n pt lt ct N ss hlt' w3 hT3).mono ?_
  rintro e w4 ⟨kind2, K2, s2, n2, pu, lu, cu, N2, ok, rfl, hlu, hN4, hb4⟩
  have hY4 := hY3.nx hb4
  have hA4 := hA3.below hb4
  clear t0 t1 t2 t3 t4 t5
  have u0 := fun o => (hY4.al o).c 0 _ rfl
  have u1 := fun o => (hY4.al o).c 1 _ rfl
  have u2 := fun o => (hY4.al o).c 2 _ rfl
  have u3 := fun o => (hY4.al o).c 3 _ rfl
  have u4 := fun o => (hY4.al o).c 4 _ rfl
  have u5 := fun o => (hY4.al o).c 5 _ rfl
  go_wp2_with fail
  rcases hp : progV op l el with ⟨k, t, j, b⟩
  refine (prog_any op d nm pa pf po l cap lf kf lo ko el (by omega) _ _ _ _ hp _ (hA4.below ((Below.refl _ _).alloc (Nat.le_refl _) _))).mono ?_
  rintro e w5 ⟨rfl, hb5⟩
  obtain ⟨hU5, hb45⟩ := boxes1 hb5
  have hb35 := bthen hb4 hb45
  have hN5 : NewS w3.heap.size w5 pu lu := fun h0 => by
    obtain ⟨g, e, h1, h2, h3⟩ := hN4 h0
    exact ⟨g, e, h1, Nat.lt_of_lt_of_le h2 hb45.size, fun j hj => by rw [hb45.frozen h2, hb45.cell h2]; exact h3 j hj⟩
  have hg : 0 < lu → ∃ g, pu = some ⟨g, 0, none⟩ ∧ w3.heap.size ≤ g ∧ g < w4.heap.size := fun h0 => by
    obtain ⟨g, e, h1, h2, _⟩ := hN4 h0
    exact ⟨g, e, h1, h2⟩
  clear u0 u1 u2 u3 u4 u5 hp hN4 hb45 hb5 hb4 hY4 hA4
  go_wp2
  go_loopw [9] (fun i wr => ∃ q : Nat, q ≤ lu ∧ i = .int .i64 (q : Int) ∧ Below w3.heap.size w3 wr ∧ NewS w3.heap.size wr pu lu ∧ Box wr w4.heap.size [.int .i64 kind2, .int .i64 K2, .string s2, .int .i64 n2, .slice pu lu cu, .int .i64 N2]) (fun i _ => lu - (intOf i).toNat)
  case atStart => exact ⟨0, Nat.zero_le _, rfl, hb35, hN5, hU5⟩
  case round =>
    obtain ⟨q, hq, rfl, hbr, hNr, hUr⟩ := hrel
    have p4 := hUr.c 4 _ rfl
    by_cases hql : q < lu
    · obtain ⟨g, rfl, hg1, hg2⟩ := hg (by omega)
      have hNq := NewS.at' hNr hql
      obtain ⟨hfq, sq, hcq⟩ := hNq
      go_wp2
      go_roundw
      case rel => exact ⟨q + 1, by omega, by go_num, hbr.setCell hg1 _, NewS.put hNr hql _, hUr.far (by dsimp only; omega) _⟩
      case measure => simp [intOf]; omega
    · go_wp2
      clear hg hNr hUr p4 hU5 hN5 hb35 hql hq
      go_loopw [10] (fun i wr => ∃ q : Nat, q ≤ l ∧ i = .int .i64 (q : Int) ∧ Below w3.heap.size w3 wr) (fun i _ => l - (intOf i).toNat)
      case atStart => exact ⟨0, Nat.zero_le _, rfl, hbr⟩
      case round =>
        obtain ⟨m, hm, rfl, hbq⟩ := hrel
        by_cases hml : m < l
        · obtain ⟨B, o, rfl, hBlt, hc⟩ := (hA3.below hbq).at' (by omega)
          obtain ⟨Bo, oo, rfl, hBo, hco⟩ := (hAo3.below hbq).at' (by omega)
          have hYq := hY3.nx hbq
          have F : ∀ w1, Below wr.heap.size wr w1 → w1.cell? ⟨w.heap.size + 1, 3, none⟩ = some (.slice (some ⟨B, o, none⟩) l cap) ∧ w1.cell? ⟨B, o + m * 3, none⟩ = some (.int .i64 (el m).1) ∧ w1.cell? ⟨B, o + m * 3 + 1, none⟩ = some (.string (el m).2.1) ∧ w1.cell? ⟨B, o + m * 3 + 2, none⟩ = some (.int .i64 (el m).2.2) ∧
              w1.cell? ⟨Bo, oo + m * 3, none⟩ = some (.int .i64 (el m).1) ∧ w1.cell? ⟨Bo, oo + m * 3 + 1, none⟩ = some (.string (el m).2.1) ∧ w1.cell? ⟨Bo, oo + m * 3 + 2, none⟩ = some (.int .i64 (el m).2.2) := fun w1 hb => by
            obtain ⟨c0, c1, c2⟩ := hc m hml
            obtain ⟨k0, k1, k2⟩ := hco m hml
            exact ⟨(hYq.nx hb).c 3 _ rfl, by rw [hb.cell hBlt]; exact c0, by rw [hb.cell hBlt]; exact c1, by rw [hb.cell hBlt]; exact c2, by rw [hb.cell hBo]; exact k0, by rw [hb.cell hBo]; exact k1, by rw [hb.cell hBo]; exact k2⟩
          clear hc hco hYq hA3 hAo3
          go_wp2
          refine wp_region_ser (S := fun _ w1 => Below wr.heap.size wr w1) rfl (by kernel_rfl) (Below.refl _ _).drew ?_
          repeat (first | ((refine Ser.step (a1 := ?_) rfl (fun L w1 K' Q' hS hi hR hd hK => ?_) ?_ ?_; rotate_left); (· ((skip); go_simp; (try simp only [Act.put, List.setIfInBounds_toArray, List.set_cons_zero, List.set_cons_succ]); exact hK.out _ (hS))); (· rfl)) | ((refine Ser.step (a1 := ?_) rfl (fun L w1 K' Q' hS hi hR hd hK => ?_) ?_ ?_; rotate_left); (· ((obtain ⟨d3, d0, d1, d2, k0, k1, k2⟩ := F _ hS); go_simp; (try simp only [Act.put, List.setIfInBounds_toArray, List.set_cons_zero, List.set_cons_succ]); exact hK.out _ (hS))); (· rfl)))
          refine Ser.nil fun w1 hS => ?_
          have hbn : Below w3.heap.size w3 w1 := hbq.trans (hS.mono hbq.size)
          go_wp2
          go_roundw
          case rel => exact ⟨m + 1, by omega, by go_num, hbn⟩
          case measure => simp [intOf]; omega
        · clear hA3 hAo3
          have hXq := hX3.nx hbq
          have hTq := hT3.below hbq
          have hToq := hTo3.below hbq
          have hBq := bthen hB3 hbq
          clear hX3 hY3 hB3 hT3 hTo3 hbr
          go_wp2_with fail
          refine (awake_true _).mono ?_
          rintro e w6 ⟨rfl, hb6⟩
          have t4 := (hXq.nx hb6).c 4 _ rfl
          go_wp2_with fail
          refine (same_val pt pto lt ct cto ss hlt' _ (hTq.below hb6) (hToq.below hb6)).mono ?_
          rintro e w7 ⟨rfl, hb7⟩
          go_wp2
          go_ret
          exact ⟨rfl, bthen (bthen hBq hb6) hb7⟩
end Go.Proofs.Ytiheecgabfcigaa
