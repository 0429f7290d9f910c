/- The reference's Heads: whether heads are right. -/
import Derived.Test.YtjohjpjpfglkkaaRty
import Derived.Laws.AppendOwnNone
namespace Go.Proofs.Ytjohjpjpfglkkaa
open Go Go.RowKit

theorem wpList_append_any {P : Program} {w : World} {ops : Array Oper} {rest : List Oper} {o : Oper} {a : Act} {Q : Exit → Act → World → Prop} (hgd : o.guard = none) (s x : Operand) (t : TypeId)
    (ho : o.op = .call { callee := .builtin .append, args := #[s, x], argTypes := #[t, t] })
    (base : Nat) (e : TypeId) (i : TypeInfo) (z : Value) (size bytes : Nat) (ht : P.underlying t = some (.slice e)) (hi : P.info? e = some i) (hz : i.zero = some z)
    (hsize : i.size = size) (hby : i.bytes = bytes) (hzs : z.cells.size = size) (hsz : 0 < size)
    (v : Value) (n : Nat) (xs : List Value) (hs : a.eval s = v) (hown : w.ownsRow base e size v n xs)
    (pa : Option Addr) (m c : Nat) (news : List Value) (hx : a.eval x = .slice pa m c) (hnone : pa = none → m = 0 ∧ c = 0) (hl : news.length = m * size)
    (hnews : ∀ ad, pa = some ad → ∀ j u, news[j]? = some u → w.cell? (ad.add j) = some u) (h1 : ∀ u ∈ news, u.oneCell' = true)
    (h63 : n + m ≤ maxLen) (hbytes : (n + m) * bytes ≤ 140737488355328) (hbase : base ≤ w.heap.size)
    (h : ∀ v' w', w'.ownsRow base e size v' (n + m) (xs ++ news) → w.grownBy w' v.ownBlock → wpList P ops Q rest (a.put o.dst v') w') : wpList P ops Q (o :: rest) a w := by
  cases pa with
  | none =>
    obtain ⟨rfl, rfl⟩ := hnone rfl
    have hn : news = [] := List.length_eq_zero_iff.1 (by rw [hl]; simp)
    subst hn
    refine wpList_append_own_none hgd s x t ho base e i size ht hi v n xs hs hown hx (h v w (by simpa using hown) (grown_refl _ _))
  | some ad => exact wpList_append_own _ hgd s x t ho base e i z size bytes ht hi hz hsize hby hzs hsz v n xs hs hown ad m c news hx hl (hnews ad rfl) h1 h63 hbytes hbase fun v' w' h2 h3 _ => h v' w' h2 h3
theorem heads_iff (p : Pg) : headsB p = true ↔ (p.cs.map Cl.n).Nodup ∧ (p.xs.map Ex.n).Nodup ∧ (p.fs.map Fn.n).Nodup ∧ declB p p.gs = true ∧ (∀ c ∈ p.cs, declB p c.fs = true) ∧ ∀ f ∈ p.fs, knownB p f.r = true ∧ declB p (f.ps ++ f.vs) = true := by
  unfold headsB
  simp only [Bool.and_eq_true, List.all_eq_true]
  rw [unl_iff, unl_iff, unl_iff]
  simp
set_option maxHeartbeats 16000000 in
set_option maxRecDepth 100000 in
theorem rheads_val {w0 w : World} (h0 : Below w0.heap.size w0 w) {p : Pg} {v u1 u2 u3 u4 : Value} (hp : ValP w0 v p u1 u2 u3 u4) (hfew : Vfew p) :
    Calls Try.prog 28 #[v] w fun e w' => e = .returned (.bool (headsB p)) ∧ Below w.heap.size w w' := by
  have hpv := hp
  obtain ⟨iv, hjV, hy0, hy1, hy2⟩ := info_parts infoV
  obtain ⟨rfl, hc, hg, hx, hf⟩ := hp
  have hg' := hg
  have hC := fun W (hW : Below w.heap.size w W) x => rlookC_val (bthen' h0 hW) hpv x
  have hT := fun W (hW : Below w.heap.size w W) (l : List Vr) (u : Value) w9 h9 hl => rtypes_val (w := W) (bthen' h0 hW) hpv (l := l) (u := u) (w9 := w9) h9 hl
  obtain ⟨p1, k1, rfl, -, hn1, hc⟩ := hc
  obtain ⟨p2, k2, rfl⟩ := hg.slice
  obtain ⟨p3, k3, rfl, -, hn3, hx⟩ := hx
  obtain ⟨p4, k4, rfl, -, hn4, hf⟩ := hf
  clear hg
  have hb1 := (Below.refl w.heap.size w).alloc (Nat.le_refl _) (.cells #[.bool p.ssa, .slice p1 p.cs.length k1, .slice p2 p.gs.length k2, .slice p3 p.xs.length k3, .slice p4 p.fs.length k4] 27)
  have hP := Box.alloc w [.bool p.ssa, .slice p1 p.cs.length k1, .slice p2 p.gs.length k2, .slice p3 p.xs.length k3, .slice p4 p.fs.length k4] 27
  obtain ⟨R, hR⟩ : ∃ R, R = headsB p := ⟨_, rfl⟩
  rw [← hR]
  have hF : R = true ↔ headsB p = true := by rw [hR]
  rw [heads_iff] at hF
  clear hR
  replace hF := Lib.hid hF
  have hG := hT _ hb1 p.gs _ _ (bthen' h0 hb1) hg'
  generalize declB p p.gs = dg at *
  go_enter Try.func28, Try.ntmps28
  go_wp2_with fail
  refine hG.mono ?_
  rintro e w1 ⟨rfl, hb⟩
  replace hb1 := bthen' hb1 hb
  replace hP := hP.nx hb
  clear hG hb
  cases dg
  · have hR : R = false := by
      rw [Bool.eq_false_iff]
      intro h
      have := (hF.out.1 h).2.2.2.1
      cases this
    replace hR := Lib.hid hR
    clear hP
    go_wp2_with fail
    go_ret
    exact ⟨by rw [hR.out]; rfl, hb1⟩
  have q0 := hP.c 0 _ rfl
  have q1 := hP.c 1 _ rfl
  have q2 := hP.c 2 _ rfl
  have q3 := hP.c 3 _ rfl
  have q4 := hP.c 4 _ rfl
  go_wp2_with fail
  obtain ⟨wc, rfl⟩ : ∃ wc : World, wc = w1 := ⟨_, rfl⟩
  go_loopw [3] (fun i wr => ∃ q : Nat, q ≤ p.cs.length ∧ i = .int .i64 (q : Int) ∧ Below w.heap.size w wr ∧ Box wr w.heap.size [.bool p.ssa, .slice p1 p.cs.length k1, .slice p2 p.gs.length k2, .slice p3 p.xs.length k3, .slice p4 p.fs.length k4] ∧ ((p.cs.take q).map Cl.n).Nodup ∧ (∀ k, (h : k < p.cs.length) → k < q → declB p p.cs[k].fs = true)) (fun i _ => p.cs.length - (intOf i).toNat)
  case atStart => exact ⟨0, Nat.zero_le _, rfl, hb1, hP, by simp, fun k _ h => by omega⟩
  case round =>
    clear hb1 hP
    obtain ⟨q, hq, rfl, hb1, hP, hN, hI⟩ := hrel
    have qf := hP.c 1 _ rfl
    by_cases hend : q = p.cs.length
    · subst hend
      rw [List.take_length] at hN
      replace hN := Lib.hid hN
      replace hI := Lib.hid hI
      have hNc := hN
      have hIc := hI
      clear hc hI hN
      go_wp2_with fail
      clear qf
      obtain ⟨we, rfl⟩ : ∃ we : World, we = wr := ⟨_, rfl⟩
      go_loopw [5] (fun i wr => ∃ q : Nat, q ≤ p.xs.length ∧ i = .int .i64 (q : Int) ∧ Below w.heap.size w wr ∧ Box wr w.heap.size [.bool p.ssa, .slice p1 p.cs.length k1, .slice p2 p.gs.length k2, .slice p3 p.xs.length k3, .slice p4 p.fs.length k4] ∧ ((p.xs.take q).map Ex.n).Nodup ∧ True) (fun i _ => p.xs.length - (intOf i).toNat)
      case atStart => exact ⟨0, Nat.zero_le _, rfl, hb1, hP, by simp, trivial⟩
      case round =>
        clear hb1 hP
        obtain ⟨q, hq, rfl, hb1, hP, hN, hI⟩ := hrel
        have qf := hP.c 3 _ rfl
        by_cases hend : q = p.xs.length
        · subst hend
          rw [List.take_length] at hN
          replace hN := Lib.hid hN
          replace hI := Lib.hid hI
          have hNx := hN
          clear hx hI hN
          go_wp2_with fail
          clear qf
          obtain ⟨wf, rfl⟩ : ∃ wf : World, wf = wr := ⟨_, rfl⟩
          go_loopw [7] (fun i wr => ∃ q : Nat, q ≤ p.fs.length ∧ i = .int .i64 (q : Int) ∧ Below w.heap.size w wr ∧ Box wr w.heap.size [.bool p.ssa, .slice p1 p.cs.length k1, .slice p2 p.gs.length k2, .slice p3 p.xs.length k3, .slice p4 p.fs.length k4] ∧ ((p.fs.take q).map Fn.n).Nodup ∧ (∀ k, (h : k < p.fs.length) → k < q → knownB p p.fs[k].r = true ∧ declB p (p.fs[k].ps ++ p.fs[k].vs) = true)) (fun i _ => p.fs.length - (intOf i).toNat)
          case atStart => exact ⟨0, Nat.zero_le _, rfl, hb1, hP, by simp, fun k _ h => by omega⟩
          case round =>
            clear hb1 hP
            obtain ⟨q, hq, rfl, hb1, hP, hN, hI⟩ := hrel
            have qf := hP.c 4 _ rfl
            by_cases hend : q = p.fs.length
            · subst hend
              rw [List.take_length] at hN
              replace hN := Lib.hid hN
              replace hI := Lib.hid hI
              have hR2 : R = true := by
                rw [hF.out]
                refine ⟨hNc.out, hNx.out, hN.out, by simp, fun c hc => ?_, fun f hf => ?_⟩
                · obtain ⟨k, hk, rfl⟩ := List.getElem_of_mem hc
                  exact hIc.out k hk hk
                · obtain ⟨k, hk, rfl⟩ := List.getElem_of_mem hf
                  exact hI.out k hk hk
              replace hR2 := Lib.hid hR2
              clear hf hP hF hNc hNx hN hIc hI
              go_wp2_with fail
              go_ret
              exact ⟨by rw [hR2.out]; rfl, hb1⟩
            · have hlt : q < p.fs.length := by omega
              have hltI : (q : Int) < (p.fs.length : Int) := by omega
              go_wp2_with fail
              obtain ⟨wo, rfl⟩ : ∃ wo : World, wo = wr := ⟨_, rfl⟩
              go_loopw [8] (fun i wr => ∃ j : Nat, j ≤ q ∧ i = .int .i64 (j : Int) ∧ Below wo.heap.size wo wr ∧ ∀ k, (h : k < j) → (h2 : k < p.fs.length) → Fn.n p.fs[k] ≠ Fn.n p.fs[q]) (fun i _ => q - (intOf i).toNat)
              case atStart => exact ⟨0, Nat.zero_le _, rfl, Below.refl _ _, fun k h => by omega⟩
              case round =>
                clear qf
                obtain ⟨j, hj, rfl, hb3, hne⟩ := hrel
                have hb4 := bthen' hb1 hb3
                replace hP := hP.nx hb3
                have qf := hP.c 4 _ rfl
                by_cases hend2 : j = q
                · subst hend2
                  have hN2 := nodup_next (f := Fn.n) hlt hN fun k h => hne k h (by omega)
                  replace hN2 := Lib.hid hN2
                  replace hI := Lib.hid hI
                  clear hN hne hb1 hb3
                  obtain ⟨a, rfl, ⟨c0, z0⟩, ⟨c1, z1⟩, ⟨v2, c2, r2⟩, ⟨v3, c3, r3⟩, v4, c4, r4⟩ := hf j p.fs[j] (by simp)
                  have hw := bthen' h0 hb4
                  replace c0 := keepc hw c0
                  replace c1 := keepc hw c1
                  replace c2 := keepc hw c2
                  replace c3 := keepc hw c3
                  have hvf := hfew p.fs[j] (by simp)
                  have s2 := r2.sz
                  have s3 := r3.sz
                  obtain ⟨q1, j1, rfl, m1, n1, r2⟩ := r2
                  obtain ⟨q2, j2, rfl, m2, n2, r3⟩ := r3
                  have hs1 := cellsV_cell fun i x hx => (r2 i x hx).imp fun a h => ⟨h.1, h.2.kp hw⟩
                  have hs2 := cellsV_cell fun i x hx => (r3 i x hx).imp fun a h => ⟨h.1, h.2.kp hw⟩
                  have hbad1 : knownB p p.fs[j].r = false → R = false := fun h => by
                    rw [Bool.eq_false_iff]
                    intro h3
                    have h5 := ((hF.out.1 h3).2.2.2.2.2 p.fs[j] (by simp)).1
                    rw [h] at h5
                    cases h5
                  have hbad2 : declB p (p.fs[j].ps ++ p.fs[j].vs) = false → R = false := fun h => by
                    rw [Bool.eq_false_iff]
                    intro h3
                    have h5 := ((hF.out.1 h3).2.2.2.2.2 p.fs[j] (by simp)).2
                    rw [h] at h5
                    cases h5
                  have hnx : knownB p p.fs[j].r = true → declB p (p.fs[j].ps ++ p.fs[j].vs) = true → ∀ k, (h : k < p.fs.length) → k < j + 1 → knownB p p.fs[k].r = true ∧ declB p (p.fs[k].ps ++ p.fs[k].vs) = true := fun h1 h1' k h h2 => by
                    rcases Nat.lt_or_ge k j with h3 | h3
                    · exact hI.out k h h3
                    · obtain rfl : k = j := by omega
                      exact ⟨h1, h1'⟩
                  have hkn := known_ref p p.fs[j].r
                  have hCx := fun W (hW : Below wr.heap.size wr W) => hC W (bthen' hb4 hW) p.fs[j].r
                  have hRf := fun W => rref_val p.fs[j].r W
                  replace hbad1 := Lib.hid hbad1
                  replace hbad2 := Lib.hid hbad2
                  replace hnx := Lib.hid hnx
                  replace hkn := Lib.hid hkn
                  clear r2 r3 r4 hf hI hfew
                  generalize findB Cl.n p.fs[j].r p.cs = r at *
                  generalize isRf p.fs[j].r = rf at *
                  generalize hyy : p.fs[j] = y at *
                  clear hyy
                  go_upto_region 30 with fail
                  obtain ⟨n0, z0', z1', hn0⟩ : ∃ (n0 : Option Addr) (z0' z1' : Nat), Hid (n0 = none ∧ z0' = 0 ∧ z1' = 0) := ⟨_, _, _, Lib.hid ⟨rfl, rfl, rfl⟩⟩
                  have hown0 : wr.ownsRow wr.heap.size 40 2 (.slice n0 z0' z1') z0' [] := by
                    obtain ⟨rfl, rfl, rfl⟩ := hn0.out
                    exact World.ownsRow_nil _ _ _ _
                  rw [show (Value.slice none 0 0) = .slice n0 z0' z1' by obtain ⟨rfl, rfl, rfl⟩ := hn0.out; rfl]
                  have hz0 : Hid (z0' + y.ps.length = y.ps.length) := Lib.hid (by obtain ⟨rfl, rfl, rfl⟩ := hn0.out; simp)
                  go_wp2_with (at_builtin; go_loud (refine wpList_append_any rfl _ _ 23 rfl wr.heap.size 40 iv _ 2 32 Try.underlying23 hjV hy0 hy1 hy2 rfl (by decide) _ z0' [] rfl hown0 q1 y.ps.length j1 (cellsV y.ps) rfl m1 (cellsV_len _) hs1 (cellsV_one _) ?c3 ?c4 (Nat.le_refl _) ?_))
                  case c3 => have := hvf.1; rw [hz0.out]; unfold maxLen; omega
                  case c4 => have := hvf.1; rw [hz0.out]; omega
                  intro v1 W1 hown1 hg1
                  rw [hz0.out] at hown1
                  obtain ⟨pu1, ku1, rfl⟩ := own_sl hown1
                  have hbA := (Below.refl wr.heap.size wr).grown hg1 (Nat.le_refl _) (fun g e => by obtain ⟨rfl, rfl, rfl⟩ := hn0.out; cases e)
                  have hPA := hP.nx hbA
                  replace qf := hPA.c 4 _ rfl
                  have c3A := keepc hbA c3
                  clear c2 hg1
                  go_wp2_with (at_builtin; go_loud (refine wpList_append_any rfl _ _ 23 rfl wr.heap.size 40 iv _ 2 32 Try.underlying23 hjV hy0 hy1 hy2 rfl (by decide) _ y.ps.length _ rfl hown1 q2 y.vs.length j2 (cellsV y.vs) rfl m2 (cellsV_len _) (fun ad e i u hu => keepc hbA (hs2 ad e i u hu)) (cellsV_one _) ?c3 ?c4 hbA.size ?_))
                  case c3 => have := hvf.1; have := hvf.2; unfold maxLen; omega
                  case c4 => have := hvf.1; have := hvf.2; omega
                  intro v2 W2 hown2 hg2
                  obtain ⟨pu2, ku2, rfl⟩ := own_sl hown2
                  have hbB := hbA.grown hg2 hbA.size fun g e => (hown1.lt g e).1
                  have hPc := hP.nx hbB
                  have hrow := own_vars (l := y.ps ++ y.vs) (by rw [cellsV_app, List.length_append]; exact hown2) (fun x hx => (List.mem_append.1 hx).elim (s2 x) (s3 x)) (by rw [List.length_append]; omega)
                  have hlen : y.ps.length + y.vs.length = (y.ps ++ y.vs).length := by simp
                  rw [hlen] at hrow
                  rw [hlen]
                  replace hrow := Lib.hid hrow
                  replace qf := hPc.c 4 _ rfl
                  replace c1 := keepc hbB c1
                  clear c0 c3 c3A hown1 hg2 hs1 hs2 s2 s3 hPA
                  have hCy := fun W (hW : Below W2.heap.size W2 W) => hCx W (bthen' hbB hW)
                  have hbW2 := bthen' hb4 hbB
                  generalize hvl : y.ps ++ y.vs = vl at *
                  clear hvl hbA hCx
                  have hdr := (Below.refl W2.heap.size W2).drew
                  go_wp2_with fail
                  refine wp_region_serF (S := ClS W2 7 8 9 11 (cN r) (cL r) r.isSome) rfl (by kernel_rfl) (ClS.start hdr) ?_
                  ((refine SerF.step (a1 := ?_) (fun _ => rfl) (fun V L w1 K' Q' hS hi hR hd hK => ?_) ?_ ?_ ?_; rotate_left); (· ((have hB := hPc.nx hS.1; have q0 := hB.c 0 _ rfl; have q1 := hB.c 1 _ rfl; have q2 := hB.c 2 _ rfl; have q3 := hB.c 3 _ rfl; have q4 := hB.c 4 _ rfl); go_simp; (try simp only [Act.put, List.setIfInBounds_toArray, List.set_cons_zero, List.set_cons_succ]); exact hK.out _ (hS.keep rfl rfl rfl rfl))); (· (intro V; rfl)); (· (exact fun _ _ _ _ _ _ => rfl)))
                  ((refine SerF.step (a1 := ?_) (fun _ => rfl) (fun V L w1 K' Q' hS hi hR hd hK => ?_) ?_ ?_ ?_; rotate_left); (· ((skip); go_simp; (try simp only [Act.put, List.setIfInBounds_toArray, List.set_cons_zero, List.set_cons_succ]); exact hK.out _ (hS.keep rfl rfl rfl rfl))); (· (intro V; rfl)); (· (exact fun _ _ _ _ _ _ => rfl)))
                  ((refine SerF.step (a1 := ?_) (fun _ => rfl) (fun V L w1 K' Q' hS hi hR hd hK => ?_) ?_ ?_ ?_; rotate_left); (· ((have qf := keepc hS.1 qf); go_simp; (try simp only [Act.put, List.setIfInBounds_toArray, List.set_cons_zero, List.set_cons_succ]); exact hK.out _ (hS.keep rfl rfl rfl rfl))); (· (intro V; rfl)); (· (exact fun _ _ _ _ _ _ => rfl)))
                  iterate 3 (((refine SerF.step (a1 := ?_) (fun _ => rfl) (fun V L w1 K' Q' hS hi hR hd hK => ?_) ?_ ?_ ?_; rotate_left); (· ((skip); go_simp; (try simp only [Act.put, List.setIfInBounds_toArray, List.set_cons_zero, List.set_cons_succ]); exact hK.out _ (hS.keep rfl rfl rfl rfl))); (· (intro V; rfl)); (· (exact fun _ _ _ _ _ _ => rfl))))
                  ((refine SerF.step (a1 := ?_) (fun _ => rfl) (fun V L w1 K' Q' hS hi hR hd hK => ?_) ?_ ?_ ?_; rotate_left); (· ((replace c1 := keepc hS.1 c1); go_simp; (try simp only [Act.put, List.setIfInBounds_toArray, List.set_cons_zero, List.set_cons_succ]); exact hK.out _ (hS.keep rfl rfl rfl rfl))); (· (intro V; rfl)); (· (exact fun _ _ _ _ _ _ => rfl)))
                  refine SerF.free (fun _ => rfl) (fun V L w1 K' Q' hS hi hR' hd hK => ?_) ?_
                  · go_simp
                    go_wp2_with (go_at_call 11; refine (hCy _ hS.1).mono ?_; rintro e w2 ⟨hb, ho⟩; obtain ⟨q2, c2, rfl⟩ := ho.form)
                    (try simp only [Act.put, List.setIfInBounds_toArray, List.set_cons_zero, List.set_cons_succ])
                    exact hK.out _ _ rfl ((hS.world hb).put (fun _ => ⟨_, _, rfl⟩) (fun e => absurd e (by decide)) (fun e => absurd e (by decide)) (fun e => absurd e (by decide)))
                  (try simp only [Act.put, List.setIfInBounds_toArray, List.set_cons_zero, List.set_cons_succ])
                  refine SerF.free (fun _ => rfl) (fun V L w1 K' Q' hS hi hR' hd hK => ?_) ?_
                  · obtain ⟨q2, c2, hV⟩ := hS.2.1 (hd.out 7 (by kernel_rfl))
                    simp only [hV]
                    go_simp
                    (try simp only [Act.put, List.setIfInBounds_toArray, List.set_cons_zero, List.set_cons_succ])
                    exact hK.out _ _ (by simp only [hV]; rfl) (hS.put (fun e => absurd e (by decide)) (fun _ => ⟨_, _, rfl⟩) (fun e => absurd e (by decide)) (fun e => absurd e (by decide)))
                  (try simp only [Act.put, List.setIfInBounds_toArray, List.set_cons_zero, List.set_cons_succ])
                  refine SerF.free (fun _ => rfl) (fun V L w1 K' Q' hS hi hR' hd hK => ?_) ?_
                  · obtain ⟨q2, c2, hV⟩ := hS.2.2.1 (hd.out 8 (by kernel_rfl))
                    simp only [hV]
                    go_simp
                    (try simp only [Act.put, List.setIfInBounds_toArray, List.set_cons_zero, List.set_cons_succ])
                    exact hK.out _ _ (by simp only [hV]; rfl) (hS.put (fun e => absurd e (by decide)) (fun e => absurd e (by decide)) (fun _ => ⟨_, _, rfl⟩) (fun e => absurd e (by decide)))
                  (try simp only [Act.put, List.setIfInBounds_toArray, List.set_cons_zero, List.set_cons_succ])
                  refine SerF.val (.bool r.isSome) (fun _ => rfl) (fun V L w1 K' Q' hS hi hR' hd hK => ?_) ?_
                  · obtain ⟨q2, c2, hV⟩ := hS.2.2.1 (hd.out 8 (by kernel_rfl))
                    simp only [hV]
                    go_simp
                    (try simp only [Act.put, List.setIfInBounds_toArray, List.set_cons_zero, List.set_cons_succ])
                    exact hK.out _ _ (by simp only [hV]; rfl) (hS.keep rfl rfl rfl rfl)
                  (try simp only [Act.put, List.setIfInBounds_toArray, List.set_cons_zero, List.set_cons_succ])
                  refine SerF.free (fun _ => rfl) (fun V L w1 K' Q' hS hi hR' hd hK => ?_) ?_
                  · go_simp
                    (try simp only [Act.put, List.setIfInBounds_toArray, List.set_cons_zero, List.set_cons_succ])
                    exact hK.out _ _ rfl ((hS.world ((Below.refl _ _).alloc (Nat.le_refl _) _)).put (fun e => absurd e (by decide)) (fun e => absurd e (by decide)) (fun e => absurd e (by decide)) (fun _ => ⟨_, _, _, rfl, hS.1.size, by simp, Box.alloc _ _ _⟩))
                  (try simp only [Act.put, List.setIfInBounds_toArray, List.set_cons_zero, List.set_cons_succ])
                  refine SerF.val undef (fun _ => rfl) (fun V L w1 K' Q' hS hi hR' hd hK => ?_) ?_
                  · have hl := hd.out 11 (by kernel_rfl)
                    obtain ⟨q2, c2, hV⟩ := hS.2.2.2.1 (hd.out 9 (by kernel_rfl))
                    obtain ⟨pb, x, y', hp, hp0, hp1, hx⟩ := hS.2.2.2.2 hl
                    have f0 := hx.f 0 (by simp)
                    have f1 := hx.f 1 (by simp)
                    have d0 := hx.c 0 _ rfl
                    have d1 := hx.c 1 _ rfl
                    simp only [hV, hp]
                    go_simp
                    refine hK.out _ _ (by simp only [hV, hp]; rfl) ((hS.fill hl hp _ _).keep rfl rfl rfl rfl)
                  simp only [Act.put]
                  ((refine SerF.step (a1 := ?_) (fun _ => rfl) (fun V L w1 K' Q' hS hi hR hd hK => ?_) ?_ ?_ ?_; rotate_left); (· ((skip); go_simp; (try simp only [Act.put, List.setIfInBounds_toArray, List.set_cons_zero, List.set_cons_succ]); exact hK.out _ (hS.keep rfl rfl rfl rfl))); (· (intro V; rfl)); (· (exact fun _ _ _ _ _ _ => rfl)))
                  refine SerF.nil fun V w1 hS => ?_
                  have hbx := hS.1
                  obtain ⟨q2, c2, hV1⟩ := hS.2.1 rfl
                  obtain ⟨q3, c3, hV2⟩ := hS.2.2.1 rfl
                  obtain ⟨q4, c4, hV3⟩ := hS.2.2.2.1 rfl
                  obtain ⟨pb, x, y', hp, hp0, hp1, hx⟩ := hS.2.2.2.2 rfl
                  simp only [hV1, hV2, hV3, hp]
                  clear hS hV1 hV2 hV3 hp hCy hdr hx hp0 hp1
                  have hb5 := bthen' hbW2 hbx
                  replace c1 := keepc hbx c1
                  have hPd := hPc.nx hbx
                  have g0 := hPd.c 0 _ rfl
                  have g1 := hPd.c 1 _ rfl
                  have g2 := hPd.c 2 _ rfl
                  have g3 := hPd.c 3 _ rfl
                  have g4 := hPd.c 4 _ rfl
                  have hTx := hT w1 hb5 _ _ _ hbx hrow.out
                  clear hrow hPc hbW2 hbB qf
                  generalize declB p vl = dd at *
                  generalize r.isSome = ok at *
                  go_wp2_with fail
                  refine hTx.mono ?_
                  rintro e w5 ⟨rfl, hb6⟩
                  clear hTx g0 g1 g2 g3 g4
                  have hb7 := bthen' hb5 hb6
                  replace c1 := keepc hb6 c1
                  have hPe := hPd.nx hb6
                  have g4 := hPe.c 4 _ rfl
                  cases dd
                  · have hR2 := Lib.hid (hbad2.out rfl)
                    clear hbad1 hbad2 hnx hkn hRf hPe hPd hF
                    go_wp2_with fail
                    go_ret
                    exact ⟨by rw [hR2.out]; rfl, hb7⟩
                  go_wp2_with fail
                  refine (hRf _).mono ?_
                  rintro e w6 ⟨rfl, rfl⟩
                  clear hRf
                  cases hrf : (rf && !ok)
                  · have hky : knownB p y.r = true := by
                      rw [hkn.out]
                      revert hrf
                      cases rf <;> cases ok <;> decide
                    have hN3 := Lib.hid (hnx.out hky (by simp))
                    clear hbad1 hbad2 hnx hkn hky hPd
                    cases rf
                    all_goals
                      first | (have h := hrf; simp only [Bool.true_and, Bool.not_eq_false'] at h; subst h) | skip
                      clear hrf
                      go_wp2_with fail
                      go_roundw
                      case rel => exact ⟨j + 1, by omega, by go_num, hb7, hPe, hN2.out, hN3.out⟩
                      case measure => simp [intOf]; omega
                  · simp only [Bool.and_eq_true, Bool.not_eq_true'] at hrf
                    obtain ⟨e1, e2⟩ := hrf
                    have hR2 := Lib.hid (hbad1.out (by rw [hkn.out, e1, e2]; rfl))
                    subst e1
                    subst e2
                    clear hbad1 hbad2 hnx hkn hPe hPd hF
                    go_wp2_with fail
                    go_ret
                    exact ⟨by rw [hR2.out]; rfl, hb7⟩
                · have hjq : j < q := by omega
                  have hjqI : (j : Int) < (q : Int) := by omega
                  have hltj : j < p.fs.length := by omega
                  have hltjI : (j : Int) < (p.fs.length : Int) := by omega
                  obtain ⟨a, ha, ⟨c0, -⟩, -⟩ := hf q p.fs[q] (by simp)
                  obtain ⟨a', ha', ⟨d0, -⟩, -⟩ := hf j p.fs[j] (by simp)
                  subst ha
                  obtain rfl : a = a' := by simpa using ha'
                  replace c0 := keepc (bthen' h0 hb4) c0
                  replace d0 := keepc (bthen' h0 hb4) d0
                  have hno := nodup_no (f := Fn.n) hjq hlt
                  have hnx : Fn.n p.fs[j] ≠ Fn.n p.fs[q] → ∀ k, (h : k < j + 1) → (h2 : k < p.fs.length) → Fn.n p.fs[k] ≠ Fn.n p.fs[q] := fun h1 k h h2 => by
                    rcases Nat.lt_or_ge k j with h3 | h3
                    · exact hne k h3 h2
                    · obtain rfl : k = j := by omega
                      exact h1
                  have hbad : Fn.n p.fs[j] = Fn.n p.fs[q] → R = false := fun h => by
                    rw [Bool.eq_false_iff]
                    intro h3
                    exact hno h (hF.out.1 h3).2.2.1
                  replace hnx := Lib.hid hnx
                  replace hbad := Lib.hid hbad
                  clear hne hno hN hP ha' hI hf
                  have hb5 := hb3.drew
                  have hb6 := hb4.drew
                  by_cases heq : Fn.n p.fs[j] = Fn.n p.fs[q]
                  · have e1 := seq_t heq
                    have hR2 := Lib.hid (hbad.out heq)
                    clear hnx hbad heq hF
                    generalize Fn.n p.fs[j] = s1 at *
                    generalize Fn.n p.fs[q] = s2 at *
                    go_wp2_with fail
                    refine wp_region_ser (S := fun _ v => v = wr.drew) rfl (by kernel_rfl) rfl ?_
                    iterate 13 (((refine Ser.step (a1 := ?_) rfl (fun L w1 K' Q' hS hi hR hd hK => ?_) ?_ ?_; rotate_left); (· ((subst hS); go_simp; (try simp only [Act.put, List.setIfInBounds_toArray, List.set_cons_zero, List.set_cons_succ]); exact hK.out _ (rfl))); (· rfl)))
                    refine Ser.nil fun w4 hS4 => ?_
                    subst hS4
                    clear c0 d0 hb5 hb4 hb3 hb1
                    go_wp2_with fail
                    go_ret
                    exact ⟨by rw [hR2.out]; rfl, hb6⟩
                  · have e1 := seq_f heq
                    replace hnx := Lib.hid (hnx.out heq)
                    clear hbad heq hF
                    generalize hs1 : Fn.n p.fs[j] = s1 at *
                    generalize hs2 : Fn.n p.fs[q] = s2 at *
                    clear hs1 hs2
                    go_wp2_with fail
                    refine wp_region_ser (S := fun _ v => v = wr.drew) rfl (by kernel_rfl) rfl ?_
                    iterate 13 (((refine Ser.step (a1 := ?_) rfl (fun L w1 K' Q' hS hi hR hd hK => ?_) ?_ ?_; rotate_left); (· ((subst hS); go_simp; (try simp only [Act.put, List.setIfInBounds_toArray, List.set_cons_zero, List.set_cons_succ]); exact hK.out _ (rfl))); (· rfl)))
                    refine Ser.nil fun w4 hS4 => ?_
                    subst hS4
                    clear c0 d0 hb4 hb3 hb6
                    go_wp2_with fail
                    go_roundw
                    case rel => exact ⟨j + 1, by omega, by go_num, hb5, hnx.out⟩
                    case measure => simp [intOf]; omega
        · have hlt : q < p.xs.length := by omega
          have hltI : (q : Int) < (p.xs.length : Int) := by omega
          go_wp2_with fail
          obtain ⟨wo, rfl⟩ : ∃ wo : World, wo = wr := ⟨_, rfl⟩
          go_loopw [6] (fun i wr => ∃ j : Nat, j ≤ q ∧ i = .int .i64 (j : Int) ∧ Below wo.heap.size wo wr ∧ ∀ k, (h : k < j) → (h2 : k < p.xs.length) → Ex.n p.xs[k] ≠ Ex.n p.xs[q]) (fun i _ => q - (intOf i).toNat)
          case atStart => exact ⟨0, Nat.zero_le _, rfl, Below.refl _ _, fun k h => by omega⟩
          case round =>
            clear qf
            obtain ⟨j, hj, rfl, hb3, hne⟩ := hrel
            have hb4 := bthen' hb1 hb3
            replace hP := hP.nx hb3
            have qf := hP.c 3 _ rfl
            by_cases hend2 : j = q
            · subst hend2
              have hN2 := nodup_next (f := Ex.n) hlt hN fun k h => hne k h (by omega)
              replace hN2 := Lib.hid hN2
              replace hI := Lib.hid hI
              clear hN hne hb1 hb3
              go_wp2_with fail
              go_roundw
              case rel => exact ⟨j + 1, by omega, by go_num, hb4, hP, hN2.out, hI.out⟩
              case measure => simp [intOf]; omega
            · have hjq : j < q := by omega
              have hjqI : (j : Int) < (q : Int) := by omega
              have hltj : j < p.xs.length := by omega
              have hltjI : (j : Int) < (p.xs.length : Int) := by omega
              obtain ⟨a, ha, ⟨c0, -⟩, -⟩ := hx q p.xs[q] (by simp)
              obtain ⟨a', ha', ⟨d0, -⟩, -⟩ := hx j p.xs[j] (by simp)
              subst ha
              obtain rfl : a = a' := by simpa using ha'
              replace c0 := keepc (bthen' h0 hb4) c0
              replace d0 := keepc (bthen' h0 hb4) d0
              have hno := nodup_no (f := Ex.n) hjq hlt
              have hnx : Ex.n p.xs[j] ≠ Ex.n p.xs[q] → ∀ k, (h : k < j + 1) → (h2 : k < p.xs.length) → Ex.n p.xs[k] ≠ Ex.n p.xs[q] := fun h1 k h h2 => by
                rcases Nat.lt_or_ge k j with h3 | h3
                · exact hne k h3 h2
                · obtain rfl : k = j := by omega
                  exact h1
              have hbad : Ex.n p.xs[j] = Ex.n p.xs[q] → R = false := fun h => by
                rw [Bool.eq_false_iff]
                intro h3
                exact hno h (hF.out.1 h3).2.1
              replace hnx := Lib.hid hnx
              replace hbad := Lib.hid hbad
              clear hne hno hN hP ha' hI hx hf
              have hb5 := hb3.drew
              have hb6 := hb4.drew
              by_cases heq : Ex.n p.xs[j] = Ex.n p.xs[q]
              · have e1 := seq_t heq
                have hR2 := Lib.hid (hbad.out heq)
                clear hnx hbad heq hF
                generalize Ex.n p.xs[j] = s1 at *
                generalize Ex.n p.xs[q] = s2 at *
                go_wp2_with fail
                refine wp_region_ser (S := fun _ v => v = wr.drew) rfl (by kernel_rfl) rfl ?_
                iterate 13 (((refine Ser.step (a1 := ?_) rfl (fun L w1 K' Q' hS hi hR hd hK => ?_) ?_ ?_; rotate_left); (· ((subst hS); go_simp; (try simp only [Act.put, List.setIfInBounds_toArray, List.set_cons_zero, List.set_cons_succ]); exact hK.out _ (rfl))); (· rfl)))
                refine Ser.nil fun w4 hS4 => ?_
                subst hS4
                clear c0 d0 hb5 hb4 hb3 hb1
                go_wp2_with fail
                go_ret
                exact ⟨by rw [hR2.out]; rfl, hb6⟩
              · have e1 := seq_f heq
                replace hnx := Lib.hid (hnx.out heq)
                clear hbad heq hF
                generalize hs1 : Ex.n p.xs[j] = s1 at *
                generalize hs2 : Ex.n p.xs[q] = s2 at *
                clear hs1 hs2
                go_wp2_with fail
                refine wp_region_ser (S := fun _ v => v = wr.drew) rfl (by kernel_rfl) rfl ?_
                iterate 13 (((refine Ser.step (a1 := ?_) rfl (fun L w1 K' Q' hS hi hR hd hK => ?_) ?_ ?_; rotate_left); (· ((subst hS); go_simp; (try simp only [Act.put, List.setIfInBounds_toArray, List.set_cons_zero, List.set_cons_succ]); exact hK.out _ (rfl))); (· rfl)))
                refine Ser.nil fun w4 hS4 => ?_
                subst hS4
                clear c0 d0 hb4 hb3 hb6
                go_wp2_with fail
                go_roundw
                case rel => exact ⟨j + 1, by omega, by go_num, hb5, hnx.out⟩
                case measure => simp [intOf]; omega
    · have hlt : q < p.cs.length := by omega
      have hltI : (q : Int) < (p.cs.length : Int) := by omega
      go_wp2_with fail
      obtain ⟨wo, rfl⟩ : ∃ wo : World, wo = wr := ⟨_, rfl⟩
      go_loopw [4] (fun i wr => ∃ j : Nat, j ≤ q ∧ i = .int .i64 (j : Int) ∧ Below wo.heap.size wo wr ∧ ∀ k, (h : k < j) → (h2 : k < p.cs.length) → Cl.n p.cs[k] ≠ Cl.n p.cs[q]) (fun i _ => q - (intOf i).toNat)
      case atStart => exact ⟨0, Nat.zero_le _, rfl, Below.refl _ _, fun k h => by omega⟩
      case round =>
        clear qf
        obtain ⟨j, hj, rfl, hb3, hne⟩ := hrel
        have hb4 := bthen' hb1 hb3
        replace hP := hP.nx hb3
        have qf := hP.c 1 _ rfl
        by_cases hend2 : j = q
        · subst hend2
          have hN2 := nodup_next (f := Cl.n) hlt hN fun k h => hne k h (by omega)
          replace hN2 := Lib.hid hN2
          replace hI := Lib.hid hI
          clear hN hne hb1 hb3
          obtain ⟨a, rfl, ⟨c0, -⟩, u, c1, hr⟩ := hc j p.cs[j] (by simp)
          replace c0 := keepc (bthen' h0 hb4) c0
          replace c1 := keepc (bthen' h0 hb4) c1
          obtain ⟨pf, kf, rfl⟩ := hr.slice
          have hTx := fun W (hW : Below wr.heap.size wr W) => hT W (bthen' hb4 hW) _ _ _ (bthen' h0 (bthen' hb4 hW)) hr
          have hbad : declB p p.cs[j].fs = false → R = false := fun h => by
            rw [Bool.eq_false_iff]
            intro h3
            have h5 := (hF.out.1 h3).2.2.2.2.1 p.cs[j] (by simp)
            rw [h] at h5
            cases h5
          have hnx : declB p p.cs[j].fs = true → ∀ k, (h : k < p.cs.length) → k < j + 1 → declB p p.cs[k].fs = true := fun h1 k h h2 => by
            rcases Nat.lt_or_ge k j with h3 | h3
            · exact hI.out k h h3
            · obtain rfl : k = j := by omega
              exact h1
          clear hr hc hx hf hI
          replace hbad := Lib.hid hbad
          replace hnx := Lib.hid hnx
          generalize hdd : declB p p.cs[j].fs = dd at *
          generalize hyy : p.cs[j] = y at *
          clear hyy hdd
          have hdr := (Below.refl wr.heap.size wr).drew
          go_wp2_with fail
          refine wp_region_ser (S := fun _ v => Below wr.heap.size wr v) rfl (by kernel_rfl) hdr ?_
          iterate 9 (first | ((refine Ser.step (a1 := ?_) rfl (fun L w1 K' Q' hS hi hR hd hK => ?_) ?_ ?_; rotate_left); (· ((skip); go_simp; (try simp only [Act.put, List.setIfInBounds_toArray, List.set_cons_zero, List.set_cons_succ]); exact hK.out _ (hS))); (· rfl)) | ((refine Ser.step (a1 := ?_) rfl (fun L w1 K' Q' hS hi hR hd hK => ?_) ?_ ?_; rotate_left); (· ((have hB := hP.nx hS; have q0 := hB.c 0 _ rfl; have q1 := hB.c 1 _ rfl; have q2 := hB.c 2 _ rfl; have q3 := hB.c 3 _ rfl; have q4 := hB.c 4 _ rfl; replace c0 := keepc hS c0; replace c1 := keepc hS c1); go_simp; (try simp only [Act.put, List.setIfInBounds_toArray, List.set_cons_zero, List.set_cons_succ]); exact hK.out _ (hS))); (· rfl)) | ((refine Ser.step (a1 := ?_) rfl (fun L w1 K' Q' hS hi hR hd hK => ?_) ?_ ?_; rotate_left); (· (go_simp; go_wp2_with ((refine (hTx _ hS).mono ?_; rintro e w2 ⟨rfl, hb⟩)); (try simp only [Act.put, List.setIfInBounds_toArray, List.set_cons_zero, List.set_cons_succ]); exact hK.out _ (bthen' hS hb))); (· rfl)))
          refine Ser.nil fun w4 hS4 => ?_
          have hb5 := bthen' hb4 hS4
          replace hP := hP.nx hS4
          clear hdr hTx c0 c1 hS4 qf
          cases dd
          · have hR2 := Lib.hid (hbad.out rfl)
            clear hbad hnx hF hP
            go_wp2_with fail
            go_ret
            exact ⟨by rw [hR2.out]; rfl, hb5⟩
          · have hN3 := Lib.hid (hnx.out rfl)
            clear hbad hnx
            go_wp2_with fail
            go_roundw
            case rel => exact ⟨j + 1, by omega, by go_num, hb5, hP, hN2.out, hN3.out⟩
            case measure => simp [intOf]; omega
        · have hjq : j < q := by omega
          have hjqI : (j : Int) < (q : Int) := by omega
          have hltj : j < p.cs.length := by omega
          have hltjI : (j : Int) < (p.cs.length : Int) := by omega
          obtain ⟨a, ha, ⟨c0, -⟩, -⟩ := hc q p.cs[q] (by simp)
          obtain ⟨a', ha', ⟨d0, -⟩, -⟩ := hc j p.cs[j] (by simp)
          subst ha
          obtain rfl : a = a' := by simpa using ha'
          replace c0 := keepc (bthen' h0 hb4) c0
          replace d0 := keepc (bthen' h0 hb4) d0
          have hno := nodup_no (f := Cl.n) hjq hlt
          have hnx : Cl.n p.cs[j] ≠ Cl.n p.cs[q] → ∀ k, (h : k < j + 1) → (h2 : k < p.cs.length) → Cl.n p.cs[k] ≠ Cl.n p.cs[q] := fun h1 k h h2 => by
            rcases Nat.lt_or_ge k j with h3 | h3
            · exact hne k h3 h2
            · obtain rfl : k = j := by omega
              exact h1
          have hbad : Cl.n p.cs[j] = Cl.n p.cs[q] → R = false := fun h => by
            rw [Bool.eq_false_iff]
            intro h3
            exact hno h (hF.out.1 h3).1
          replace hnx := Lib.hid hnx
          replace hbad := Lib.hid hbad
          clear hne hno hN hP ha' hI hc hx hf
          have hb5 := hb3.drew
          have hb6 := hb4.drew
          by_cases heq : Cl.n p.cs[j] = Cl.n p.cs[q]
          · have e1 := seq_t heq
            have hR2 := Lib.hid (hbad.out heq)
            clear hnx hbad heq hF
            generalize Cl.n p.cs[j] = s1 at *
            generalize Cl.n p.cs[q] = s2 at *
            go_wp2_with fail
            refine wp_region_ser (S := fun _ v => v = wr.drew) rfl (by kernel_rfl) rfl ?_
            iterate 13 (((refine Ser.step (a1 := ?_) rfl (fun L w1 K' Q' hS hi hR hd hK => ?_) ?_ ?_; rotate_left); (· ((subst hS); go_simp; (try simp only [Act.put, List.setIfInBounds_toArray, List.set_cons_zero, List.set_cons_succ]); exact hK.out _ (rfl))); (· rfl)))
            refine Ser.nil fun w4 hS4 => ?_
            subst hS4
            clear c0 d0 hb5 hb4 hb3 hb1
            go_wp2_with fail
            go_ret
            exact ⟨by rw [hR2.out]; rfl, hb6⟩
          · have e1 := seq_f heq
            replace hnx := Lib.hid (hnx.out heq)
            clear hbad heq hF
            generalize hs1 : Cl.n p.cs[j] = s1 at *
            generalize hs2 : Cl.n p.cs[q] = s2 at *
            clear hs1 hs2
            go_wp2_with fail
            refine wp_region_ser (S := fun _ v => v = wr.drew) rfl (by kernel_rfl) rfl ?_
            iterate 13 (((refine Ser.step (a1 := ?_) rfl (fun L w1 K' Q' hS hi hR hd hK => ?_) ?_ ?_; rotate_left); (· ((subst hS); go_simp; (try simp only [Act.put, List.setIfInBounds_toArray, List.set_cons_zero, List.set_cons_succ]); exact hK.out _ (rfl))); (· rfl)))
            refine Ser.nil fun w4 hS4 => ?_
            subst hS4
            clear c0 d0 hb4 hb3 hb6
            go_wp2_with fail
            go_roundw
            case rel => exact ⟨j + 1, by omega, by go_num, hb5, hnx.out⟩
            case measure => simp [intOf]; omega
end Go.Proofs.Ytjohjpjpfglkkaa
