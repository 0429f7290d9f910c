/- Whether heads are right: the program's Heads. -/
import Derived.Test.YtjohjpjpfglkkaaDoorDec
import Derived.Test.YtjohjpjpfglkkaaDoorApp
namespace Go.Proofs.YtjohjpjpfglkkaaDoor
open Go.RowKit

theorem infoV : (Tryd.prog.info? 60).map (fun i => (i.zero, i.size, i.bytes)) = some (some (.agg #[.string ⟨#[]⟩, .string ⟨#[]⟩]), 2, 32) := by kernel_rfl
/-- no function has too many variables -/
abbrev Vfew (p : Pg) : Prop := ∀ f ∈ p.fs, f.ps.length ≤ 30000 ∧ f.vs.length ≤ 30000

set_option maxHeartbeats 16000000 in
set_option maxRecDepth 100000 in
theorem heads_val {w0 w : World} (h0 : Below w0.heap.size w0 w) {p : Pg} {v u1 u2 u3 u4 : Value} (hp : ValP w0 v p u1 u2 u3 u4) (hfew : Vfew p) :
    Calls Tryd.prog 10 #[v] w fun e w' => e = .returned (.bool (headsB p)) ∧ Below w.heap.size w w' := by
  have hpv := hp
  obtain ⟨iv, hj, hy0, hy1, hy2⟩ := info_parts infoV
  obtain ⟨rfl, hc, hg, hx, hf⟩ := hp
  have hc' := hc
  have hg' := hg
  have hx' := hx
  have hf' := hf
  obtain ⟨p1, k1, rfl, -, hn1, hc⟩ := hc
  obtain ⟨p2, k2, rfl⟩ := hg.slice
  obtain ⟨p3, k3, rfl⟩ := hx.slice
  obtain ⟨p4, k4, rfl, -, hn4, hf⟩ := hf
  clear hg hx
  have hb1 := (Below.refl w.heap.size w).alloc (Nat.le_refl _) (.cells #[.bool p.ssa, .slice p1 p.cs.length k1, .slice p2 p.gs.length k2, .slice p3 p.xs.length k3, .slice p4 p.fs.length k4] 27)
  have hP := Box.alloc w [.bool p.ssa, .slice p1 p.cs.length k1, .slice p2 p.gs.length k2, .slice p3 p.xs.length k3, .slice p4 p.fs.length k4] 27
  obtain ⟨R, hR⟩ : ∃ R, R = headsB p := ⟨_, rfl⟩
  rw [← hR]
  unfold headsB at hR
  have hC := unlC_val (bthen' h0 hb1) hc'
  generalize unl [] (p.cs.map Cl.n) = x1 at *
  go_enter Tryd.func10, Tryd.ntmps10
  go_wp2_with fail
  refine hC.mono ?_
  rintro e w1 ⟨rfl, hb⟩
  have hb1 := bthen' hb1 hb
  have hP := hP.nx hb
  clear hC hb hc'
  cases x1
  · have hR : R = false := hR
    have hR := Lib.hid hR
    clear hP
    go_wp2_with fail
    go_ret
    exact ⟨by rw [hR.out]; rfl, hb1⟩
  rw [Bool.true_and] at hR
  have a3 := hP.c 3 _ rfl
  have hC := unlX_val (bthen' h0 hb1) hx'
  generalize unl [] (p.xs.map Ex.n) = x1 at *
  go_wp2_with fail
  refine hC.mono ?_
  rintro e w2 ⟨rfl, hb⟩
  have hb1 := bthen' hb1 hb
  have hP := hP.nx hb
  clear hC hb hx' a3
  cases x1
  · have hR : R = false := hR
    have hR := Lib.hid hR
    clear hP
    go_wp2_with fail
    go_ret
    exact ⟨by rw [hR.out]; rfl, hb1⟩
  rw [Bool.true_and] at hR
  have a4 := hP.c 4 _ rfl
  have hC := unlF_val (bthen' h0 hb1) hf'
  generalize unl [] (p.fs.map Fn.n) = x1 at *
  go_wp2_with fail
  refine hC.mono ?_
  rintro e w3 ⟨rfl, hb⟩
  have hb1 := bthen' hb1 hb
  have hP := hP.nx hb
  clear hC hb hf' a4
  cases x1
  · have hR : R = false := hR
    have hR := Lib.hid hR
    clear hP
    go_wp2_with fail
    go_ret
    exact ⟨by rw [hR.out]; rfl, hb1⟩
  rw [Bool.true_and] at hR
  have a0 := hP.c 0 _ rfl
  have a1 := hP.c 1 _ rfl
  have a2 := hP.c 2 _ rfl
  have a3 := hP.c 3 _ rfl
  have a4 := hP.c 4 _ rfl
  have hC := decl_val (bthen' h0 hb1) hpv (bthen' h0 hb1) hg'
  generalize declB p p.gs = x1 at *
  go_wp2_with fail
  refine hC.mono ?_
  rintro e w4 ⟨rfl, hb⟩
  have hb1 := bthen' hb1 hb
  have hP := hP.nx hb
  clear hC hb hg' a0 a1 a2 a3 a4
  cases x1
  · have hR : R = false := hR
    have hR := Lib.hid hR
    clear hP
    go_wp2_with fail
    go_ret
    exact ⟨by rw [hR.out]; rfl, hb1⟩
  rw [Bool.true_and] at hR
  have a1 := hP.c 1 _ rfl
  have hR := Lib.hid hR
  go_wp2_with fail
  go_loopw [34] (fun i wr => ∃ q : Nat, q ≤ p.cs.length ∧ i = .int .i64 (q : Int) ∧ Below w.heap.size w wr ∧ Box wr w.heap.size [.bool p.ssa, .slice p1 p.cs.length k1, .slice p2 p.gs.length k2, .slice p3 p.xs.length k3, .slice p4 p.fs.length k4] ∧ Hid (R = ((p.cs.drop q).all (fun c => declB p c.fs) && p.fs.all (fun f => knownB p f.r && declB p (f.ps ++ f.vs))))) (fun i _ => p.cs.length - (intOf i).toNat)
  case atStart => exact ⟨0, Nat.zero_le _, rfl, hb1, hP, hR⟩
  case round =>
    clear hb1 hP hR a1
    obtain ⟨q, hq, rfl, hb, hP, hR⟩ := hrel
    have hR := hR.out
    by_cases hend : q = p.cs.length
    · subst hend
      rw [List.drop_length, List.all_nil, Bool.true_and] at hR
      have a4 := hP.c 4 _ rfl
      have hR := Lib.hid hR
      clear hc
      go_wp2_with fail
      obtain ⟨wo, rfl⟩ : ∃ wo : World, wo = wr := ⟨_, rfl⟩
      go_loopw [47] (fun i wr => ∃ q : Nat, q ≤ p.fs.length ∧ i = .int .i64 (q : Int) ∧ Below w.heap.size w wr ∧ Box wr w.heap.size [.bool p.ssa, .slice p1 p.cs.length k1, .slice p2 p.gs.length k2, .slice p3 p.xs.length k3, .slice p4 p.fs.length k4] ∧ Hid (R = (p.fs.drop q).all (fun f => knownB p f.r && declB p (f.ps ++ f.vs)))) (fun i _ => p.fs.length - (intOf i).toNat)
      case atStart => exact ⟨0, Nat.zero_le _, rfl, hb, hP, hR⟩
      case round =>
        clear hb hP hR a4
        obtain ⟨q, hq, rfl, hb, hP, hR⟩ := hrel
        have hR := hR.out
        by_cases hend : q = p.fs.length
        · subst hend
          rw [List.drop_length, List.all_nil] at hR
          have hR := Lib.hid hR
          clear hf hP
          go_wp2_with fail
          go_ret
          exact ⟨by rw [hR.out]; rfl, hb⟩
        · have hlt : q < p.fs.length := by omega
          have hltI : (q : Int) < (p.fs.length : Int) := by omega
          rw [List.drop_eq_getElem_cons hlt, List.all_cons, Bool.and_assoc] at hR
          have hvf := hfew p.fs[q] (by simp)
          obtain ⟨a, rfl, ⟨c0, z0⟩, ⟨c1, z1⟩, ⟨v2, c2, r2⟩, ⟨v3, c3, r3⟩, v4, c4, r4⟩ := hf q p.fs[q] (by simp [hlt])
          have hb0 := bthen' h0 hb
          have c0 := keepc hb0 c0
          have c1 := keepc hb0 c1
          have c2 := keepc hb0 c2
          have c3 := keepc hb0 c3
          have c4 := keepc hb0 c4
          obtain ⟨q3, j3, rfl⟩ := r4.slice
          clear hf hfew r4
          generalize p.fs[q] = y at *
          have s2 := r2.sz
          have s3 := r3.sz
          obtain ⟨q1, j1, rfl, m1, n1, r2⟩ := r2
          obtain ⟨q2, j2, rfl, m2, n2, r3⟩ := r3
          have hb4 := (hb.alloc hb.size (.cells #[.string y.n, .string y.r, .slice q1 y.ps.length j1, .slice q2 y.vs.length j2, .slice q3 y.bs.length j3] 30)).drew
          have hF := (Box.alloc wr [.string y.n, .string y.r, .slice q1 y.ps.length j1, .slice q2 y.vs.length j2, .slice q3 y.bs.length j3] 30).drew
          have hP4 := (hP.al (.cells #[.string y.n, .string y.r, .slice q1 y.ps.length j1, .slice q2 y.vs.length j2, .slice q3 y.bs.length j3] 30)).drew
          have hw4 := bthen' h0 hb4
          have hs1 := cellsV_cell fun i x hx => (r2 i x hx).imp fun a h => ⟨h.1, h.2.kp hw4⟩
          have hs2 := cellsV_cell fun i x hx => (r3 i x hx).imp fun a h => ⟨h.1, h.2.kp hw4⟩
          have hlF := hF.lt
          have hlp := hP4.lt
          clear r2 r3 hb hP hb0
          go_wp2
          clear c0 c1 c2 c3 c4
          generalize hWd : (wr.alloc (.cells #[.string y.n, .string y.r, .slice q1 y.ps.length j1, .slice q2 y.vs.length j2, .slice q3 y.bs.length j3] 30)).drew = Wd at *
          have hWs : wr.heap.size < Wd.heap.size := hlF
          refine wp_region_serF (S := Stg 0 3 6 7 (fun _ v => v = Wd) (fun V v => V 0 = .slice (some ⟨Wd.heap.size, 0, none⟩) 0 0 ∧ v = Wd.alloc (.cells #[] 60))
            (fun V v => (∃ p c, V 3 = .slice p y.ps.length c) ∧ Below Wd.heap.size Wd v ∧ v.ownsRow Wd.heap.size 60 2 (V 3) y.ps.length (cellsV y.ps))
            (fun V v => (∃ p c, V 6 = .slice p (y.ps.length + y.vs.length) c) ∧ Below Wd.heap.size Wd v ∧ v.ownsRow Wd.heap.size 60 2 (V 6) (y.ps.length + y.vs.length) (cellsV y.ps ++ cellsV y.vs))
            (fun V v => (∃ p c, V 7 = .slice p (y.ps.length + y.vs.length) c) ∧ Below Wd.heap.size Wd v ∧ v.ownsRow Wd.heap.size 60 2 (V 7) (y.ps.length + y.vs.length) (cellsV y.ps ++ cellsV y.vs))) rfl (by kernel_rfl) (Stg.start hWd) ?_
          have hbl : ∀ {V : Nat → Value} {L : Nat → Bool} {w1 : World}, Stg 0 3 6 7 (fun _ v => v = Wd) (fun V v => V 0 = .slice (some ⟨Wd.heap.size, 0, none⟩) 0 0 ∧ v = Wd.alloc (.cells #[] 60))
            (fun V v => (∃ p c, V 3 = .slice p y.ps.length c) ∧ Below Wd.heap.size Wd v ∧ v.ownsRow Wd.heap.size 60 2 (V 3) y.ps.length (cellsV y.ps))
            (fun V v => (∃ p c, V 6 = .slice p (y.ps.length + y.vs.length) c) ∧ Below Wd.heap.size Wd v ∧ v.ownsRow Wd.heap.size 60 2 (V 6) (y.ps.length + y.vs.length) (cellsV y.ps ++ cellsV y.vs))
            (fun V v => (∃ p c, V 7 = .slice p (y.ps.length + y.vs.length) c) ∧ Below Wd.heap.size Wd v ∧ v.ownsRow Wd.heap.size 60 2 (V 7) (y.ps.length + y.vs.length) (cellsV y.ps ++ cellsV y.vs)) V L w1 → Below Wd.heap.size Wd w1 := fun h =>
            h.any (X := fun v => Below Wd.heap.size Wd v) (fun v h => h ▸ Below.refl _ _) (fun v h => h.2 ▸ (Below.refl _ _).alloc (Nat.le_refl _) _) (fun v h => h.2.1) (fun v h => h.2.1) (fun v h => h.2.1)
          refine SerF.free (fun _ => rfl) (fun V L w1 K' Q' hS hi hR hd hK => ?_) ?_
          · have a3 := hR.out 3 0 (by kernel_rfl) hi
            have a6 := hR.out 6 3 (by kernel_rfl) a3
            have a7 := hR.out 7 6 (by kernel_rfl) a6
            have e0 := hS.s0 hi a3 a6 a7
            subst e0
            go_simp
            (try simp only [Act.put, List.setIfInBounds_toArray, List.set_cons_zero, List.set_cons_succ])
            exact hK.out _ _ rfl (Stg.t1 ⟨rfl, rfl⟩ rfl rfl rfl a3 a6 a7)
          (try simp only [Act.put, List.setIfInBounds_toArray, List.set_cons_zero, List.set_cons_succ])
          ((refine SerF.step (a1 := ?_) (fun _ => rfl) (fun V L w1 K' Q' hS hi hR hd hK => ?_) ?_ ?_ ?_; rotate_left); (· ((skip); go_simp; (try simp only [Act.put, List.setIfInBounds_toArray, List.set_cons_zero, List.set_cons_succ]); exact hK.out _ (hS.keep rfl rfl rfl rfl))); (· (intro V; rfl)); (· (exact fun _ _ _ _ _ _ => rfl)))
          ((refine SerF.step (a1 := ?_) (fun _ => rfl) (fun V L w1 K' Q' hS hi hR hd hK => ?_) ?_ ?_ ?_; rotate_left); (· ((have f2 := (hF.below hWs (hbl hS)).c 2 _ rfl); go_simp; (try simp only [Act.put, List.setIfInBounds_toArray, List.set_cons_zero, List.set_cons_succ]); exact hK.out _ (hS.keep rfl rfl rfl rfl))); (· (intro V; rfl)); (· (exact fun _ _ _ _ _ _ => rfl)))
          refine SerF.free (fun _ => rfl) (fun V L w1 K' Q' hS hi hR hd hK => ?_) ?_
          · have a6 := hR.out 6 3 (by kernel_rfl) hi
            have a7 := hR.out 7 6 (by kernel_rfl) a6
            obtain ⟨hV, rfl⟩ := hS.s1 (hd.out 0 (by kernel_rfl)) hi a6 a7
            refine wp_append_any _ _ 23 rfl Wd.heap.size 60 iv _ 2 32 Tryd.underlying23 hj hy0 hy1 hy2 rfl (by decide) _ 0 [] hV (own_made' (Nat.le_refl _)) q1 y.ps.length j1 (cellsV y.ps) rfl m1 (cellsV_len _) (fun ad e j u hu => keepc ((Below.refl Wd.heap.size Wd).alloc (Nat.le_refl _) _) (hs1 ad e j u hu)) (cellsV_one _) (by unfold maxLen; omega) (by omega) (by simp) (fun v' w' h1 h2 => ?_)
            have h1' : w'.ownsRow Wd.heap.size 60 2 v' y.ps.length (cellsV y.ps) := by simpa using h1
            have hb' : Below Wd.heap.size Wd w' := ((Below.refl Wd.heap.size Wd).alloc (Nat.le_refl _) _).grown h2 (by simp) fun g e => by cases e; exact Nat.le_refl _
            obtain ⟨pu2, ku2, rfl⟩ := own_sl h1'
            exact hK.out _ _ rfl (Stg.t2 ⟨⟨_, _, rfl⟩, hb', h1'⟩ rfl rfl a6 a7)
          (try simp only [Act.put, List.setIfInBounds_toArray, List.set_cons_zero, List.set_cons_succ])
          ((refine SerF.step (a1 := ?_) (fun _ => rfl) (fun V L w1 K' Q' hS hi hR hd hK => ?_) ?_ ?_ ?_; rotate_left); (· ((skip); go_simp; (try simp only [Act.put, List.setIfInBounds_toArray, List.set_cons_zero, List.set_cons_succ]); exact hK.out _ (hS.keep rfl rfl rfl rfl))); (· (intro V; rfl)); (· (exact fun _ _ _ _ _ _ => rfl)))
          ((refine SerF.step (a1 := ?_) (fun _ => rfl) (fun V L w1 K' Q' hS hi hR hd hK => ?_) ?_ ?_ ?_; rotate_left); (· ((have f3 := (hF.below hWs (hbl hS)).c 3 _ rfl); go_simp; (try simp only [Act.put, List.setIfInBounds_toArray, List.set_cons_zero, List.set_cons_succ]); exact hK.out _ (hS.keep rfl rfl rfl rfl))); (· (intro V; rfl)); (· (exact fun _ _ _ _ _ _ => rfl)))
          refine SerF.free (fun _ => rfl) (fun V L w1 K' Q' hS hi hR hd hK => ?_) ?_
          · have a7 := hR.out 7 6 (by kernel_rfl) hi
            obtain ⟨⟨pu, ku, hV⟩, hbx, hox⟩ := hS.s2 (hd.out 3 (by kernel_rfl)) hi a7
            refine wp_append_any _ _ 23 rfl Wd.heap.size 60 iv _ 2 32 Tryd.underlying23 hj hy0 hy1 hy2 rfl (by decide) _ y.ps.length _ rfl hox q2 y.vs.length j2 (cellsV y.vs) rfl m2 (cellsV_len _) (fun ad e j u hu => keepc hbx (hs2 ad e j u hu)) (cellsV_one _) (by unfold maxLen; omega) (by omega) hbx.size (fun v' w' h1 h2 => ?_)
            have hb' : Below Wd.heap.size Wd w' := hbx.grown h2 hbx.size fun g e => (hox.lt g e).1
            obtain ⟨pu2, ku2, rfl⟩ := own_sl h1
            exact hK.out _ _ rfl (Stg.t3 ⟨⟨_, _, rfl⟩, hb', h1⟩ rfl a7)
          (try simp only [Act.put, List.setIfInBounds_toArray, List.set_cons_zero, List.set_cons_succ])
          refine SerF.free (fun _ => rfl) (fun V L w1 K' Q' hS hi hR hd hK => ?_) ?_
          · have hX := Lib.hid (hS.s3 (hd.out 6 (by kernel_rfl)) hi)
            go_simp
            (try simp only [Act.put, List.setIfInBounds_toArray, List.set_cons_zero, List.set_cons_succ])
            exact hK.out _ _ rfl (Stg.t4 hX.out)
          (try simp only [Act.put, List.setIfInBounds_toArray, List.set_cons_zero, List.set_cons_succ])
          refine SerF.nil fun V w1 hS => ?_
          obtain ⟨⟨pu2, cu2, hV⟩, hb2, ho3⟩ := hS.s4 rfl
          rw [hV] at ho3
          simp only [hV]
          have hlen : y.ps.length + y.vs.length = (y.ps ++ y.vs).length := by simp
          rw [hlen, ← cellsV_app] at ho3
          have hrow := own_vars ho3 (fun x hx => by rcases List.mem_append.1 hx with h | h; · exact s2 x h
                                                    · exact s3 x h) (by simp; omega)
          rw [hlen]
          have hb5 := hb4.trans (hb2.mono hb4.size)
          have hF5 := hF.below hWs hb2
          have hP5 := hP4.below hlp hb2
          clear hS hbl hs1 hs2 hV hb4 hb2 ho3 hF hP4 hlen
          have q0 := hP5.c 0 _ rfl
          have q1' := hP5.c 1 _ rfl
          have q2' := hP5.c 2 _ rfl
          have q3' := hP5.c 3 _ rfl
          have q4 := hP5.c 4 _ rfl
          have f1 := hF5.c 1 _ rfl
          have hK := known_val (bthen' h0 hb5) hpv y.r
          have hlp5 := hP5.lt
          generalize knownB p y.r = kk at *
          generalize hvl : y.ps ++ y.vs = vl at *
          have hR := Lib.hid hR
          go_wp2_with fail
          refine hK.mono ?_
          rintro e w2 ⟨rfl, hb6⟩
          have hb7 := bthen' hb5 hb6
          have hP6 := hP5.nx hb6
          have hR := hR.out
          have hrow := hrow.v hb6
          clear hK hb5 hb6 hP5 hF5 q0 q1' q2' q3' q4 f1 hlp5
          cases kk
          · have hR : R = false := by rw [hR]; rfl
            have hR := Lib.hid hR
            clear hP6 hrow hlp hlF hWs
            go_wp2_with fail
            go_ret
            exact ⟨by rw [hR.out]; rfl, hb7⟩
          · rw [Bool.true_and] at hR
            have q0 := hP6.c 0 _ rfl
            have q1' := hP6.c 1 _ rfl
            have q2' := hP6.c 2 _ rfl
            have q3' := hP6.c 3 _ rfl
            have q4 := hP6.c 4 _ rfl
            have hD := decl_val (bthen' h0 hb7) hpv (Below.refl _ _) hrow
            have hlp6 := hP6.lt
            generalize declB p vl = dd at *
            have hR := Lib.hid hR
            clear hlp hlF hWs
            go_wp2_with fail
            refine hD.mono ?_
            rintro e w3 ⟨rfl, hb8⟩
            have hb9 := bthen' hb7 hb8
            have hP7 := hP6.nx hb8
            have hR := hR.out
            clear hD hb7 hb8 hP6 hrow q0 q1' q2' q3' q4 hlp6
            cases dd
            · have hR : R = false := by rw [hR]; rfl
              have hR := Lib.hid hR
              clear hP7
              go_wp2_with fail
              go_ret
              exact ⟨by rw [hR.out]; rfl, hb9⟩
            · rw [Bool.true_and] at hR
              have hR := Lib.hid hR
              go_wp2_with fail
              go_roundw
              case rel => exact ⟨q + 1, by omega, by go_num, hb9, hP7, hR⟩
              case measure => simp [intOf]; omega
    · have hlt : q < p.cs.length := by omega
      have hltI : (q : Int) < (p.cs.length : Int) := by omega
      rw [List.drop_eq_getElem_cons hlt, List.all_cons, Bool.and_assoc] at hR
      obtain ⟨a, rfl, ⟨c0, z0⟩, u, c1, hr⟩ := hc q p.cs[q] (by simp [hlt])
      have hb0 := bthen' h0 hb
      have c0 := keepc hb0 c0
      have c1 := keepc hb0 c1
      obtain ⟨pf, kf, rfl⟩ := hr.slice
      clear hc
      generalize p.cs[q] = y at *
      have hb4 := hb.alloc hb.size (.cells #[.string y.n, .slice pf y.fs.length kf] 67)
      have hP2 := hP.al (.cells #[.string y.n, .slice pf y.fs.length kf] 67)
      have q0 := hP2.c 0 _ rfl
      have q1 := hP2.c 1 _ rfl
      have q2 := hP2.c 2 _ rfl
      have q3 := hP2.c 3 _ rfl
      have q4 := hP2.c 4 _ rfl
      have hlp := hP.lt
      have hK := decl_val (bthen' h0 hb4) hpv (bthen' h0 hb4) hr
      generalize declB p y.fs = kk at *
      have hR := Lib.hid hR
      clear hP hb hr hb0
      go_wp2_with fail
      refine hK.mono ?_
      rintro e w2 ⟨rfl, hb2⟩
      have hb3 := bthen' hb4 hb2
      have hP3 := hP2.nx hb2
      have hR := hR.out
      clear hK hb4 hb2 hP2 q0 q1 q2 q3 q4 c0 c1
      cases kk
      · have hR : R = false := by rw [hR]; rfl
        have hR := Lib.hid hR
        clear hP3 hlp
        go_wp2_with fail
        go_ret
        exact ⟨by rw [hR.out]; rfl, hb3⟩
      · rw [Bool.true_and] at hR
        have hR := Lib.hid hR
        clear hlp
        go_wp2_with fail
        go_roundw
        case rel => exact ⟨q + 1, by omega, by go_num, hb3, hP3, hR⟩
        case measure => simp [intOf]; omega
end Go.Proofs.YtjohjpjpfglkkaaDoor
