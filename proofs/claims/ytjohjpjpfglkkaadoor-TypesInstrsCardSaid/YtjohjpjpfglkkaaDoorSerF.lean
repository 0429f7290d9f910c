/- A region that draws its order, walked once in the order of its text: where a value may hang on the order (a new block's address), and what is said of the world speaks of these values. -/
import Derived.Test.YtjohjpjpfglkkaaDoorSer
namespace Go.Proofs.YtjohjpjpfglkkaaDoor
open Go

/-- V, with v as number i's value -/
def setV (V : Nat → Value) (i : Nat) (v : Value) : Nat → Value := fun k => if k = i then v else V k
theorem setV_self (V : Nat → Value) (i : Nat) (v : Value) : setV V i v i = v := if_pos rfl
theorem setV_ne (V : Nat → Value) {i k : Nat} (v : Value) (h : k ≠ i) : setV V i v k = V k := if_neg h

/-- a value that hangs on what has come up when number i has -/
def DepOnly (md : Region.Mode) (ops : Array Oper) (i : Nat) (v : (Nat → Value) → Value) : Prop :=
  ∀ (L : Nat → Bool) (V V' : Nat → Value), Right md ops L → L i = true → (∀ k, L k = true → V k = V' k) → v V = v V'

def SerF (P : Program) (md : Region.Mode) (ops : Array Oper) (Q : Exit → Act → World → Prop) (S : (Nat → Value) → (Nat → Bool) → World → Prop) : List Oper → Nat → ((Nat → Value) → Act) → Prop
  | [], _, a => ∀ V w, S V (fun j => decide (j < ops.size)) w → Q .normal (a V) w
  | o :: rest, i, a => ∃ v : (Nat → Value) → Value, DepOnly md ops i v ∧
      (∀ (V : Nat → Value) (L : Nat → Bool) (w : World), S V L w → L i = false → Right md ops L → (∀ j, waits md ops i j = true → L j = true) →
        (Region.wanted o (yielded ops (a V).tmps) = true ∧ 
          o.wp P (a V) w (fun a' w' => ∃ V' : Nat → Value, (∀ k, k ≠ i → V' k = V k) ∧ a' = (a V).put o.dst (v V') ∧ S V' (upd L i) w') (fun _ _ _ => False)) ∨
        (Region.wanted o (yielded ops (a V).tmps) = false ∧ v V = undef ∧ S V (upd L i) w)) ∧
      SerF P md ops Q S rest (i + 1) (fun V => (a V).put o.dst (v V))

section
variable {P : Program} {md : Region.Mode} {ops : Array Oper} {Q : Exit → Act → World → Prop} {S : (Nat → Value) → (Nat → Bool) → World → Prop}

/-- an operation that does in one frame does in another that looks the same to it -/
theorem wp_sameF {o : Oper} {a a' : Act} {w : World} {G : Value → World → Prop} {K : Act → World → Prop} (he : execOp a'.eval o = execOp a.eval o) (hs : a.tmps.size = a'.tmps.size)
    (h : o.wp P a w (fun a1 w' => ∃ v, a1 = a.put o.dst v ∧ G v w') (fun _ _ _ => False)) (hK : ∀ v w', G v w' → K (a'.put o.dst v) w') : o.wp P a' w K Q := by
  unfold Oper.wp at *
  rw [he]
  generalize (execOp a.eval o).run P w = r at *
  cases r with
  | ok n w' =>
    cases n <;> simp only [Oper.upon] at h ⊢
    case value u => obtain ⟨v, h1, h2⟩ := h; rw [put_inj hs h1]; exact hK _ _ h2
    case skip => obtain ⟨v, h1, h2⟩ := h; rw [put_inj hs h1]; exact hK _ _ h2
    case defer d =>
      obtain ⟨v, h0, h2⟩ := h
      have h1 := congrArg (fun x : Act => x.defers.length) h0
      exfalso
      cases hd : o.dst <;> simp [Act.put, hd] at h1
    case enter f args =>
      refine Calls.mono h fun e w'' he => ?_
      cases e with
      | returned u => simp only at he ⊢; obtain ⟨v, h1, h2⟩ := he; rw [put_inj hs h1]; exact hK _ _ h2
      | panicked c => exact he.elim
      | outgrown =>
        obtain ⟨_, _, hf⟩ := he
        exact hf.elim
    case row row args => exact Rows.mono h fun u w'' he => by obtain ⟨v, h1, h2⟩ := he; rw [put_inj hs h1]; exact hK _ _ h2
  | halt x w' =>
    cases x <;> simp only [Oper.upon] at h ⊢

/-- what the walk says of operation number i, in the frame of the text's order -/
def StepF (P : Program) (md : Region.Mode) (ops : Array Oper) (S : (Nat → Value) → (Nat → Bool) → World → Prop) (i : Nat) (o : Oper) (v : (Nat → Value) → Value) (a : (Nat → Value) → Act) : Prop :=
  DepOnly md ops i v ∧
      ∀ (V : Nat → Value) (L : Nat → Bool) (w : World), S V L w → L i = false → Right md ops L → (∀ j, waits md ops i j = true → L j = true) →
        (Region.wanted o (yielded ops (a V).tmps) = true ∧ 
          o.wp P (a V) w (fun a' w' => ∃ V' : Nat → Value, (∀ k, k ≠ i → V' k = V k) ∧ a' = (a V).put o.dst (v V') ∧ S V' (upd L i) w') (fun _ _ _ => False)) ∨
        (Region.wanted o (yielded ops (a V).tmps) = false ∧ v V = undef ∧ S V (upd L i) w)

theorem serF_vals : ∀ (l : List Oper) (i : Nat) (a : (Nat → Value) → Act), SerF P md ops Q S l i a → (∀ k, k < l.length → ops[i + k]? = l[k]?) →
    ∃ F : Nat → (Nat → Value) → Value,
      (∀ k o, l[k]? = some o → StepF P md ops S (i + k) o (F (i + k)) (fun V => puts ops (fun j => F j V) (fun j => decide (i ≤ j)) (a V) (i + k))) ∧
      ∀ V w, S V (fun j => decide (j < ops.size)) w → Q .normal (puts ops (fun j => F j V) (fun j => decide (i ≤ j)) (a V) (i + l.length)) w := by
  intro l
  induction l with
  | nil =>
    intro i a h _
    refine ⟨fun _ _ => undef, fun k o hk => (by simp at hk), fun V w hw => ?_⟩
    rw [puts_more _ _ (a V) 0 (i + ([] : List Oper).length) (by omega) (fun j h1 h2 => by simp at h2 ⊢; omega)]
    exact h V w hw
  | cons o rest ih =>
    intro i a h hops
    obtain ⟨v, hv, h1, h2⟩ := h
    obtain ⟨F, hF, hend⟩ := ih (i + 1) _ h2 (fun k hk => by
      have := hops (k + 1) (by simpa using hk)
      rw [show i + 1 + k = i + (k + 1) by omega, this]; rfl)
    have ho : ops[i]? = some o := by have := hops 0 (by simp); simpa using this
    have hput : ∀ (V : Nat → Value) n, i + 1 ≤ n → puts ops (fun j => (if j = i then v else F j) V) (fun j => decide (i ≤ j)) (a V) n = puts ops (fun j => F j V) (fun j => decide (i + 1 ≤ j)) ((a V).put o.dst (v V)) n := by
      intro V n hn
      induction n with
      | zero => omega
      | succ n ihn =>
        by_cases e : n = i
        · subst e
          rw [puts_on (by simp), ho]
          rw [puts_more _ _ (a V) 0 n (by omega) (fun j _ h2 => by simp; omega), puts_more _ _ ((a V).put o.dst (v V)) 0 (n + 1) (by omega) (fun j _ h2 => by simp; omega)]
          simp [puts]
        · rw [puts_on (by simp; omega), puts_on (by simp; omega), ihn (by omega)]
          simp [e]
    refine ⟨fun j => if j = i then v else F j, fun k ok hk => ?_, fun V w hw => ?_⟩
    · cases k with
      | zero =>
        have : ok = o := by simpa using hk.symm
        subst this
        have hp : (fun V => puts ops (fun j => (if j = i then v else F j) V) (fun j => decide (i ≤ j)) (a V) (i + 0)) = a := by
          funext V
          exact puts_more _ _ (a V) 0 _ (by omega) (fun j _ h2 => by simp; omega)
        unfold StepF
        have hv0 : (fun j => if j = i then v else F j) (i + 0) = v := if_pos rfl
        rw [hp, hv0]
        exact ⟨hv, h1⟩
      | succ k =>
        have hk' : rest[k]? = some ok := by simpa using hk
        have := hF k ok hk'
        rw [show i + 1 + k = i + (k + 1) by omega] at this
        have he : (fun V => puts ops (fun j => (if j = i then v else F j) V) (fun j => decide (i ≤ j)) (a V) (i + (k + 1))) = fun V => puts ops (fun j => F j V) (fun j => decide (i + 1 ≤ j)) ((a V).put o.dst (v V)) (i + (k + 1)) := by
          funext V
          exact hput V _ (by omega)
        have hne : i + (k + 1) ≠ i := by omega
        simp only [hne, if_false, he]
        exact this
    · rw [hput V _ (by simp)]
      have := hend V w hw
      rw [show i + 1 + rest.length = i + (o :: rest).length by simp; omega] at this
      exact this

theorem serF_any (hok : serOk md ops = true) {a : Act} (h : SerF P md ops Q S ops.toList 0 (fun _ => a)) {w : World} {V0 : Nat → Value} (hw : S V0 (fun _ => false) w) :
    wpAny P md ops Q ops.size (Array.replicate ops.size false) a w := by
  obtain ⟨F, hF, hend⟩ := serF_vals ops.toList 0 _ h (fun k _ => by simp)
  obtain ⟨hsel, hsp⟩ := serOk_spec hok
  have hL0 : (fun j => decide (0 ≤ j)) = fun _ : Nat => true := by funext j; simp
  rw [hL0] at hF hend
  have main : ∀ (fuel : Nat) (listed : Array Bool) (V : Nat → Value) (w : World), listed.size = ops.size → left (fun j => listed.getD j false) ops.size ≤ fuel →
      (∀ j oj, ops[j]? = some oj → listed.getD j false = true → ∀ e ∈ oj.after, Region.binds md e = true → listed.getD e.on false = true) →
      S V (fun j => listed.getD j false) w → wpAny P md ops Q fuel listed (puts ops (fun j => F j V) (fun j => listed.getD j false) a ops.size) w := by
    intro fuel
    induction fuel with
    | zero =>
      intro listed V w hsz hleft hcl hS
      have hall := left_none _ _ (Nat.le_zero.1 hleft)
      have hready : Region.ready md ops listed = [] := by
        rw [List.eq_nil_iff_forall_not_mem]
        intro j hj
        obtain ⟨h0, o, ho, _⟩ := ready_of hj
        have hlt : j < ops.size := (Array.getElem?_eq_some_iff.1 ho).1
        have h1 := hall j hlt
        rw [getD_both listed j (by omega) false true, h0] at h1
        cases h1
      refine ⟨hready, ?_⟩
      have hLe := all_listed listed ops.size hsz hall
      rw [puts_congrL _ _ (fun _ => true) a ops.size (fun j hj => hall j hj)]
      rw [hLe] at hS
      simpa using hend V w hS
    | succ fuel ih =>
      intro listed V w hsz hleft hcl hS
      refine ⟨fun hr => ?_, fun i hi => ?_⟩
      · by_cases h0 : left (fun j => listed.getD j false) ops.size = 0
        · have hall := left_none _ _ h0
          have hLe := all_listed listed ops.size hsz hall
          rw [puts_congrL _ _ (fun _ => true) a ops.size (fun j hj => hall j hj)]
          rw [hLe] at hS
          simpa using hend V w hS
        · exfalso
          obtain ⟨j, hj, hno, hbefore⟩ := left_some _ _ (Nat.pos_of_ne_zero h0)
          obtain ⟨o, ho⟩ : ∃ o, ops[j]? = some o := ⟨ops[j], by simp [hj]⟩
          have : j ∈ Region.ready md ops listed := mem_ready.2 ⟨by rw [getD_both listed j (by omega) true false]; exact hno, o, ho, fun e he hb => hbefore _ ((hsp j o ho).1 e he hb)⟩
          rw [hr] at this
          cases this
      · obtain ⟨h0, o, ho, hdeps⟩ := ready_of hi
        have hlt : i < ops.size := (Array.getElem?_eq_some_iff.1 ho).1
        have hno : listed.getD i false = false := by rw [getD_both listed i (by omega) false true]; exact h0
        have hclosed' : ∀ j oj, ops[j]? = some oj → (listed.setIfInBounds i true).getD j false = true → ∀ e ∈ oj.after, Region.binds md e = true → (listed.setIfInBounds i true).getD e.on false = true := by
          intro j oj hj hl e he hb
          by_cases hji : j = i
          · subst hji
            rw [ho] at hj
            cases hj
            exact getD_set_true (hdeps e he hb)
          · rw [getD_set_ne false (Ne.symm hji)] at hl
            exact getD_set_true (hcl j oj hj hl e he hb)
        have hleft' : left (fun j => (listed.setIfInBounds i true).getD j false) ops.size ≤ fuel := by
          rw [getD_upd listed i (by omega)]
          have := (left_upd (fun j => listed.getD j false) i hno ops.size).2 hlt
          omega
        have hput : ∀ V, (puts ops (fun j => F j V) (fun j => listed.getD j false) a ops.size).put o.dst (F i V) = puts ops (fun j => F j V) (upd (fun j => listed.getD j false) i) a ops.size := fun V =>
          puts_upd (fun i oi hi => (hsp i oi hi).2) (fun i oi hi => (hsp i oi hi).1) (fun j => F j V) (fun j => listed.getD j false) a i o ho hno hcl ops.size hlt
        have hlook : ∀ t ∈ o.looksAt ops, (puts ops (fun j => F j V) (fun j => listed.getD j false) a ops.size).tmps[t]? = (puts ops (fun j => F j V) (fun _ => true) a (0 + i)).tmps[t]? := by
          intro t ht
          have h1 : (puts ops (fun j => F j V) (fun j => listed.getD j false) a ops.size).tmps[t]? = (puts ops (fun j => F j V) (fun j => decide (j < i)) a ops.size).tmps[t]? := by
            refine puts_slot _ _ _ a t ops.size fun j hj hd => ?_
            by_cases hji : j = i
            · subst hji; simp only [hno]; simp
            · obtain ⟨oj, hoj⟩ : ∃ o, ops[j]? = some o := ⟨ops[j], by simp [hj]⟩
              rcases (hsp i o ho).2 j oj hoj hji with ⟨e, he, hb, heq⟩ | ⟨e, he, hb, heq⟩ | hap
              · have hl := hdeps e he hb
                have hlt' := (hsp i o ho).1 e he hb
                rw [heq] at hl hlt'
                simp only [hl, hlt', decide_true]
              · have hlt' := (hsp j oj hoj).1 e he hb
                rw [heq] at hlt'
                have : ¬ j < i := by omega
                simp only [this, decide_false]
                cases hl : listed.getD j false with
                | false => rfl
                | true =>
                  have := hcl j oj hoj hl e he hb
                  rw [heq, hno] at this
                  cases this
              · rw [hoj] at hd
                exact absurd ht ((Oper.apart_spec hap).2.2 t hd)
          rw [h1, puts_more _ (fun j => decide (j < i)) a i ops.size (by omega) (fun j h1 _ => by simp; omega), Nat.zero_add]
          rw [puts_congrL _ (fun j => decide (j < i)) (fun _ => true) a i (fun j hj => by simp [hj])]
        have hexec := exec_same o (fun cs b => hsel i o cs b ho) _ _ hlook
        have hwant := wanted_same o _ _ hlook
        have hk : ops.toList[i]? = some o := by simpa using ho
        have hR : Right md ops fun j => listed.getD j false := by
          intro j k hjk hk
          obtain ⟨oj, hj, e, he, hb, rfl⟩ := waits_spec hjk
          show listed.getD j false = false
          cases hl : listed.getD j false with
          | false => rfl
          | true =>
            have hk : listed.getD e.on false = false := hk
            rw [hcl j oj hj hl e he hb] at hk
            cases hk
        have hDep : ∀ j, waits md ops i j = true → listed.getD j false = true := by
          intro j hj
          obtain ⟨oi, hi', e, he, hb, rfl⟩ := waits_spec hj
          rw [ho] at hi'
          cases hi'
          exact hdeps e he hb
        -- the values of those that have come up stay
        have hstay : ∀ V' : Nat → Value, (∀ k, k ≠ i → V' k = V k) → puts ops (fun j => F j V) (fun j => listed.getD j false) a ops.size = puts ops (fun j => F j V') (fun j => listed.getD j false) a ops.size := by
          intro V' hV'
          have hj : ∀ j, j < ops.size → listed.getD j false = true → F j V = F j V' := by
            intro j hj hl
            have hkj : ops.toList[j]? = some ops[j] := by simp [hj]
            have hd := (hF j ops[j] hkj).1
            rw [Nat.zero_add] at hd
            refine hd (fun j => listed.getD j false) V V' hR hl fun k hkl => ?_
            have : k ≠ i := fun e => by
              subst e
              have hkl : listed.getD k false = true := hkl
              rw [hno] at hkl
              cases hkl
            exact (hV' k this).symm
          have : ∀ n, n ≤ ops.size → puts ops (fun j => F j V) (fun j => listed.getD j false) a n = puts ops (fun j => F j V') (fun j => listed.getD j false) a n := by
            intro n
            induction n with
            | zero => intro _; rfl
            | succ n ihn =>
              intro hn
              cases hl : listed.getD n false with
              | true => rw [puts_on (L := fun j => listed.getD j false) hl, puts_on (L := fun j => listed.getD j false) hl, ihn (by omega), hj n (by omega) hl]
              | false => rw [puts_off (L := fun j => listed.getD j false) hl, puts_off (L := fun j => listed.getD j false) hl, ihn (by omega)]
          exact this _ (Nat.le_refl _)
        have hVi := (hF i o hk).2 V (fun j => listed.getD j false) w hS (by rw [Nat.zero_add]; exact hno) hR (by rw [Nat.zero_add]; exact hDep)
        unfold wpOp
        simp only [ho]
        rw [hwant]
        have hnext : ∀ V' w', (∀ k, k ≠ i → V' k = V k) → S V' (upd (fun j => listed.getD j false) i) w' → wpAny P md ops Q fuel (listed.setIfInBounds i true) ((puts ops (fun j => F j V) (fun j => listed.getD j false) a ops.size).put o.dst (F i V')) w' := by
          intro V' w' hV' hS'
          rw [hstay V' hV', hput V', ← getD_upd listed i (by omega)]
          exact ih _ V' w' (by simpa using hsz) hleft' hclosed' (by rw [getD_upd listed i (by omega)]; exact hS')
        simp only [Nat.zero_add] at hVi
        rw [Nat.zero_add] at hexec ⊢
        rcases hVi with ⟨hw, hrun⟩ | ⟨hw, hv, hrun⟩
        · rw [if_pos hw]
          refine .inl (wp_sameF (G := fun v w' => ∃ V' : Nat → Value, (∀ k, k ≠ i → V' k = V k) ∧ v = F i V' ∧ S V' (upd (fun j => listed.getD j false) i) w') hexec (by rw [puts_size, puts_size]) ?_ ?_)
          · refine Oper.wp_mono ?_ hrun
            rintro a1 w1 ⟨V', h1, h2, h3⟩
            exact ⟨_, h2, V', h1, rfl, h3⟩
          · rintro v w' ⟨V', h1, rfl, h3⟩
            exact hnext V' w' h1 h3
        · rw [if_neg (by rw [hw]; simp), ← hv]
          exact hnext V w (fun _ _ => rfl) hrun
  have h0 : (fun j => (Array.replicate ops.size false).getD j false) = fun _ : Nat => false := by
    funext j
    by_cases hj : j < ops.size <;> simp [hj]
  have := main ops.size (Array.replicate ops.size false) V0 w (by simp) (left_le _ _) (fun j oj hj hl => by
    have := congrFun h0 j
    rw [hl] at this
    cases this) (by rw [h0]; exact hw)
  rw [h0, puts_more _ (fun _ => false) a 0 ops.size (by omega) (fun _ _ _ => rfl)] at this
  exact this

theorem wp_region_serF {id : Nat} {l : List Oper} {a : Act} {w : World} (hm : P.follows .mixedOrders = true) (hok : serOk .any l.toArray = true) (hw : S (fun _ => undef) (fun _ => false) w.drew)
    (h : SerF P .any l.toArray Q S l 0 (fun _ => a)) : (Code.region id l.toArray true).wp P Q a w :=
  wp_region_any hm (serF_any hok (by simpa using h) hw)

theorem SerF.nil {i : Nat} {a : (Nat → Value) → Act} (h : ∀ V w, S V (fun j => decide (j < ops.size)) w → Q .normal (a V) w) : SerF P md ops Q S [] i a := h
/-- an operation whose value hangs on nothing but what the walk shows: the frame behind it as the walk leaves it -/
theorem SerF.step {o : Oper} {rest : List Oper} {i : Nat} {a a1 : (Nat → Value) → Act} (hw : ∀ V, Region.wanted o (yielded ops (a V).tmps) = true)
    (h : ∀ (V : Nat → Value) (L : Nat → Bool) (w : World) (K : Act → World → Prop) (Q' : Exit → Act → World → Prop), S V L w → L i = false → Shut (Right md ops L) → Shut (∀ j, waits md ops i j = true → L j = true) →
      Shut (∀ w', S V (upd L i) w' → K (a1 V) w') → o.wp P (a V) w K Q')
    (ha : ∀ V, a1 V = (a V).put o.dst (slotOf (a1 V) o.dst)) (hd : DepOnly md ops i (fun V => slotOf (a1 V) o.dst)) (hr : SerF P md ops Q S rest (i + 1) a1) : SerF P md ops Q S (o :: rest) i a :=
  ⟨fun V => slotOf (a1 V) o.dst, hd, fun V L w hS hi hR hd => .inl ⟨hw V, h V L w _ _ hS hi hR hd (fun _ hS' => ⟨V, fun _ _ => rfl, ha V, hS'⟩)⟩, by
    have : (fun V => (a V).put o.dst (slotOf (a1 V) o.dst)) = a1 := by funext V; exact (ha V).symm
    rw [this]; exact hr⟩
/-- an operation whose value may hang on the order -/
theorem SerF.free {o : Oper} {rest : List Oper} {i : Nat} {a : (Nat → Value) → Act} (hw : ∀ V, Region.wanted o (yielded ops (a V).tmps) = true)
    (h : ∀ (V : Nat → Value) (L : Nat → Bool) (w : World) (K : Act → World → Prop) (Q' : Exit → Act → World → Prop), S V L w → L i = false → Shut (Right md ops L) → Shut (∀ j, waits md ops i j = true → L j = true) →
      Shut (∀ a' w', a' = (a V).put o.dst (slotOf a' o.dst) → S (setV V i (slotOf a' o.dst)) (upd L i) w' → K a' w') → o.wp P (a V) w K Q')
    (hr : SerF P md ops Q S rest (i + 1) (fun V => (a V).put o.dst (V i))) : SerF P md ops Q S (o :: rest) i a :=
  ⟨fun V => V i, fun L V V' _ hi h => h i hi, fun V L w hS hi hR hd => .inl ⟨hw V, h V L w _ _ hS hi hR hd (fun a' w' h1 hS' => ⟨setV V i (slotOf a' o.dst), fun k hk => setV_ne V _ hk, by show a' = (a V).put o.dst (setV V i (slotOf a' o.dst) i); rw [setV_self]; exact h1, hS'⟩)⟩, hr⟩
/-- an operation whose value is given -/
theorem SerF.val {o : Oper} {rest : List Oper} {i : Nat} {a : (Nat → Value) → Act} (v : Value) (hw : ∀ V, Region.wanted o (yielded ops (a V).tmps) = true)
    (h : ∀ (V : Nat → Value) (L : Nat → Bool) (w : World) (K : Act → World → Prop) (Q' : Exit → Act → World → Prop), S V L w → L i = false → Shut (Right md ops L) → Shut (∀ j, waits md ops i j = true → L j = true) →
      Shut (∀ a' w', a' = (a V).put o.dst v → S V (upd L i) w' → K a' w') → o.wp P (a V) w K Q')
    (hr : SerF P md ops Q S rest (i + 1) (fun V => (a V).put o.dst v)) : SerF P md ops Q S (o :: rest) i a :=
  ⟨fun _ => v, fun _ _ _ _ _ _ => rfl, fun V L w hS hi hR hd => .inl ⟨hw V, h V L w _ _ hS hi hR hd (fun _ _ h1 hS' => ⟨V, fun _ _ => rfl, h1, hS'⟩)⟩, hr⟩
/-- an operation that is passed over -/
theorem SerF.skip {o : Oper} {rest : List Oper} {i : Nat} {a : (Nat → Value) → Act} (hw : ∀ V, Region.wanted o (yielded ops (a V).tmps) = false)
    (h : ∀ (V : Nat → Value) (L : Nat → Bool) (w : World), S V L w → L i = false → S V (upd L i) w)
    (hr : SerF P md ops Q S rest (i + 1) (fun V => (a V).put o.dst undef)) : SerF P md ops Q S (o :: rest) i a :=
  ⟨fun _ => undef, fun _ _ _ _ _ _ => rfl, fun V L w hS hi _ _ => .inr ⟨hw V, rfl, h V L w hS hi⟩, hr⟩

end

/-- up to four stages, one behind the other: behind numbers i, j, k, l -/
def Stg (i j k l : Nat) (X0 X1 X2 X3 X4 : (Nat → Value) → World → Prop) (V : Nat → Value) (L : Nat → Bool) (w1 : World) : Prop := (if L l then X4 else if L k then X3 else if L j then X2 else if L i then X1 else X0) V w1
theorem upd_ne' {L : Nat → Bool} {i k : Nat} (h : (k == i) = false) : upd L i k = L k := by simp [upd, h]
theorem upd_self' {L : Nat → Bool} {i : Nat} : upd L i i = true := by simp [upd]
section
variable {i j k l : Nat} {X0 X1 X2 X3 X4 : (Nat → Value) → World → Prop} {V : Nat → Value} {w1 : World} {L : Nat → Bool}
theorem Stg.start {V : Nat → Value} (h : X0 V w1) : Stg i j k l X0 X1 X2 X3 X4 V (fun _ => false) w1 := h
theorem Stg.keep (h : Stg i j k l X0 X1 X2 X3 X4 V L w1) {x : Nat} (h1 : (i == x) = false) (h2 : (j == x) = false) (h3 : (k == x) = false) (h4 : (l == x) = false) : Stg i j k l X0 X1 X2 X3 X4 V (upd L x) w1 := by
  unfold Stg
  rw [upd_ne' h1, upd_ne' h2, upd_ne' h3, upd_ne' h4]
  exact h
theorem Stg.s0 (h : Stg i j k l X0 X1 X2 X3 X4 V L w1) (h1 : L i = false) (h2 : L j = false) (h3 : L k = false) (h4 : L l = false) : X0 V w1 := by
  unfold Stg at h; rw [h1, h2, h3, h4] at h; exact h
theorem Stg.s1 (h : Stg i j k l X0 X1 X2 X3 X4 V L w1) (h1 : L i = true) (h2 : L j = false) (h3 : L k = false) (h4 : L l = false) : X1 V w1 := by
  unfold Stg at h; rw [h1, h2, h3, h4] at h; exact h
theorem Stg.s2 (h : Stg i j k l X0 X1 X2 X3 X4 V L w1) (h2 : L j = true) (h3 : L k = false) (h4 : L l = false) : X2 V w1 := by
  unfold Stg at h; rw [h2, h3, h4] at h; exact h
theorem Stg.s3 (h : Stg i j k l X0 X1 X2 X3 X4 V L w1) (h3 : L k = true) (h4 : L l = false) : X3 V w1 := by
  unfold Stg at h; rw [h3, h4] at h; exact h
theorem Stg.s4 (h : Stg i j k l X0 X1 X2 X3 X4 V L w1) (h4 : L l = true) : X4 V w1 := by
  unfold Stg at h; rw [h4] at h; exact h
theorem Stg.low {X : World → Prop} (h : Stg i j k l X0 X1 X2 X3 X4 V L w1) (h3 : L k = false) (h4 : L l = false) (x0 : ∀ w, X0 V w → X w) (x1 : ∀ w, X1 V w → X w) (x2 : ∀ w, X2 V w → X w) : X w1 := by
  unfold Stg at h
  rw [h3, h4] at h
  simp only [Bool.false_eq_true, if_false] at h
  split at h
  · exact x2 _ h
  split at h
  · exact x1 _ h
  · exact x0 _ h
theorem Stg.t1 (h : X1 V w1) (h2 : (j == i) = false) (h3 : (k == i) = false) (h4 : (l == i) = false) (e2 : L j = false) (e3 : L k = false) (e4 : L l = false) : Stg i j k l X0 X1 X2 X3 X4 V (upd L i) w1 := by
  unfold Stg; rw [upd_self', upd_ne' h2, upd_ne' h3, upd_ne' h4, e2, e3, e4]; exact h
theorem Stg.t2 (h : X2 V w1) (h3 : (k == j) = false) (h4 : (l == j) = false) (e3 : L k = false) (e4 : L l = false) : Stg i j k l X0 X1 X2 X3 X4 V (upd L j) w1 := by
  unfold Stg; rw [upd_self', upd_ne' h3, upd_ne' h4, e3, e4]; exact h
theorem Stg.t3 (h : X3 V w1) (h4 : (l == k) = false) (e4 : L l = false) : Stg i j k l X0 X1 X2 X3 X4 V (upd L k) w1 := by
  unfold Stg; rw [upd_self', upd_ne' h4, e4]; exact h
theorem Stg.t4 (h : X4 V w1) : Stg i j k l X0 X1 X2 X3 X4 V (upd L l) w1 := by
  unfold Stg; rw [upd_self']; exact h
theorem Stg.any {X : World → Prop} (h : Stg i j k l X0 X1 X2 X3 X4 V L w1) (x0 : ∀ w, X0 V w → X w) (x1 : ∀ w, X1 V w → X w) (x2 : ∀ w, X2 V w → X w) (x3 : ∀ w, X3 V w → X w) (x4 : ∀ w, X4 V w → X w) : X w1 := by
  unfold Stg at h
  split at h
  · exact x4 _ h
  split at h
  · exact x3 _ h
  split at h
  · exact x2 _ h
  split at h
  · exact x1 _ h
  · exact x0 _ h
end
end Go.Proofs.YtjohjpjpfglkkaaDoor
