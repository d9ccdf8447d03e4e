/- A region whose order is open: what may come up first is taken first, in the frames of these walks; over any program. -/
import Derived.Test.YtioonbfinnigpaaGreatDoorOps
import Derived.Deep.RegionHeld
import Derived.StillTail
namespace Go.Proofs.YtioonbfinnigpaaGreatDoor
open Go Go.RowKit
set_option linter.unusedVariables false
set_option linter.unusedSimpArgs false
/-! ### whatever order: behind each operation that is carried out S holds, but for the last one, number kk -/
section anyK
variable {P : Program} {ops : Array Oper} {Q : Exit → Act → World → Prop} {md : Region.Mode} {S : World → Prop} {kk : Nat}
def anyK (P : Program) (md : Region.Mode) (ops : Array Oper) (Q : Exit → Act → World → Prop) (S : World → Prop) (kk : Nat) : Nat → Array Bool → Act → World → Prop
  | 0, listed, a, w => Region.ready md ops listed = [] ∧ Q .normal a w
  | fuel + 1, listed, a, w =>
    (Region.ready md ops listed = [] → Q .normal a w) ∧
    ∀ i ∈ Region.ready md ops listed, wpOp P ops Q i (fun a' w' => (i ≠ kk → S w') ∧ anyK P md ops Q S kk fuel (listed.setIfInBounds i true) a' w') a w
theorem wpAny_of_anyK : ∀ (fuel : Nat) (listed : Array Bool) (a : Act) (w : World), anyK P md ops Q S kk fuel listed a w → wpAny P md ops Q fuel listed a w
  | 0, _, _, _, h => h
  | fuel + 1, _, _, _, h => ⟨h.1, fun i hi => wpOp_mono (fun a' w' h' => wpAny_of_anyK fuel _ a' w' h'.2) (h.2 i hi)⟩
/-- The last one waits for i. -/
def waits (md : Region.Mode) (ops : Array Oper) (kk i : Nat) : Bool := match ops[kk]? with
  | none => true
  | some o => o.after.any fun e => Region.binds md e && e.on == i
theorem waits_spec {i : Nat} (h : waits md ops kk i = true) {o : Oper} (ho : ops[kk]? = some o) : ∃ e ∈ o.after, Region.binds md e = true ∧ e.on = i := by
  unfold waits at h
  rw [ho] at h
  obtain ⟨e, h1, h2⟩ := Array.any_eq_true'.1 h
  simp only [Bool.and_eq_true, beq_iff_eq] at h2
  exact ⟨e, h1, h2⟩
theorem anyK_first {i : Nat} {oi : Oper} {v : Value} (hi : ops[i]? = some oi) (hsel : ∀ (j : Nat) (o : Oper) cs b, ops[j]? = some o → o.op ≠ .select cs b)
    (hQ : ∀ c a w, Q (.panic c) (a.put oi.dst v) w → Q (.panic c) a w) (hk : waits md ops kk i = true) :
    ∀ (fuel : Nat) (listed : Array Bool) (a : Act) (w : World),
      (∀ j oj, ops[j]? = some oj → j ≠ i → listed.getD j true = false → (∀ e ∈ oj.after, Region.binds md e = true → e.on ≠ i) → oi.apart ops oj = true) →
      i ∈ Region.ready md ops listed → YieldsIf P ops S oi v a → S w →
      anyK P md ops Q S kk fuel (listed.setIfInBounds i true) (a.put oi.dst v) w → anyK P md ops Q S kk (fuel + 1) listed a w := by
  intro fuel
  induction fuel with
  | zero =>
    intro listed a w _ hr hy hS H
    refine ⟨fun h => (by rw [h] at hr; cases hr), fun j hj => ?_⟩
    by_cases hji : j = i
    · subst hji; exact hy.wpOp hi hS ⟨fun _ => hS, H⟩
    · have := ready_mono hj hji
      rw [H.1] at this
      cases this
  | succ fuel ih =>
    intro listed a w hfree hr hy hS H
    refine ⟨fun h => (by rw [h] at hr; cases hr), fun j hj => ?_⟩
    by_cases hji : j = i
    · subst hji; exact hy.wpOp hi hS ⟨fun _ => hS, H⟩
    · have h1 := H.2 j (ready_mono hj hji)
      obtain ⟨hjun, oj, hoj, hall⟩ := mem_ready.1 hj
      have hnot : ∀ e ∈ oj.after, Region.binds md e = true → e.on ≠ i := fun e he hb heq => by
        have h1 := hall e he hb
        have h0 := (mem_ready.1 hr).1
        rw [heq] at h1
        rcases Nat.lt_or_ge i listed.size with h' | h'
        · simp [h'] at h0 h1; rw [h0] at h1; cases h1
        · simp [Array.getElem?_eq_none h'] at h1
      have hjk : j ≠ kk := by
        rintro rfl
        obtain ⟨e, he, hb, heq⟩ := waits_spec hk hoj
        exact hnot e he hb heq
      have h2 := wpOp_putIf hoj (hfree j oj hoj hji hjun hnot) (fun cs b => hsel i oi cs b hi) (fun cs b => hsel j oj cs b hoj) hQ hy h1
      have hfree' : ∀ k ok, ops[k]? = some ok → k ≠ i → (listed.setIfInBounds j true).getD k true = false →
          (∀ e ∈ ok.after, Region.binds md e = true → e.on ≠ i) → oi.apart ops ok = true := fun k ok hk hki hun hno => by
        refine hfree k ok hk hki ?_ hno
        by_cases hjk : j = k
        · subst hjk; exact hjun
        · rw [getD_set_ne true hjk] at hun; exact hun
      refine wpOp_mono (fun a' w' h3 => ⟨h3.2.1, ih (listed.setIfInBounds j true) a' w' hfree' (ready_mono hr (Ne.symm hji)) h3.1 (h3.2.1 hjk) ?_⟩) h2
      rw [Array.setIfInBounds_comm _ _ hji]
      exact h3.2.2
theorem anyK_take {i : Nat} {oi : Oper} {v : Value} {fuel : Nat} {listed : Array Bool} {a : Act} {w : World} (hi : ops[i]? = some oi)
    (hs : Region.noSelect ops = true) (hf : Region.free md ops listed i = true) (hr : (Region.ready md ops listed).contains i = true) (hk : waits md ops kk i = true)
    (hQ : ∀ c a w, Q (.panic c) (a.put oi.dst v) w → Q (.panic c) a w) (hy : YieldsIf P ops S oi v a) (hS : S w)
    (h : anyK P md ops Q S kk fuel (listed.setIfInBounds i true) (a.put oi.dst v) w) : anyK P md ops Q S kk (fuel + 1) listed a w :=
  anyK_first hi (Region.noSelect_spec hs) hQ hk fuel listed a w (Region.free_spec hi hf) (by simpa using hr) hy hS h
theorem anyK_all {rs : List Nat} {fuel : Nat} {listed : Array Bool} {a : Act} {w : World} (hr : Region.ready md ops listed = rs) (hne : rs ≠ [])
    (h : ∀ i ∈ rs, wpOp P ops Q i (fun a' w' => (i ≠ kk → S w') ∧ anyK P md ops Q S kk fuel (listed.setIfInBounds i true) a' w') a w) : anyK P md ops Q S kk (fuel + 1) listed a w :=
  ⟨fun h0 => absurd (hr ▸ h0) hne, hr ▸ h⟩
theorem anyK_done {listed : Array Bool} {a : Act} {w : World} (hr : Region.ready md ops listed = []) (h : Q .normal a w) : ∀ fuel, anyK P md ops Q S kk fuel listed a w
  | 0 => ⟨hr, h⟩
  | _ + 1 => ⟨fun _ => h, by rw [hr]; simp⟩
theorem upon_to {o : Oper} {a : Act} {K K' : Act → World → Prop} {Q' : Exit → Act → World → Prop} (hK : ∀ a w, K' a w → K a w) (hQ : ∀ e a w, e ≠ .normal → Q' e a w → Q e a w) (r : Result Next)
    (h : o.upon P a K' Q' r) : o.upon P a K Q r := by
  cases r with
  | ok n w' =>
    cases n <;> simp only [Oper.upon] at h ⊢
    case value u => exact hK _ _ h
    case skip => exact hK _ _ h
    case defer d => exact hK _ _ h
    case enter f args =>
      refine Calls.mono h fun e w'' he => ?_
      cases e with
      | returned u => exact hK _ _ he
      | panicked c => exact hQ _ _ _ (by simp) he
      | outgrown => obtain ⟨a1, w1, h1⟩ := he; exact ⟨a1, w1, hQ _ _ _ (by simp) h1⟩
    case row row args => exact Rows.mono h fun u w'' he => hK _ _ he
  | halt x w' =>
    cases x <;> simp only [Oper.upon] at h ⊢
    case panic u => exact hQ _ _ _ (by simp) h
end anyK
section draws
variable {P : Program} {n : Nat} {ops : Array Oper} {N : Cn} {X : Nat → Cn} {R : Cn} {S : World → Prop} {kk : Nat} {f : Fr} {w w' : World} {fuel i j d : Nat} {listed : Array Bool} {o : Oper} {v : Value}
def D (P : Program) (n : Nat) (ops : Array Oper) (N : Cn) (X : Nat → Cn) (R : Cn) (S : World → Prop) (kk : Nat) (fuel : Nat) (listed : Array Bool) (f : Fr) (w : World) : Prop :=
  ∀ a, Is a n f → anyK P .any ops (Qk n N X R) S kk fuel listed a w
theorem heldK {p q : Prop} {i : Nat} (h : p) (k : p → q) : (i ≠ kk → p) ∧ q := ⟨fun _ => h, k h⟩
theorem heldL {p q : Prop} (k : q) : (kk ≠ kk → p) ∧ q := ⟨fun h => absurd rfl h, k⟩
theorem W_draw {id m : Nat} (S : World → Prop) (kk : Nat) (hm : P.follows .mixedOrders = true) (hl : ops.size = m)
    (h : ∀ w1, Nw w w1 → w1.heap.size = w.heap.size → S w1 ∧ D P n ops N X R S kk m (Array.replicate m false) f w1) : Wp P n (.region id ops true) N X R f w := fun a ha => by
  subst hl
  exact wp_region_any hm (wpAny_of_anyK _ _ _ _ ((h w.drew (Ch.drew w) rfl).2 a ha))
theorem ev_op {K : Act → World → Prop} {a : Act} (ho : ops[i]? = some o) (ha : Is a n f) (h : Wl P n ops [o] (fun f' w' => ∀ a', Is a' n f' → K a' w') f w) : wpOp P ops (Qk n N X R) i K a w := by
  have h2 := h (fun e a w => match e with | .normal => K a w | e => Qk n N X R e a w) a (fun a f w ha hN => hN a ha) ha
  unfold wpList wpList at h2
  unfold wpOp
  simp only [ho]
  split
  · rename_i hw
    rw [if_pos hw] at h2
    rcases h2 with h2 | ⟨h2, h3⟩
    · refine .inl ?_
      unfold Oper.wp at h2 ⊢
      exact upon_to (fun _ _ h => h) (fun e a w he h => by cases e <;> first | exact absurd rfl he | exact h) _ h2
    · refine .inr ⟨h2, ?_⟩
      obtain ⟨a1, w1, h1⟩ := h3
      exact ⟨a1, w1, h1⟩
  · rename_i hw
    rw [if_neg hw] at h2
    exact h2
/-- The one that may come up. -/
theorem D_ev (i : Nat) (hr : Region.ready .any ops listed = [i]) (ho : ops[i]? = some o) (h : Wl P n ops [o] (fun f' w' => (i ≠ kk → S w') ∧ D P n ops N X R S kk fuel (listed.setIfInBounds i true) f' w') f w) : D P n ops N X R S kk (fuel + 1) listed f w := fun a ha =>
  anyK_all hr (by simp) (fun k hk => by
    rw [List.mem_singleton] at hk
    subst hk
    refine ev_op ho ha ?_
    exact fun Q a hq ha => h Q a (fun a f w ha hN => hq a f w ha (fun a' ha' => ⟨hN.1, hN.2 a' ha'⟩)) ha)
theorem D_ev2 (i k : Nat) {o2 : Oper} (hr : Region.ready .any ops listed = [i, k]) (ho : ops[i]? = some o) (ho2 : ops[k]? = some o2) (h : Wl P n ops [o] (fun f' w' => (i ≠ kk → S w') ∧ D P n ops N X R S kk fuel (listed.setIfInBounds i true) f' w') f w)
    (h' : Wl P n ops [o2] (fun f' w' => (k ≠ kk → S w') ∧ D P n ops N X R S kk fuel (listed.setIfInBounds k true) f' w') f w) : D P n ops N X R S kk (fuel + 1) listed f w := fun a ha =>
  anyK_all hr (by simp) (fun l hl => by
    rcases List.mem_cons.1 hl with rfl | hl
    · refine ev_op ho ha ?_
      exact fun Q a hq ha => h Q a (fun a f w ha hN => hq a f w ha (fun a' ha' => ⟨hN.1, hN.2 a' ha'⟩)) ha
    · rw [List.mem_singleton] at hl
      subst hl
      refine ev_op ho2 ha ?_
      exact fun Q a hq ha => h' Q a (fun a f w ha hN => hq a f w ha (fun a' ha' => ⟨hN.1, hN.2 a' ha'⟩)) ha)
theorem D_done (hr : Region.ready .any ops listed = []) (h : N f w) : D P n ops N X R S kk fuel listed f w := fun a ha => anyK_done hr ⟨f, ha, h⟩ fuel
/-- The operation i, which does nothing to the world, is taken. -/
theorem D_take (i : Nat) (ho : ops[i]? = some o) (hs : Region.noSelect ops = true) (hf : Region.free .any ops listed i = true) (hr : (Region.ready .any ops listed).contains i = true) (hk : waits .any ops kk i = true)
    (hw : Wants ops f o) (hd : o.dst = some d) (hn : Nat.blt d n = true) (hS : S w) (hrun : ∀ w, S w → (execOp (ev f) o).run P w = .ok (.value v) w)
    (h : D P n ops N X R S kk fuel (listed.setIfInBounds i true) (upd f d v) w) : D P n ops N X R S kk (fuel + 1) listed f w := fun a ha =>
  anyK_take (v := v) ho hs hf hr hk (fun _ _ _ q => q.elim) (.inl ⟨hw.wanted ha, fun w hSw => by rw [ha.eval]; exact hrun w hSw⟩) hS (by rw [hd]; exact h _ (ha.put hn v))
theorem D_pass (i : Nat) {b b' : Bool} (ho : ops[i]? = some o) (hs : Region.noSelect ops = true) (hf : Region.free .any ops listed i = true) (hr : (Region.ready .any ops listed).contains i = true) (hk : waits .any ops kk i = true)
    (hg : o.guard = some (j, b)) (hy : yl ops f j = some b') (hne : (b' == b) = false) (hd : o.dst = some d) (hn : Nat.blt d n = true) (hS : S w)
    (h : D P n ops N X R S kk fuel (listed.setIfInBounds i true) (upd f d undef) w) : D P n ops N X R S kk (fuel + 1) listed f w := fun a ha =>
  anyK_take (v := undef) ho hs hf hr hk (fun _ _ _ q => q.elim) (.inr ⟨by
    simp only [Region.wanted, hg, ha.yielded ops j b' hy]
    cases b <;> cases b' <;> simp_all, rfl⟩) hS (by rw [hd]; exact h _ (ha.put hn undef))
theorem D_pass_do (i : Nat) {b b' : Bool} (ho : ops[i]? = some o) (hs : Region.noSelect ops = true) (hf : Region.free .any ops listed i = true) (hr : (Region.ready .any ops listed).contains i = true) (hk : waits .any ops kk i = true)
    (hg : o.guard = some (j, b)) (hy : yl ops f j = some b') (hne : (b' == b) = false) (hd : o.dst = none) (hS : S w)
    (h : D P n ops N X R S kk fuel (listed.setIfInBounds i true) f w) : D P n ops N X R S kk (fuel + 1) listed f w := fun a ha =>
  anyK_take (v := undef) ho hs hf hr hk (fun _ _ _ q => q.elim) (.inr ⟨by
    simp only [Region.wanted, hg, ha.yielded ops j b' hy]
    cases b <;> cases b' <;> simp_all, rfl⟩) hS (by rw [hd]; exact h _ ha)
/-- More holds from here on. -/
theorem anyK_more {md : Region.Mode} {Q : Exit → Act → World → Prop} {S' : World → Prop} (hs : ∀ w, S' w → S w) : ∀ (fuel : Nat) (listed : Array Bool) (a : Act) (w : World), anyK P md ops Q S' kk fuel listed a w → anyK P md ops Q S kk fuel listed a w
  | 0, _, _, _, h => h
  | fuel + 1, _, _, _, h => ⟨h.1, fun i hi => wpOp_mono (fun a' w' h' => ⟨fun hk => hs _ (h'.1 hk), anyK_more hs fuel _ a' w' h'.2⟩) (h.2 i hi)⟩
theorem D_more {S' : World → Prop} (hs : ∀ w, S' w → S w) (h' : S' w) (h : S' w → D P n ops N X R S' kk fuel listed f w) : D P n ops N X R S kk fuel listed f w := fun a ha =>
  anyK_more hs _ _ _ _ (h h' a ha)
end draws
/-! ### a region that only reads, but for its end -/
section still
variable {P : Program} {n : Nat} {ops : Array Oper} {rest : List Oper} {N : Cn} {X : Nat → Cn} {R : Cn} {f : Fr} {w : World} {o : Oper} {v : Value} {d j : Nat} {Z : Fr → Prop}
def Hs (P : Program) (n : Nat) (ops : Array Oper) (w : World) (l : List Oper) (Z : Fr → Prop) (f : Fr) : Prop := ∀ a, Is a n f → wpStill P ops w (fun a' => ∃ f', Is a' n f' ∧ Z f') l a
theorem H_nil (h : Z f) : Hs P n ops w [] Z f := fun _ ha => wpStill_nil ⟨f, ha, h⟩
theorem H_run (hw : Wants ops f o) (hd : o.dst = some d) (hn : Nat.blt d n = true) (hr : (execOp (ev f) o).run P w = .ok (.value v) w) (h : Hs P n ops w rest Z (upd f d v)) : Hs P n ops w (o :: rest) Z f := fun a ha => by
  unfold wpStill
  rw [if_pos (hw.wanted ha)]
  unfold Oper.still
  rw [ha.eval, hr, Oper.stillUpon_value, hd]
  exact h _ (ha.put hn v)
theorem H_pass {b b' : Bool} (hg : o.guard = some (j, b)) (hy : yl ops f j = some b') (hne : (b' == b) = false) (hd : o.dst = some d) (hn : Nat.blt d n = true)
    (h : Hs P n ops w rest Z (upd f d undef)) : Hs P n ops w (o :: rest) Z f := fun a ha => by
  unfold wpStill
  have : Region.wanted o (Go.yielded ops a.tmps) = false := by
    simp only [Region.wanted, hg, ha.yielded ops j b' hy]
    cases b <;> cases b' <;> simp_all
  rw [if_neg (by rw [this]; simp), hd]
  exact h _ (ha.put hn undef)
theorem H_call {g : FuncId} {args : Array Value} {r : Value} (hw : Wants ops f o) (hd : o.dst = some d) (hn : Nat.blt d n = true) (hrun : (execOp (ev f) o).run P w = .ok (.enter g args) w) (hc : Does P g args w (fun v w' => v = r ∧ w = w'))
    (h : Hs P n ops w rest Z (upd f d r)) : Hs P n ops w (o :: rest) Z f := fun a ha => by
  unfold wpStill
  rw [if_pos (hw.wanted ha)]
  unfold Oper.still
  rw [ha.eval, hrun]
  simp only [Oper.stillUpon]
  refine ⟨trivial, r, Calls.mono hc ?_, ?_⟩
  · rintro e w' ⟨v, rfl, rfl, rfl⟩; exact ⟨rfl, rfl⟩
  · rw [hd]; exact h _ (ha.put hn r)
theorem W_tail {id : Nat} {l : List Oper} (k : Nat) (hm : P.follows .mixedOrders = true) (hB : Region.lexTailB .any l.toArray k = true)
    (h : ∀ w1, Nw w w1 → w1.heap.size = w.heap.size → Hs P n l.toArray w1 (l.take k) (fun f' => Wl P n l.toArray (l.drop k) N f' w1) f) : Wp P n (.region id l.toArray true) N X R f w := fun a ha => by
  refine wp_region_still_tail k hm hB ?_
  have := h w.drew (Ch.drew w) rfl a ha
  have hmono : ∀ (l' : List Oper) (a : Act), wpStill P l.toArray w.drew (fun a' => ∃ f', Is a' n f' ∧ Wl P n l.toArray (l.drop k) N f' w.drew) l' a → wpStill P l.toArray w.drew (fun a' => wpList P l.toArray (Qk n N X R) (l.drop k) a' w.drew) l' a := by
    intro l'
    induction l' with
    | nil => intro a h; obtain ⟨f', h1, h2⟩ := h; exact h2 _ _ (fun a f w ha hN => ⟨f, ha, hN⟩) h1
    | cons o l' ih =>
      intro a h
      unfold wpStill at h ⊢
      split
      · rename_i hw; rw [if_pos hw] at h; exact Oper.still_mono (fun a h => ih a h) h
      · rename_i hw; rw [if_neg hw] at h; exact ih _ h
  exact hmono _ _ this
theorem W_still {id : Nat} {l : List Oper} (hm : P.follows .mixedOrders = true) (hB : Region.lexB .any l.toArray = true)
    (h : ∀ w1, Nw w w1 → w1.heap.size = w.heap.size → Hs P n l.toArray w1 l (fun f' => N f' w1) f) : Wp P n (.region id l.toArray true) N X R f w := fun a ha => by
  refine wp_region_still_lit hm hB ?_
  have := h w.drew (Ch.drew w) rfl a ha
  have hmono : ∀ (l' : List Oper) (a : Act), wpStill P l.toArray w.drew (fun a' => ∃ f', Is a' n f' ∧ N f' w.drew) l' a → wpStill P l.toArray w.drew (fun a' => Qk n N X R .normal a' w.drew) l' a := by
    intro l'
    induction l' with
    | nil => intro a h; exact h
    | cons o l' ih =>
      intro a h
      unfold wpStill at h ⊢
      split
      · rename_i hw; rw [if_pos hw] at h; exact Oper.still_mono (fun a h => ih a h) h
      · rename_i hw; rw [if_neg hw] at h; exact ih _ h
  exact hmono _ _ this
theorem H_case {p : Prop} [Decidable p] (hv : f d = .bool (decide p)) (ht : p → Hs P n ops w rest Z (upd f d (.bool true))) (hf : ¬ p → Hs P n ops w rest Z (upd f d (.bool false))) : Hs P n ops w rest Z f := by
  by_cases h : p
  · have := ht h; rwa [upd_self (by rw [hv]; simp [h])] at this
  · have := hf h; rwa [upd_self (by rw [hv]; simp [h])] at this
theorem H_caseb {b : Bool} (hv : f d = .bool b) (ht : b = true → Hs P n ops w rest Z (upd f d (.bool true))) (hf : b = false → Hs P n ops w rest Z (upd f d (.bool false))) : Hs P n ops w rest Z f := by
  cases b with
  | true => have := ht rfl; rwa [upd_self hv] at this
  | false => have := hf rfl; rwa [upd_self hv] at this
theorem H_as {v v' : Value} (d : Nat) (hv : f d = v) (e : v = v') (h : Hs P n ops w rest Z (upd f d v')) : Hs P n ops w rest Z f := by rwa [upd_self (by rw [hv, e])] at h
end still
section cases_
variable {P : Program} {n : Nat} {ops : Array Oper} {l : List Oper} {N : Cn} {X : Nat → Cn} {R : Cn} {S : World → Prop} {kk : Nat} {f : Fr} {w : World} {fuel d : Nat} {listed : Array Bool}
/-- A slot's Bool is decided. -/
theorem L_case {p : Prop} [Decidable p] (hv : f d = .bool (decide p)) (ht : p → Wl P n ops l N (upd f d (.bool true)) w) (hf : ¬ p → Wl P n ops l N (upd f d (.bool false)) w) : Wl P n ops l N f w := by
  by_cases h : p
  · have := ht h; rwa [upd_self (by rw [hv]; simp [h])] at this
  · have := hf h; rwa [upd_self (by rw [hv]; simp [h])] at this
theorem L_caseb {b : Bool} (hv : f d = .bool b) (ht : b = true → Wl P n ops l N (upd f d (.bool true)) w) (hf : b = false → Wl P n ops l N (upd f d (.bool false)) w) : Wl P n ops l N f w := by
  cases b with
  | true => have := ht rfl; rwa [upd_self hv] at this
  | false => have := hf rfl; rwa [upd_self hv] at this
theorem D_case {p : Prop} [Decidable p] (hv : f d = .bool (decide p)) (ht : p → D P n ops N X R S kk fuel listed (upd f d (.bool true)) w) (hf : ¬ p → D P n ops N X R S kk fuel listed (upd f d (.bool false)) w) : D P n ops N X R S kk fuel listed f w := by
  by_cases h : p
  · have := ht h; rwa [upd_self (by rw [hv]; simp [h])] at this
  · have := hf h; rwa [upd_self (by rw [hv]; simp [h])] at this
theorem D_caseb {b : Bool} (hv : f d = .bool b) (ht : b = true → D P n ops N X R S kk fuel listed (upd f d (.bool true)) w) (hf : b = false → D P n ops N X R S kk fuel listed (upd f d (.bool false)) w) : D P n ops N X R S kk fuel listed f w := by
  cases b with
  | true => have := ht rfl; rwa [upd_self hv] at this
  | false => have := hf rfl; rwa [upd_self hv] at this
/-- A slot is given another spelling. -/
theorem L_as {v v' : Value} (d : Nat) (hv : f d = v) (e : v = v') (h : Wl P n ops l N (upd f d v') w) : Wl P n ops l N f w := by rwa [upd_self (by rw [hv, e])] at h
theorem D_as {v v' : Value} (d : Nat) (hv : f d = v) (e : v = v') (h : D P n ops N X R S kk fuel listed (upd f d v') w) : D P n ops N X R S kk fuel listed f w := by rwa [upd_self (by rw [hv, e])] at h
theorem W_as {c : Code} {v v' : Value} (d : Nat) (hv : f d = v) (e : v = v') (h : Wp P n c N X R (upd f d v') w) : Wp P n c N X R f w := by rwa [upd_self (by rw [hv, e])] at h
theorem wanted_u {a : Act} {o : Oper} {j : Nat} {b : Bool} (ha : Is a n f) (hg : o.guard = some (j, b)) (hy : yl ops f j = none) : Region.wanted o (Go.yielded ops a.tmps) = false := by
  have : Go.yielded ops a.tmps j = none := by
    unfold yl at hy
    unfold Go.yielded
    cases e : (ops[j]?).bind (·.dst) with
    | none => rfl
    | some d =>
      rw [e] at hy
      have h2 := ha.get d
      have h3 : a.tmps[d]?.getD undef = f d := by simpa using h2
      simp only at hy ⊢
      cases e2 : a.tmps[d]? with
      | none => simp [e2]
      | some v =>
        rw [e2] at h3
        simp only [Option.getD_some] at h3
        subst h3
        simp only [Option.bind_some, e2]
        cases hf : f d <;> rw [hf] at hy <;> first | rfl | (simp at hy)
  simp [Region.wanted, hg, this]
theorem L_passu {o : Oper} {rest : List Oper} {j : Nat} {b : Bool} (hg : o.guard = some (j, b)) (hy : yl ops f j = none) (hd : o.dst = some d) (hn : Nat.blt d n = true)
    (h : Wl P n ops rest N (upd f d undef) w) : Wl P n ops (o :: rest) N f w := fun Q a hq ha => by
  unfold wpList
  rw [if_neg (by rw [wanted_u ha hg hy]; simp), hd]
  exact h Q _ hq (ha.put hn undef)
theorem H_passu {o : Oper} {rest : List Oper} {Z : Fr → Prop} {j : Nat} {b : Bool} (hg : o.guard = some (j, b)) (hy : yl ops f j = none) (hd : o.dst = some d) (hn : Nat.blt d n = true)
    (h : Hs P n ops w rest Z (upd f d undef)) : Hs P n ops w (o :: rest) Z f := fun a ha => by
  unfold wpStill
  rw [if_neg (by rw [wanted_u ha hg hy]; simp), hd]
  exact h _ (ha.put hn undef)
theorem D_passu (i : Nat) {o : Oper} {j : Nat} {b : Bool} (ho : ops[i]? = some o) (hs : Region.noSelect ops = true) (hf : Region.free .any ops listed i = true) (hr : (Region.ready .any ops listed).contains i = true) (hk : waits .any ops kk i = true)
    (hg : o.guard = some (j, b)) (hy : yl ops f j = none) (hd : o.dst = some d) (hn : Nat.blt d n = true) (hS : S w)
    (h : D P n ops N X R S kk fuel (listed.setIfInBounds i true) (upd f d undef) w) : D P n ops N X R S kk (fuel + 1) listed f w := fun a ha =>
  anyK_take (v := undef) ho hs hf hr hk (fun _ _ _ q => q.elim) (.inr ⟨wanted_u ha hg hy, rfl⟩) hS (by rw [hd]; exact h _ (ha.put hn undef))
/-- What stands behind a piece of code, laid down once; the slots of L stay as they are. -/
theorem W_cutF {x y : Code} (L : List Nat) (M : Fr → World → Prop) (h : Wp P n x (fun f' w' => fixd f' f L ∧ M f' w') X R f w)
    (k : ∀ g w', M (mixF L f g) w' → Wp P n y N X R (mixF L f g) w') : Wp P n (.seq x y) N X R f w :=
  W_cut (fun f' w' => fixd f' f L ∧ M f' w') h fun f' w' ⟨h1, h2⟩ => by
    have h3 := fixd_mix h1
    have := k f' w' (by rw [h3]; exact h2)
    rwa [h3] at this
theorem W_endF {x : Code} (L : List Nat) (M : Fr → World → Prop) (h : Wp P n x (fun f' w' => fixd f' f L ∧ M f' w') X R f w)
    (k : ∀ g w', M (mixF L f g) w' → N (mixF L f g) w') : Wp P n x N X R f w :=
  W_mono h (fun f' w' ⟨h1, h2⟩ => by
    have h3 := fixd_mix h1
    have := k f' w' (by rw [h3]; exact h2)
    rwa [h3] at this) (fun _ _ _ h => h) (fun _ _ h => h)
theorem dec_t {p : Prop} [Decidable p] (h : p) : Value.bool true = .bool (decide p) := by simp [h]
theorem dec_f {p : Prop} [Decidable p] (h : ¬ p) : Value.bool false = .bool (decide p) := by simp [h]
theorem dec_i {p q : Prop} [Decidable p] [Decidable q] (h : p ↔ q) : Value.bool (decide p) = .bool (decide q) := by simp [h]
end cases_
end Go.Proofs.YtioonbfinnigpaaGreatDoor
