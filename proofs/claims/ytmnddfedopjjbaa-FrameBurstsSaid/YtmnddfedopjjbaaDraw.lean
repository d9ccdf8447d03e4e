/- A region whose order is open: what may come up first is taken first, in the frames of these walks; over any program. -/
import Derived.Test.YtmnddfedopjjbaaOps
import Derived.Deep.RegionHeld
import Derived.StillTail
namespace Go.Proofs.Ytmnddfedopjjbaa
open Go Go.RowKit
set_option linter.unusedVariables false
set_option linter.unusedSimpArgs false
section draws
variable {P : Program} {n : Nat} {ops : Array Oper} {N : Cn} {X : Nat → Cn} {R : Cn} {S : World → Prop} {f : Fr} {w w' : World} {fuel i j d : Nat} {listed : Array Bool} {o : Oper} {v : Value}
def D (P : Program) (n : Nat) (ops : Array Oper) (N : Cn) (X : Nat → Cn) (R : Cn) (S : World → Prop) (fuel : Nat) (listed : Array Bool) (f : Fr) (w : World) : Prop :=
  ∀ a, Is a n f → wpAnyH P .any ops (Qk n N X R) S fuel listed a w
def St (P : Program) (n : Nat) (ops : Array Oper) (N : Cn) (X : Nat → Cn) (R : Cn) (S : World → Prop) (fuel : Nat) (listed : Array Bool) (i : Nat) (f : Fr) (w : World) : Prop :=
  ∀ a, Is a n f → wpOp P ops (Qk n N X R) i (fun a' w' => S w' ∧ wpAnyH P .any ops (Qk n N X R) S fuel (listed.setIfInBounds i true) a' w') a w
theorem W_draw {id m : Nat} (S : World → Prop) (hm : P.follows .mixedOrders = true) (hl : ops.size = m)
    (h : ∀ w1, Nw w w1 → w1.heap.size = w.heap.size → S w1 ∧ D P n ops N X R S m (Array.replicate m false) f w1) : Wp P n (.region id ops true) N X R f w := fun a ha => by
  subst hl
  exact wp_region_held hm ((h w.drew (Ch.drew w) rfl).2 a ha)
theorem D_done (hr : Region.ready .any ops listed = []) (h : N f w) : D P n ops N X R S fuel listed f w := fun a ha => wpAnyH_done hr ⟨f, ha, h⟩ fuel
/-- The operation i, which does nothing to the world, is taken. -/
theorem D_take (i : Nat) (ho : ops[i]? = some o) (hs : Region.noSelect ops = true) (hf : Region.free .any ops listed i = true) (hr : (Region.ready .any ops listed).contains i = true)
    (hw : Wants ops f o) (hd : o.dst = some d) (hn : Nat.blt d n = true) (hS : S w) (hrun : ∀ w, S w → (execOp (ev f) o).run P w = .ok (.value v) w)
    (h : D P n ops N X R S fuel (listed.setIfInBounds i true) (upd f d v) w) : D P n ops N X R S (fuel + 1) listed f w := fun a ha =>
  wpAnyH_take (v := v) ho hs hf hr (fun _ _ _ q => q.elim) (.inl ⟨hw.wanted ha, fun w hSw => by rw [ha.eval]; exact hrun w hSw⟩) hS (by rw [hd]; exact h _ (ha.put hn v))
theorem D_pass (i : Nat) {b b' : Bool} (ho : ops[i]? = some o) (hs : Region.noSelect ops = true) (hf : Region.free .any ops listed i = true) (hr : (Region.ready .any ops listed).contains i = true)
    (hg : o.guard = some (j, b)) (hy : yl ops f j = some b') (hne : (b' == b) = false) (hd : o.dst = some d) (hn : Nat.blt d n = true) (hS : S w)
    (h : D P n ops N X R S fuel (listed.setIfInBounds i true) (upd f d undef) w) : D P n ops N X R S (fuel + 1) listed f w := fun a ha =>
  wpAnyH_take (v := undef) ho hs hf hr (fun _ _ _ q => q.elim) (.inr ⟨by
    simp only [Region.wanted, hg, ha.yielded ops j b' hy]
    cases b <;> cases b' <;> simp_all, rfl⟩) hS (by rw [hd]; exact h _ (ha.put hn undef))
theorem D_pass_do (i : Nat) {b b' : Bool} (ho : ops[i]? = some o) (hs : Region.noSelect ops = true) (hf : Region.free .any ops listed i = true) (hr : (Region.ready .any ops listed).contains i = true)
    (hg : o.guard = some (j, b)) (hy : yl ops f j = some b') (hne : (b' == b) = false) (hd : o.dst = none) (hS : S w)
    (h : D P n ops N X R S fuel (listed.setIfInBounds i true) f w) : D P n ops N X R S (fuel + 1) listed f w := fun a ha =>
  wpAnyH_take (v := undef) ho hs hf hr (fun _ _ _ q => q.elim) (.inr ⟨by
    simp only [Region.wanted, hg, ha.yielded ops j b' hy]
    cases b <;> cases b' <;> simp_all, rfl⟩) hS (by rw [hd]; exact h _ ha)
theorem D_one (hr : Region.ready .any ops listed = [i]) (h : St P n ops N X R S fuel listed i f w) : D P n ops N X R S (fuel + 1) listed f w := fun a ha =>
  wpAnyH_all hr (by simp) (fun k hk => by
    rw [List.mem_singleton] at hk
    subst hk
    exact h a ha)
theorem D_two {k : Nat} (hr : Region.ready .any ops listed = [i, k]) (h : St P n ops N X R S fuel listed i f w) (h' : St P n ops N X R S fuel listed k f w) : D P n ops N X R S (fuel + 1) listed f w := fun a ha =>
  wpAnyH_all hr (by simp) (fun l hl => by
    rcases List.mem_cons.1 hl with rfl | hl
    · exact h a ha
    · rw [List.mem_singleton] at hl
      subst hl
      exact h' a ha)
theorem St_run (ho : ops[i]? = some o) (hw : Wants ops f o) (hd : o.dst = some d) (hn : Nat.blt d n = true) (hrun : (execOp (ev f) o).run P w = .ok (.value v) w') (hS : S w')
    (h : D P n ops N X R S fuel (listed.setIfInBounds i true) (upd f d v) w') : St P n ops N X R S fuel listed i f w := fun a ha => by
  unfold wpOp
  simp only [ho, hw.wanted ha, if_true]
  refine .inl ?_
  unfold Oper.wp
  rw [ha.eval, hrun]
  simp only [Oper.upon]
  rw [hd]
  exact ⟨hS, h _ (ha.put hn v)⟩
theorem St_do (ho : ops[i]? = some o) (hw : Wants ops f o) (hd : o.dst = none) (hrun : (execOp (ev f) o).run P w = .ok .skip w') (hS : S w')
    (h : D P n ops N X R S fuel (listed.setIfInBounds i true) f w') : St P n ops N X R S fuel listed i f w := fun a ha => by
  unfold wpOp
  simp only [ho, hw.wanted ha, if_true]
  refine .inl ?_
  unfold Oper.wp
  rw [ha.eval, hrun]
  simp only [Oper.upon]
  rw [hd]
  exact ⟨hS, h _ ha⟩
theorem St_call {g : FuncId} {args : Array Value} {T : Value → World → Prop} (ho : ops[i]? = some o) (hw : Wants ops f o) (hd : o.dst = some d) (hn : Nat.blt d n = true) (hrun : (execOp (ev f) o).run P w = .ok (.enter g args) w') (hc : Does P g args w' T)
    (h : ∀ v w'', T v w'' → S w'' ∧ D P n ops N X R S fuel (listed.setIfInBounds i true) (upd f d v) w'') : St P n ops N X R S fuel listed i f w := fun a ha => by
  unfold wpOp
  simp only [ho, hw.wanted ha, if_true]
  refine .inl ?_
  unfold Oper.wp
  rw [ha.eval, hrun]
  simp only [Oper.upon]
  refine Calls.mono hc ?_
  rintro e w'' ⟨v, rfl, hT⟩
  simp only
  rw [hd]
  exact ⟨(h v w'' hT).1, (h v w'' hT).2 _ (ha.put hn v)⟩
theorem St_call_do {g : FuncId} {args : Array Value} {T : Value → World → Prop} (ho : ops[i]? = some o) (hw : Wants ops f o) (hd : o.dst = none) (hrun : (execOp (ev f) o).run P w = .ok (.enter g args) w') (hc : Does P g args w' T)
    (h : ∀ v w'', T v w'' → S w'' ∧ D P n ops N X R S fuel (listed.setIfInBounds i true) f w'') : St P n ops N X R S fuel listed i f w := fun a ha => by
  unfold wpOp
  simp only [ho, hw.wanted ha, if_true]
  refine .inl ?_
  unfold Oper.wp
  rw [ha.eval, hrun]
  simp only [Oper.upon]
  refine Calls.mono hc ?_
  rintro e w'' ⟨v, rfl, hT⟩
  simp only
  rw [hd]
  exact ⟨(h v w'' hT).1, (h v w'' hT).2 _ ha⟩
theorem St_new {cs : Array Value} {t : TypeId} (ho : ops[i]? = some o) (hw : Wants ops f o) (hd : o.dst = some d) (hn : Nat.blt d n = true) (hrun : (execOp (ev f) o).run P w = .ok (.value (.pointer (some ⟨w.heap.size, 0, none⟩))) (w.alloc (.cells cs t)))
    (h : ∀ w1 b, Bk w1 b cs t → b = w.heap.size → w1.heap.size = b + 1 → Nw w w1 → S w1 ∧ D P n ops N X R S fuel (listed.setIfInBounds i true) (upd f d (.pointer (some ⟨b, 0, none⟩))) w1) : St P n ops N X R S fuel listed i f w :=
  St_run ho hw hd hn hrun (h _ _ (Bk.new w _ _) rfl (by simp) (Ch.alloc w _)).1 (h _ _ (Bk.new w _ _) rfl (by simp) (Ch.alloc w _)).2
theorem St_set {b k : Nat} {cs : Array Value} {t : TypeId} (ho : ops[i]? = some o) (hw : Wants ops f o) (hd : o.dst = none) (hb : Bk w b cs t) (hrun : (execOp (ev f) o).run P w = .ok .skip (w.setCell ⟨b, k, none⟩ v))
    (h : ∀ w1, Bk w1 b (cs.setIfInBounds k v) t → w1.heap.size = w.heap.size → Ch (fun j => j = b) w w1 → S w1 ∧ D P n ops N X R S fuel (listed.setIfInBounds i true) f w1) : St P n ops N X R S fuel listed i f w :=
  St_do ho hw hd hrun (h _ hb.set (by simp [World.setCell]) (Ch.set w ⟨b, k, none⟩ v)).1 (h _ hb.set (by simp [World.setCell]) (Ch.set w ⟨b, k, none⟩ v)).2
end draws
/-! ### a region that only reads, but for its end -/
section still
variable {P : Program} {n : Nat} {ops : Array Oper} {rest : List Oper} {N : Cn} {X : Nat → Cn} {R : Cn} {f : Fr} {w : World} {o : Oper} {v : Value} {d j : Nat} {Z : Fr → Prop}
def Hs (P : Program) (n : Nat) (ops : Array Oper) (w : World) (l : List Oper) (Z : Fr → Prop) (f : Fr) : Prop := ∀ a, Is a n f → wpStill P ops w (fun a' => ∃ f', Is a' n f' ∧ Z f') l a
theorem H_nil (h : Z f) : Hs P n ops w [] Z f := fun _ ha => wpStill_nil ⟨f, ha, h⟩
theorem H_run (hw : Wants ops f o) (hd : o.dst = some d) (hn : Nat.blt d n = true) (hr : (execOp (ev f) o).run P w = .ok (.value v) w) (h : Hs P n ops w rest Z (upd f d v)) : Hs P n ops w (o :: rest) Z f := fun a ha => by
  unfold wpStill
  rw [if_pos (hw.wanted ha)]
  unfold Oper.still
  rw [ha.eval, hr, Oper.stillUpon_value, hd]
  exact h _ (ha.put hn v)
theorem H_pass {b b' : Bool} (hg : o.guard = some (j, b)) (hy : yl ops f j = some b') (hne : (b' == b) = false) (hd : o.dst = some d) (hn : Nat.blt d n = true)
    (h : Hs P n ops w rest Z (upd f d undef)) : Hs P n ops w (o :: rest) Z f := fun a ha => by
  unfold wpStill
  have : Region.wanted o (Go.yielded ops a.tmps) = false := by
    simp only [Region.wanted, hg, ha.yielded ops j b' hy]
    cases b <;> cases b' <;> simp_all
  rw [if_neg (by rw [this]; simp), hd]
  exact h _ (ha.put hn undef)
theorem H_call {g : FuncId} {args : Array Value} {r : Value} (hw : Wants ops f o) (hd : o.dst = some d) (hn : Nat.blt d n = true) (hrun : (execOp (ev f) o).run P w = .ok (.enter g args) w) (hc : Does P g args w (fun v w' => v = r ∧ w = w'))
    (h : Hs P n ops w rest Z (upd f d r)) : Hs P n ops w (o :: rest) Z f := fun a ha => by
  unfold wpStill
  rw [if_pos (hw.wanted ha)]
  unfold Oper.still
  rw [ha.eval, hrun]
  simp only [Oper.stillUpon]
  refine ⟨trivial, r, Calls.mono hc ?_, ?_⟩
  · rintro e w' ⟨v, rfl, rfl, rfl⟩; exact ⟨rfl, rfl⟩
  · rw [hd]; exact h _ (ha.put hn r)
theorem W_tail {id : Nat} {l : List Oper} (k : Nat) (hm : P.follows .mixedOrders = true) (hB : Region.lexTailB .any l.toArray k = true)
    (h : ∀ w1, Nw w w1 → w1.heap.size = w.heap.size → Hs P n l.toArray w1 (l.take k) (fun f' => Wl P n l.toArray (l.drop k) N f' w1) f) : Wp P n (.region id l.toArray true) N X R f w := fun a ha => by
  refine wp_region_still_tail k hm hB ?_
  have := h w.drew (Ch.drew w) rfl a ha
  have hmono : ∀ (l' : List Oper) (a : Act), wpStill P l.toArray w.drew (fun a' => ∃ f', Is a' n f' ∧ Wl P n l.toArray (l.drop k) N f' w.drew) l' a → wpStill P l.toArray w.drew (fun a' => wpList P l.toArray (Qk n N X R) (l.drop k) a' w.drew) l' a := by
    intro l'
    induction l' with
    | nil => intro a h; obtain ⟨f', h1, h2⟩ := h; exact h2 _ _ (fun a f w ha hN => ⟨f, ha, hN⟩) h1
    | cons o l' ih =>
      intro a h
      unfold wpStill at h ⊢
      split
      · rename_i hw; rw [if_pos hw] at h; exact Oper.still_mono (fun a h => ih a h) h
      · rename_i hw; rw [if_neg hw] at h; exact ih _ h
  exact hmono _ _ this
theorem W_still {id : Nat} {l : List Oper} (hm : P.follows .mixedOrders = true) (hB : Region.lexB .any l.toArray = true)
    (h : ∀ w1, Nw w w1 → w1.heap.size = w.heap.size → Hs P n l.toArray w1 l (fun f' => N f' w1) f) : Wp P n (.region id l.toArray true) N X R f w := fun a ha => by
  refine wp_region_still_lit hm hB ?_
  have := h w.drew (Ch.drew w) rfl a ha
  have hmono : ∀ (l' : List Oper) (a : Act), wpStill P l.toArray w.drew (fun a' => ∃ f', Is a' n f' ∧ N f' w.drew) l' a → wpStill P l.toArray w.drew (fun a' => Qk n N X R .normal a' w.drew) l' a := by
    intro l'
    induction l' with
    | nil => intro a h; exact h
    | cons o l' ih =>
      intro a h
      unfold wpStill at h ⊢
      split
      · rename_i hw; rw [if_pos hw] at h; exact Oper.still_mono (fun a h => ih a h) h
      · rename_i hw; rw [if_neg hw] at h; exact ih _ h
  exact hmono _ _ this
theorem H_case {p : Prop} [Decidable p] (hv : f d = .bool (decide p)) (ht : p → Hs P n ops w rest Z (upd f d (.bool true))) (hf : ¬ p → Hs P n ops w rest Z (upd f d (.bool false))) : Hs P n ops w rest Z f := by
  by_cases h : p
  · have := ht h; rwa [upd_self (by rw [hv]; simp [h])] at this
  · have := hf h; rwa [upd_self (by rw [hv]; simp [h])] at this
theorem H_caseb {b : Bool} (hv : f d = .bool b) (ht : b = true → Hs P n ops w rest Z (upd f d (.bool true))) (hf : b = false → Hs P n ops w rest Z (upd f d (.bool false))) : Hs P n ops w rest Z f := by
  cases b with
  | true => have := ht rfl; rwa [upd_self hv] at this
  | false => have := hf rfl; rwa [upd_self hv] at this
theorem H_as {v v' : Value} (d : Nat) (hv : f d = v) (e : v = v') (h : Hs P n ops w rest Z (upd f d v')) : Hs P n ops w rest Z f := by rwa [upd_self (by rw [hv, e])] at h
end still
section cases_
variable {P : Program} {n : Nat} {ops : Array Oper} {l : List Oper} {N : Cn} {X : Nat → Cn} {R : Cn} {S : World → Prop} {f : Fr} {w : World} {fuel d : Nat} {listed : Array Bool}
/-- A slot's Bool is decided. -/
theorem L_case {p : Prop} [Decidable p] (hv : f d = .bool (decide p)) (ht : p → Wl P n ops l N (upd f d (.bool true)) w) (hf : ¬ p → Wl P n ops l N (upd f d (.bool false)) w) : Wl P n ops l N f w := by
  by_cases h : p
  · have := ht h; rwa [upd_self (by rw [hv]; simp [h])] at this
  · have := hf h; rwa [upd_self (by rw [hv]; simp [h])] at this
theorem L_caseb {b : Bool} (hv : f d = .bool b) (ht : b = true → Wl P n ops l N (upd f d (.bool true)) w) (hf : b = false → Wl P n ops l N (upd f d (.bool false)) w) : Wl P n ops l N f w := by
  cases b with
  | true => have := ht rfl; rwa [upd_self hv] at this
  | false => have := hf rfl; rwa [upd_self hv] at this
theorem D_case {p : Prop} [Decidable p] (hv : f d = .bool (decide p)) (ht : p → D P n ops N X R S fuel listed (upd f d (.bool true)) w) (hf : ¬ p → D P n ops N X R S fuel listed (upd f d (.bool false)) w) : D P n ops N X R S fuel listed f w := by
  by_cases h : p
  · have := ht h; rwa [upd_self (by rw [hv]; simp [h])] at this
  · have := hf h; rwa [upd_self (by rw [hv]; simp [h])] at this
theorem D_caseb {b : Bool} (hv : f d = .bool b) (ht : b = true → D P n ops N X R S fuel listed (upd f d (.bool true)) w) (hf : b = false → D P n ops N X R S fuel listed (upd f d (.bool false)) w) : D P n ops N X R S fuel listed f w := by
  cases b with
  | true => have := ht rfl; rwa [upd_self hv] at this
  | false => have := hf rfl; rwa [upd_self hv] at this
/-- A slot is given another spelling. -/
theorem L_as {v v' : Value} (d : Nat) (hv : f d = v) (e : v = v') (h : Wl P n ops l N (upd f d v') w) : Wl P n ops l N f w := by rwa [upd_self (by rw [hv, e])] at h
theorem D_as {v v' : Value} (d : Nat) (hv : f d = v) (e : v = v') (h : D P n ops N X R S fuel listed (upd f d v') w) : D P n ops N X R S fuel listed f w := by rwa [upd_self (by rw [hv, e])] at h
theorem W_as {c : Code} {v v' : Value} (d : Nat) (hv : f d = v) (e : v = v') (h : Wp P n c N X R (upd f d v') w) : Wp P n c N X R f w := by rwa [upd_self (by rw [hv, e])] at h
theorem wanted_u {a : Act} {o : Oper} {j : Nat} {b : Bool} (ha : Is a n f) (hg : o.guard = some (j, b)) (hy : yl ops f j = none) : Region.wanted o (Go.yielded ops a.tmps) = false := by
  have : Go.yielded ops a.tmps j = none := by
    unfold yl at hy
    unfold Go.yielded
    cases e : (ops[j]?).bind (·.dst) with
    | none => rfl
    | some d =>
      rw [e] at hy
      have h2 := ha.get d
      have h3 : a.tmps[d]?.getD undef = f d := by simpa using h2
      simp only at hy ⊢
      cases e2 : a.tmps[d]? with
      | none => simp [e2]
      | some v =>
        rw [e2] at h3
        simp only [Option.getD_some] at h3
        subst h3
        simp only [Option.bind_some, e2]
        cases hf : f d <;> rw [hf] at hy <;> first | rfl | (simp at hy)
  simp [Region.wanted, hg, this]
theorem L_passu {o : Oper} {rest : List Oper} {j : Nat} {b : Bool} (hg : o.guard = some (j, b)) (hy : yl ops f j = none) (hd : o.dst = some d) (hn : Nat.blt d n = true)
    (h : Wl P n ops rest N (upd f d undef) w) : Wl P n ops (o :: rest) N f w := fun Q a hq ha => by
  unfold wpList
  rw [if_neg (by rw [wanted_u ha hg hy]; simp), hd]
  exact h Q _ hq (ha.put hn undef)
theorem H_passu {o : Oper} {rest : List Oper} {Z : Fr → Prop} {j : Nat} {b : Bool} (hg : o.guard = some (j, b)) (hy : yl ops f j = none) (hd : o.dst = some d) (hn : Nat.blt d n = true)
    (h : Hs P n ops w rest Z (upd f d undef)) : Hs P n ops w (o :: rest) Z f := fun a ha => by
  unfold wpStill
  rw [if_neg (by rw [wanted_u ha hg hy]; simp), hd]
  exact h _ (ha.put hn undef)
theorem D_passu (i : Nat) {o : Oper} {j : Nat} {b : Bool} (ho : ops[i]? = some o) (hs : Region.noSelect ops = true) (hf : Region.free .any ops listed i = true) (hr : (Region.ready .any ops listed).contains i = true)
    (hg : o.guard = some (j, b)) (hy : yl ops f j = none) (hd : o.dst = some d) (hn : Nat.blt d n = true) (hS : S w)
    (h : D P n ops N X R S fuel (listed.setIfInBounds i true) (upd f d undef) w) : D P n ops N X R S (fuel + 1) listed f w := fun a ha =>
  wpAnyH_take (v := undef) ho hs hf hr (fun _ _ _ q => q.elim) (.inr ⟨wanted_u ha hg hy, rfl⟩) hS (by rw [hd]; exact h _ (ha.put hn undef))
/-- What stands behind a piece of code, laid down once; the slots of L stay as they are. -/
theorem W_cutF {x y : Code} (L : List Nat) (M : Fr → World → Prop) (h : Wp P n x (fun f' w' => fixd f' f L ∧ M f' w') X R f w)
    (k : ∀ g w', M (mixF L f g) w' → Wp P n y N X R (mixF L f g) w') : Wp P n (.seq x y) N X R f w :=
  W_cut (fun f' w' => fixd f' f L ∧ M f' w') h fun f' w' ⟨h1, h2⟩ => by
    have h3 := fixd_mix h1
    have := k f' w' (by rw [h3]; exact h2)
    rwa [h3] at this
theorem W_endF {x : Code} (L : List Nat) (M : Fr → World → Prop) (h : Wp P n x (fun f' w' => fixd f' f L ∧ M f' w') X R f w)
    (k : ∀ g w', M (mixF L f g) w' → N (mixF L f g) w') : Wp P n x N X R f w :=
  W_mono h (fun f' w' ⟨h1, h2⟩ => by
    have h3 := fixd_mix h1
    have := k f' w' (by rw [h3]; exact h2)
    rwa [h3] at this) (fun _ _ _ h => h) (fun _ _ h => h)
theorem dec_t {p : Prop} [Decidable p] (h : p) : Value.bool true = .bool (decide p) := by simp [h]
theorem dec_f {p : Prop} [Decidable p] (h : ¬ p) : Value.bool false = .bool (decide p) := by simp [h]
theorem dec_i {p q : Prop} [Decidable p] [Decidable q] (h : p ↔ q) : Value.bool (decide p) = .bool (decide q) := by simp [h]
end cases_
end Go.Proofs.Ytmnddfedopjjbaa
