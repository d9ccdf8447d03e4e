/- The rules of this proof's walks: frames as functions, one rule for each form of code, one fact for each kind of operation; over any program. -/
import Derived.WalkKit
import Derived.WalkSpells
import Derived.WalkLawsBesides
import Derived.OrdersHeld
import Derived.Deep.LoopGhost
import Derived.ProofKit
namespace Go.Proofs.YtioonbfinnigpaaGreatDoor
open Go Go.RowKit
set_option linter.unusedVariables false
set_option linter.unusedSimpArgs false

abbrev Fr := Nat → Value
/-- The frame with one slot set. -/
def upd (f : Fr) (d : Nat) (v : Value) : Fr := fun i => bif Nat.beq i d then v else f i
def initF : List Value → Fr
  | [], _ => undef
  | a :: _, 0 => a
  | _ :: l, i + 1 => initF l i
def ev (f : Fr) : Operand → Value
  | .tmp t => f t
  | .const v => v
  | .global g => .pointer (some ⟨g, 0, none⟩)
  | .func g => .func (.func g) #[] #[]
theorem upd_self {f : Fr} {d : Nat} {v : Value} (h : f d = v) : upd f d v = f := by
  funext i
  unfold upd
  cases e : Nat.beq i d with
  | true => rw [Nat.eq_of_beq_eq_true e]; exact h.symm
  | false => rfl
theorem upd_of {f g : Fr} {d : Nat} {v : Value} (h : g = f) (hv : f d = v) : upd g d v = f := by rw [h]; exact upd_self hv
/-- What the frame holds, said of an act. -/
structure Is (a : Act) (n : Nat) (f : Fr) : Prop where
  size : a.tmps.size = n
  defers : a.defers = []
  get : ∀ i, a.tmps.getD i undef = f i
theorem Is.eval {a : Act} {n : Nat} {f : Fr} (h : Is a n f) : a.eval = ev f := by
  funext x
  cases x <;> first | exact h.get _ | rfl
theorem Is.put {a : Act} {n d : Nat} {f : Fr} (h : Is a n f) (hd : Nat.blt d n = true) (v : Value) : Is (a.put (some d) v) n (upd f d v) := by
  have hd' : d < n := Nat.lt_of_succ_le (Nat.le_of_ble_eq_true hd)
  refine ⟨by simp [Act.put, h.size], by simp [Act.put, h.defers], fun i => ?_⟩
  unfold upd
  have h1 := h.get i
  have h2 := h.size
  cases e : Nat.beq i d with
  | true =>
    have := Nat.eq_of_beq_eq_true e
    subst this
    simp [Act.put, Array.getElem?_setIfInBounds, h2, hd']
  | false =>
    have hne : d ≠ i := fun x => by rw [x, Nat.beq_refl] at e; cases e
    simpa [Act.put, Array.getElem?_setIfInBounds, hne] using h1
theorem Is.put_none {a : Act} {n : Nat} {f : Fr} (h : Is a n f) (v : Value) : Is (a.put none v) n f := h
def yl (ops : Array Oper) (f : Fr) (j : Nat) : Option Bool :=
  match (ops[j]?).bind (·.dst) with
  | some d => match f d with | .bool b => some b | _ => none
  | none => none
theorem Is.yielded {a : Act} {n : Nat} {f : Fr} (h : Is a n f) (ops : Array Oper) (j : Nat) (b : Bool) (hy : yl ops f j = some b) : Go.yielded ops a.tmps j = some b := by
  unfold yl at hy
  unfold Go.yielded
  cases e : (ops[j]?).bind (·.dst) with
  | none => rw [e] at hy; cases hy
  | some d =>
    rw [e] at hy
    have := h.get d
    simp only at hy ⊢
    have h3 : a.tmps[d]?.getD undef = f d := by simpa using this
    cases e2 : a.tmps[d]? with
    | none => rw [e2] at h3; simp only [Option.getD_none] at h3; rw [← h3] at hy; simp [undef] at hy
    | some v => rw [e2] at h3; simp only [Option.getD_some] at h3; subst h3; simp only [Option.bind_some, e2]; cases hf : f d <;> rw [hf] at hy <;> first | exact hy | (simp at hy)

abbrev Cn := Fr → World → Prop
/-- How a piece of code may end. -/
def Qk (n : Nat) (N : Cn) (X : Nat → Cn) (R : Cn) : Exit → Act → World → Prop
  | .normal, a, w => ∃ f, Is a n f ∧ N f w
  | .exit id, a, w => ∃ f, Is a n f ∧ X id f w
  | .ret, a, w => ∃ f, Is a n f ∧ R f w
  | _, _, _ => False
def Wp (P : Program) (n : Nat) (c : Code) (N : Cn) (X : Nat → Cn) (R : Cn) (f : Fr) (w : World) : Prop := ∀ a, Is a n f → c.wp P (Qk n N X R) a w
def Wl (P : Program) (n : Nat) (ops : Array Oper) (l : List Oper) (N : Cn) (f : Fr) (w : World) : Prop :=
  ∀ (Q : Exit → Act → World → Prop) a, (∀ a f w, Is a n f → N f w → Q .normal a w) → Is a n f → wpList P ops Q l a w
def blk (id : Nat) (N : Cn) (X : Nat → Cn) : Nat → Cn := fun i => bif Nat.beq i id then N else X i
section rules
variable {P : Program} {n : Nat} {N : Cn} {X : Nat → Cn} {R : Cn} {f : Fr} {w : World}
theorem blk_hit {id : Nat} (h : N f w) : blk id N X id f w := by unfold blk; rw [Nat.beq_refl]; exact h
theorem blk_miss {id i : Nat} (e : Nat.beq i id = false) (h : X i f w) : blk id N X i f w := by unfold blk; rw [e]; exact h
theorem W_seq {x y : Code} (h : Wp P n x (fun f w => Wp P n y N X R f w) X R f w) : Wp P n (.seq x y) N X R f w := fun a ha =>
  wp_seq (wp_mono (h a ha) fun e a' w' q => by
    cases e with
    | normal => obtain ⟨f', h1, h2⟩ := q; exact h2 a' h1
    | _ => exact q)
theorem W_block {id : Nat} {c : Code} (h : Wp P n c N (blk id N X) R f w) : Wp P n (.block id c) N X R f w := fun a ha =>
  wp_block (wp_mono (h a ha) fun e a' w' q => by
    cases e with
    | exit i =>
      obtain ⟨f', h1, h2⟩ := q
      unfold blk at h2
      simp only [Exit.inBlock]
      cases e : Nat.beq i id with
      | true =>
        rw [e] at h2
        have := Nat.eq_of_beq_eq_true e
        rw [if_pos this]
        exact ⟨f', h1, h2⟩
      | false =>
        rw [e] at h2
        have hne : i ≠ id := fun x => by rw [x, Nat.beq_refl] at e; cases e
        rw [if_neg hne]
        exact ⟨f', h1, h2⟩
    | _ => exact q)
theorem W_skip (h : N f w) : Wp P n .skip N X R f w := fun _ ha => wp_skip ⟨f, ha, h⟩
theorem W_exit {id : Nat} (h : X id f w) : Wp P n (.exit id) N X R f w := fun _ ha => wp_exit ⟨f, ha, h⟩
theorem W_ret (h : R f w) : Wp P n .ret N X R f w := fun _ ha => wp_ret ⟨f, ha, h⟩
theorem W_true {c : Operand} {x y : Code} (hc : ev f c = .bool true) (h : Wp P n x N X R f w) : Wp P n (.cond c x y) N X R f w := fun a ha => wp_cond_true (by rw [ha.eval]; exact hc) (h a ha)
theorem W_false {c : Operand} {x y : Code} (hc : ev f c = .bool false) (h : Wp P n y N X R f w) : Wp P n (.cond c x y) N X R f w := fun a ha => wp_cond_false (by rw [ha.eval]; exact hc) (h a ha)
/-- A test on a proposition. -/
theorem W_if {c : Operand} {x y : Code} {p : Prop} [Decidable p] (hc : ev f c = .bool (decide p)) (ht : p → Wp P n x N X R f w) (hf : ¬ p → Wp P n y N X R f w) : Wp P n (.cond c x y) N X R f w := by
  by_cases h : p
  · exact W_true (by rw [hc]; simp [h]) (ht h)
  · exact W_false (by rw [hc]; simp [h]) (hf h)
theorem W_bool {c : Operand} {x y : Code} {b : Bool} (hc : ev f c = .bool b) (ht : b = true → Wp P n x N X R f w) (hf : b = false → Wp P n y N X R f w) : Wp P n (.cond c x y) N X R f w := by
  cases b with
  | true => exact W_true hc (ht rfl)
  | false => exact W_false hc (hf rfl)
/-- A loop by what holds at each round's head; m goes down. -/
theorem W_loop {c : Code} (I : Nat → Fr → World → Prop) (m0 : Nat) (h0 : I m0 f w)
    (round : ∀ m f w, I m f w → Wp P n c (fun f' w' => ∃ m', m' < m ∧ I m' f' w') X R f w) : Wp P n (.loop c) N X R f w := by
  intro a ha
  have key : ∀ m f w a, Is a n f → I m f w → (Code.loop c).wp P (Qk n N X R) a w := by
    intro m f w a ha hI
    refine wp_loop_ghost (fun m a' w' => ∃ f', Is a' n f' ∧ I m f' w') m ⟨f, ha, hI⟩ ?_
    rintro m a' w' ⟨f', ha', hI'⟩
    refine wp_mono (round m f' w' hI' a' ha') fun e a1 w1 q => ?_
    cases e with
    | normal =>
      obtain ⟨f1, h1, m', hm, h2⟩ := q
      exact ⟨m', hm, f1, h1, h2⟩
    | _ => exact q
  exact key m0 f w a ha h0
def memN : List Nat → Nat → Bool
  | [], _ => false
  | a :: l, i => bif Nat.beq i a then true else memN l i
/-- The slots of L out of f, all others out of g. -/
def mixF (L : List Nat) (f g : Fr) : Fr := fun i => bif memN L i then f i else g i
def fixd (f' f : Fr) : List Nat → Prop
  | [] => True
  | a :: l => f' a = f a ∧ fixd f' f l
theorem fixd_mix {f' f : Fr} {L : List Nat} (h : fixd f' f L) : mixF L f f' = f' := by
  have key : ∀ (L : List Nat) i, fixd f' f L → memN L i = true → f' i = f i := by
    intro L i
    induction L with
    | nil => intro _ h; cases h
    | cons a l ih =>
      rintro ⟨h1, h2⟩ h3
      unfold memN at h3
      cases e : Nat.beq i a with
      | true => rw [Nat.eq_of_beq_eq_true e]; exact h1
      | false => rw [e] at h3; exact ih h2 h3
  funext i
  unfold mixF
  cases e : memN L i with
  | true => exact (key L i h e).symm
  | false => rfl
theorem fixd_refl (f : Fr) : ∀ L, fixd f f L
  | [] => trivial
  | _ :: l => ⟨rfl, fixd_refl f l⟩
/-- A loop; the slots of L stay as they are. -/
theorem W_loopF (L : List Nat) {c : Code} (I : Nat → Fr → World → Prop) (h0 : ∃ m0, I m0 f w)
    (round : ∀ m g w', I m (mixF L f g) w' → Wp P n c (fun f' w'' => fixd f' f L ∧ ∃ m', m' < m ∧ I m' f' w'') X R (mixF L f g) w') : Wp P n (.loop c) N X R f w := by
  obtain ⟨m0, h0⟩ := h0
  refine W_loop (fun m f' w' => fixd f' f L ∧ I m f' w') m0 ⟨fixd_refl f L, h0⟩ ?_
  rintro m f' w' ⟨h1, h2⟩
  have h3 := fixd_mix h1
  have := round m f' w' (by rw [h3]; exact h2)
  rw [h3] at this
  refine fun a ha => wp_mono (this a ha) fun e a' w'' q => ?_
  cases e with
  | normal =>
    obtain ⟨f1, h4, h5, m', h6, h7⟩ := q
    exact ⟨f1, h4, m', h6, h5, h7⟩
  | _ => exact q
theorem held {p q : Prop} (hp : p) (hq : p → q) : p ∧ q := ⟨hp, hq hp⟩
/-- What stands between two pieces of code, laid down once. -/
theorem W_cut {x y : Code} (M : Cn) (h : Wp P n x M X R f w) (k : ∀ f w, M f w → Wp P n y N X R f w) : Wp P n (.seq x y) N X R f w :=
  W_seq fun a ha => wp_mono (h a ha) fun e a' w' q => by
    cases e with
    | normal => obtain ⟨f', h1, h2⟩ := q; exact ⟨f', h1, k f' w' h2⟩
    | _ => exact q
theorem W_region {id : Nat} {l : List Oper} (h : Wl P n l.toArray l N f w) : Wp P n (.region id l.toArray false) N X R f w := fun a ha =>
  wp_region_lit (h _ a (fun a f w ha hN => ⟨f, ha, hN⟩) ha)
theorem W_mono {c : Code} {N' : Cn} {X' : Nat → Cn} {R' : Cn} (h : Wp P n c N X R f w) (h1 : ∀ f w, N f w → N' f w) (h2 : ∀ i f w, X i f w → X' i f w) (h3 : ∀ f w, R f w → R' f w) : Wp P n c N' X' R' f w :=
  fun a ha => wp_mono (h a ha) fun e a' w' q => by
    cases e with
    | normal => obtain ⟨f, h4, h5⟩ := q; exact ⟨f, h4, h1 _ _ h5⟩
    | exit i => obtain ⟨f, h4, h5⟩ := q; exact ⟨f, h4, h2 _ _ _ h5⟩
    | ret => obtain ⟨f, h4, h5⟩ := q; exact ⟨f, h4, h3 _ _ h5⟩
    | _ => exact q
end rules
/-! ### operations in the text's order -/
section ops
variable {P : Program} {n : Nat} {ops : Array Oper} {rest : List Oper} {o : Oper} {N : Cn} {f : Fr} {w w' : World}
theorem L_nil (h : N f w) : Wl P n ops [] N f w := fun _ _ hq ha => wpList_nil (hq _ _ _ ha h)
theorem wanted_none {a : Act} (hg : o.guard = none) : Region.wanted o (Go.yielded ops a.tmps) = true := by simp [Region.wanted, hg]
theorem wanted_some {a : Act} {j : Nat} {b : Bool} (ha : Is a n f) (hg : o.guard = some (j, b)) (hy : yl ops f j = some b) : Region.wanted o (Go.yielded ops a.tmps) = true := by
  simp [Region.wanted, hg, ha.yielded ops j b hy]
/-- Is the operation to be done? -/
inductive Wants (ops : Array Oper) (f : Fr) (o : Oper) : Prop
  | plain (h : o.guard = none)
  | yes (j : Nat) (b : Bool) (h : o.guard = some (j, b)) (hy : yl ops f j = some b)
theorem Wants.wanted {a : Act} (ha : Is a n f) (h : Wants ops f o) : Region.wanted o (Go.yielded ops a.tmps) = true := by
  cases h with
  | plain h => exact wanted_none h
  | yes j b h hy => exact wanted_some ha h hy
theorem L_run {d : Nat} {v : Value} (hw : Wants ops f o) (hd : o.dst = some d) (hn : Nat.blt d n = true) (hr : (execOp (ev f) o).run P w = .ok (.value v) w')
    (h : Wl P n ops rest N (upd f d v) w') : Wl P n ops (o :: rest) N f w := fun Q a hq ha => by
  unfold wpList
  rw [if_pos (hw.wanted ha)]
  refine .inl ?_
  unfold Oper.wp
  rw [ha.eval, hr]
  simp only [Oper.upon]
  rw [hd]
  exact h Q _ hq (ha.put hn v)
/-- An operation that leaves nothing. -/
theorem L_do (hw : Wants ops f o) (hd : o.dst = none) (hr : (execOp (ev f) o).run P w = .ok .skip w')
    (h : Wl P n ops rest N f w') : Wl P n ops (o :: rest) N f w := fun Q a hq ha => by
  unfold wpList
  rw [if_pos (hw.wanted ha)]
  refine .inl ?_
  unfold Oper.wp
  rw [ha.eval, hr]
  simp only [Oper.upon]
  rw [hd]
  exact h Q _ hq ha
theorem L_pass {d j : Nat} {b b' : Bool} (hg : o.guard = some (j, b)) (hy : yl ops f j = some b') (hne : (b' == b) = false) (hd : o.dst = some d) (hn : Nat.blt d n = true)
    (h : Wl P n ops rest N (upd f d undef) w) : Wl P n ops (o :: rest) N f w := fun Q a hq ha => by
  unfold wpList
  have : Region.wanted o (Go.yielded ops a.tmps) = false := by
    simp only [Region.wanted, hg, ha.yielded ops j b' hy]
    cases b <;> cases b' <;> simp_all
  rw [if_neg (by rw [this]; simp), hd]
  exact h Q _ hq (ha.put hn undef)
theorem L_pass_do {j : Nat} {b b' : Bool} (hg : o.guard = some (j, b)) (hy : yl ops f j = some b') (hne : (b' == b) = false) (hd : o.dst = none)
    (h : Wl P n ops rest N f w) : Wl P n ops (o :: rest) N f w := fun Q a hq ha => by
  unfold wpList
  have : Region.wanted o (Go.yielded ops a.tmps) = false := by
    simp only [Region.wanted, hg, ha.yielded ops j b' hy]
    cases b <;> cases b' <;> simp_all
  rw [if_neg (by rw [this]; simp), hd]
  exact h Q _ hq ha
/-- What a call comes to: it returns, with a value and in a world of which T holds. -/
def Does (P : Program) (g : FuncId) (args : Array Value) (w : World) (T : Value → World → Prop) : Prop :=
  Calls P g args w fun e w' => ∃ v, e = .returned v ∧ T v w'
theorem Does.mono {g : FuncId} {args : Array Value} {T T' : Value → World → Prop} (h : Does P g args w T) (k : ∀ v w', T v w' → T' v w') : Does P g args w T' :=
  Calls.mono h fun _ _ ⟨v, e, t⟩ => ⟨v, e, k _ _ t⟩
theorem L_call {d : Nat} {g : FuncId} {args : Array Value} {T : Value → World → Prop} (hw : Wants ops f o) (hd : o.dst = some d) (hn : Nat.blt d n = true)
    (hr : (execOp (ev f) o).run P w = .ok (.enter g args) w') (hc : Does P g args w' T)
    (h : ∀ v w'', T v w'' → Wl P n ops rest N (upd f d v) w'') : Wl P n ops (o :: rest) N f w := fun Q a hq ha => by
  unfold wpList
  rw [if_pos (hw.wanted ha)]
  refine .inl ?_
  unfold Oper.wp
  rw [ha.eval, hr]
  simp only [Oper.upon]
  refine Calls.mono hc ?_
  rintro e w'' ⟨v, rfl, hT⟩
  simp only
  rw [hd]
  exact h v w'' hT Q _ hq (ha.put hn v)
theorem L_call_do {g : FuncId} {args : Array Value} {T : Value → World → Prop} (hw : Wants ops f o) (hd : o.dst = none)
    (hr : (execOp (ev f) o).run P w = .ok (.enter g args) w') (hc : Does P g args w' T)
    (h : ∀ v w'', T v w'' → Wl P n ops rest N f w'') : Wl P n ops (o :: rest) N f w := fun Q a hq ha => by
  unfold wpList
  rw [if_pos (hw.wanted ha)]
  refine .inl ?_
  unfold Oper.wp
  rw [ha.eval, hr]
  simp only [Oper.upon]
  refine Calls.mono hc ?_
  rintro e w'' ⟨v, rfl, hT⟩
  simp only
  rw [hd]
  exact h v w'' hT Q _ hq ha
end ops
/-! ### a function out of its body -/
section enter
variable {P : Program}
theorem initF_get (l : List Value) (m : Nat) (i : Nat) : (l.toArray ++ Array.replicate m undef).getD i undef = initF l i := by
  have : ∀ (l : List Value) (i : Nat), (l ++ List.replicate m undef)[i]?.getD undef = initF l i := by
    intro l
    induction l with
    | nil =>
      intro i
      simp only [List.nil_append, initF]
      by_cases h : i < m <;> simp [List.getElem?_replicate, h]
    | cons a l ih =>
      intro i
      cases i with
      | zero => simp [initF]
      | succ i => simpa [initF] using ih i
  have h2 := this l i
  simpa [← List.toArray_replicate] using h2
def Rt (P : Program) (fn : Func) (T : Value → World → Prop) : Cn := fun f w => ∀ t : Array Value, (∀ i, t.getD i undef = f i) → ∃ v, (results fn t).run P w = .ok v w ∧ T v w
theorem fn_of {g : FuncId} {fn : Func} {c : Code} {args : List Value} {w : World} {T : Value → World → Prop} {n : Nat} (hf : P.funcs[g]? = some fn) (hb : fn.body = some c) (hn : fn.ntmps = n) (hl : Nat.ble args.length n = true)
    (h : Wp P n c (Rt P fn T) (fun _ _ _ => False) (Rt P fn T) (initF args) w) : Does P g args.toArray w T := by
  have hl' : args.length ≤ n := by simpa using hl
  refine calls_of_wp hf hb (wp_mono (h _ ⟨?_, rfl, ?_⟩) ?_)
  · simp [hn]; omega
  · intro i; rw [hn]; exact initF_get _ _ i
  · intro e a w' q
    cases e with
    | normal =>
      obtain ⟨f', h1, h2⟩ := q
      obtain ⟨v, h3, h4⟩ := h2 a.tmps h1.get
      exact ⟨h1.defers, v, h3, v, rfl, h4⟩
    | ret =>
      obtain ⟨f', h1, h2⟩ := q
      obtain ⟨v, h3, h4⟩ := h2 a.tmps h1.get
      exact ⟨h1.defers, v, h3, v, rfl, h4⟩
    | exit i => obtain ⟨_, _, h2⟩ := q; exact h2.elim
    | _ => exact q.elim
variable {fn : Func} {T : Value → World → Prop} {f : Fr} {w : World}
theorem ret0 (hr : fn.results = #[]) (h : T (.tuple #[]) w) : Rt P fn T f w := fun t ht => ⟨_, results_none hr t P w, h⟩
theorem ret1 {i : Nat} {v : Value} (hr : fn.results = #[.tmp i]) (hv : f i = v) (h : T v w) : Rt P fn T f w := fun t ht => ⟨_, results_tmp hr t P w, by rw [ht, hv]; exact h⟩
theorem ret2 {i j : Nat} {u v : Value} (hr : fn.results = #[.tmp i, .tmp j]) (hu : f i = u) (hv : f j = v) (h : T (.tuple #[u, v]) w) : Rt P fn T f w := fun t ht => ⟨_, results_tmp2 hr t P w, by rw [ht, ht, hu, hv]; exact h⟩
theorem ret3 {i j k : Nat} {u v x : Value} (hr : fn.results = #[.tmp i, .tmp j, .tmp k]) (hu : f i = u) (hv : f j = v) (hx : f k = x) (h : T (.tuple #[u, v, x]) w) : Rt P fn T f w := fun t ht => ⟨_, results_tmp3 hr t P w, by rw [ht, ht, ht, hu, hv, hx]; exact h⟩
end enter
/-! numbers in range -/
theorem wr_i64 {z : Int} (h : -9223372036854775808 ≤ z ∧ z ≤ 9223372036854775807) : IntKind.i64.wrap z = z := IntWalk.i64_in _ h
theorem wr_u64 {z : Int} (h : 0 ≤ z ∧ z ≤ 18446744073709551615) : IntKind.u64.wrap z = z := by simp [IntKind.wrap, IntKind.bits, IntKind.signed]; omega
theorem wr_u32 {z : Int} (h : 0 ≤ z ∧ z ≤ 4294967295) : IntKind.u32.wrap z = z := by simp [IntKind.wrap, IntKind.bits, IntKind.signed]; omega
theorem wr_u16 {z : Int} (h : 0 ≤ z ∧ z ≤ 65535) : IntKind.u16.wrap z = z := by simp [IntKind.wrap, IntKind.bits, IntKind.signed]; omega
theorem wr_u8 {z : Int} (h : 0 ≤ z ∧ z ≤ 255) : IntKind.u8.wrap z = z := by simp [IntKind.wrap, IntKind.bits, IntKind.signed]; omega
theorem wr_i32 {z : Int} (h : -2147483648 ≤ z ∧ z ≤ 2147483647) : IntKind.i32.wrap z = z := by simp [IntKind.wrap, IntKind.bits, IntKind.signed]; omega
end Go.Proofs.YtioonbfinnigpaaGreatDoor
