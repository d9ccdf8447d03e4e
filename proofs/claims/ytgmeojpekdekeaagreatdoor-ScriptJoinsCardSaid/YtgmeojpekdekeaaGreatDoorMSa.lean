/- Parts of the proof (Base, Ops, Draw, Mem, Row). -/
import Derived.Deep.LoopGhost
import Derived.Deep.RegionHeld
import Derived.Laws.BytesArg
import Derived.Laws.Cover3
import Derived.Laws.Pointers
import Derived.Laws.Tables
import Derived.Lib.ConvBytes
import Derived.OrdersHeld
import Derived.ProofKit
import Derived.StillTail
import Derived.WalkKit
import Derived.WalkLawsBesides
import Derived.WalkSpells
namespace Go.Proofs.YtgmeojpekdekeaaGreatDoor
open Go Go.RowKit
set_option linter.unusedVariables false
set_option linter.unusedSimpArgs false

abbrev Fr := Nat → Value
/-- The frame with one slot set. -/
def upd (f : Fr) (d : Nat) (v : Value) : Fr := fun i => bif Nat.beq i d then v else f i
def initF : List Value → Fr
  | [], _ => undef
  | a :: _, 0 => a
  | _ :: l, i + 1 => initF l i
def ev (f : Fr) : Operand → Value
  | .tmp t => f t
  | .const v => v
  | .global g => .pointer (some ⟨g, 0, none⟩)
  | .func g => .func (.func g) #[] #[]
theorem upd_self {f : Fr} {d : Nat} {v : Value} (h : f d = v) : upd f d v = f := by
  funext i
  unfold upd
  cases e : Nat.beq i d with
  | true => rw [Nat.eq_of_beq_eq_true e]; exact h.symm
  | false => rfl
/-- What the frame holds, said of an act. -/
structure Is (a : Act) (n : Nat) (f : Fr) : Prop where
  size : a.tmps.size = n
  defers : a.defers = []
  get : ∀ i, a.tmps.getD i undef = f i
theorem Is.eval {a : Act} {n : Nat} {f : Fr} (h : Is a n f) : a.eval = ev f := by
  funext x
  cases x <;> first | exact h.get _ | rfl
theorem Is.put {a : Act} {n d : Nat} {f : Fr} (h : Is a n f) (hd : Nat.blt d n = true) (v : Value) : Is (a.put (some d) v) n (upd f d v) := by
  have hd' : d < n := Nat.lt_of_succ_le (Nat.le_of_ble_eq_true hd)
  refine ⟨by simp [Act.put, h.size], by simp [Act.put, h.defers], fun i => ?_⟩
  unfold upd
  have h1 := h.get i
  have h2 := h.size
  cases e : Nat.beq i d with
  | true =>
    have := Nat.eq_of_beq_eq_true e
    subst this
    simp [Act.put, Array.getElem?_setIfInBounds, h2, hd']
  | false =>
    have hne : d ≠ i := fun x => by rw [x, Nat.beq_refl] at e; cases e
    simpa [Act.put, Array.getElem?_setIfInBounds, hne] using h1
def yl (ops : Array Oper) (f : Fr) (j : Nat) : Option Bool :=
  match (ops[j]?).bind (·.dst) with
  | some d => match f d with | .bool b => some b | _ => none
  | none => none
theorem Is.yielded {a : Act} {n : Nat} {f : Fr} (h : Is a n f) (ops : Array Oper) (j : Nat) (b : Bool) (hy : yl ops f j = some b) : Go.yielded ops a.tmps j = some b := by
  unfold yl at hy
  unfold Go.yielded
  cases e : (ops[j]?).bind (·.dst) with
  | none => rw [e] at hy; cases hy
  | some d =>
    rw [e] at hy
    have := h.get d
    simp only at hy ⊢
    have h3 : a.tmps[d]?.getD undef = f d := by simpa using this
    cases e2 : a.tmps[d]? with
    | none => rw [e2] at h3; simp only [Option.getD_none] at h3; rw [← h3] at hy; simp [undef] at hy
    | some v => rw [e2] at h3; simp only [Option.getD_some] at h3; subst h3; simp only [Option.bind_some, e2]; cases hf : f d <;> rw [hf] at hy <;> first | exact hy | (simp at hy)

abbrev Cn := Fr → World → Prop
/-- How a piece of code may end. -/
def Qk (n : Nat) (N : Cn) (X : Nat → Cn) (R : Cn) : Exit → Act → World → Prop
  | .normal, a, w => ∃ f, Is a n f ∧ N f w
  | .exit id, a, w => ∃ f, Is a n f ∧ X id f w
  | .ret, a, w => ∃ f, Is a n f ∧ R f w
  | _, _, _ => False
def Wp (P : Program) (n : Nat) (c : Code) (N : Cn) (X : Nat → Cn) (R : Cn) (f : Fr) (w : World) : Prop := ∀ a, Is a n f → c.wp P (Qk n N X R) a w
def Wl (P : Program) (n : Nat) (ops : Array Oper) (l : List Oper) (N : Cn) (f : Fr) (w : World) : Prop :=
  ∀ (Q : Exit → Act → World → Prop) a, (∀ a f w, Is a n f → N f w → Q .normal a w) → Is a n f → wpList P ops Q l a w
def blk (id : Nat) (N : Cn) (X : Nat → Cn) : Nat → Cn := fun i => bif Nat.beq i id then N else X i
section rules
variable {P : Program} {n : Nat} {N : Cn} {X : Nat → Cn} {R : Cn} {f : Fr} {w : World}
theorem blk_hit {id : Nat} (h : N f w) : blk id N X id f w := by unfold blk; rw [Nat.beq_refl]; exact h
theorem blk_miss {id i : Nat} (e : Nat.beq i id = false) (h : X i f w) : blk id N X i f w := by unfold blk; rw [e]; exact h
theorem W_seq {x y : Code} (h : Wp P n x (fun f w => Wp P n y N X R f w) X R f w) : Wp P n (.seq x y) N X R f w := fun a ha =>
  wp_seq (wp_mono (h a ha) fun e a' w' q => by
    cases e with
    | normal => obtain ⟨f', h1, h2⟩ := q; exact h2 a' h1
    | _ => exact q)
theorem W_block {id : Nat} {c : Code} (h : Wp P n c N (blk id N X) R f w) : Wp P n (.block id c) N X R f w := fun a ha =>
  wp_block (wp_mono (h a ha) fun e a' w' q => by
    cases e with
    | exit i =>
      obtain ⟨f', h1, h2⟩ := q
      unfold blk at h2
      simp only [Exit.inBlock]
      cases e : Nat.beq i id with
      | true =>
        rw [e] at h2
        have := Nat.eq_of_beq_eq_true e
        rw [if_pos this]
        exact ⟨f', h1, h2⟩
      | false =>
        rw [e] at h2
        have hne : i ≠ id := fun x => by rw [x, Nat.beq_refl] at e; cases e
        rw [if_neg hne]
        exact ⟨f', h1, h2⟩
    | _ => exact q)
theorem W_skip (h : N f w) : Wp P n .skip N X R f w := fun _ ha => wp_skip ⟨f, ha, h⟩
theorem W_exit {id : Nat} (h : X id f w) : Wp P n (.exit id) N X R f w := fun _ ha => wp_exit ⟨f, ha, h⟩
theorem W_ret (h : R f w) : Wp P n .ret N X R f w := fun _ ha => wp_ret ⟨f, ha, h⟩
theorem W_true {c : Operand} {x y : Code} (hc : ev f c = .bool true) (h : Wp P n x N X R f w) : Wp P n (.cond c x y) N X R f w := fun a ha => wp_cond_true (by rw [ha.eval]; exact hc) (h a ha)
theorem W_false {c : Operand} {x y : Code} (hc : ev f c = .bool false) (h : Wp P n y N X R f w) : Wp P n (.cond c x y) N X R f w := fun a ha => wp_cond_false (by rw [ha.eval]; exact hc) (h a ha)
/-- A test on a proposition. -/
theorem W_if {c : Operand} {x y : Code} {p : Prop} [Decidable p] (hc : ev f c = .bool (decide p)) (ht : p → Wp P n x N X R f w) (hf : ¬ p → Wp P n y N X R f w) : Wp P n (.cond c x y) N X R f w := by
  by_cases h : p
  · exact W_true (by rw [hc]; simp [h]) (ht h)
  · exact W_false (by rw [hc]; simp [h]) (hf h)
theorem W_bool {c : Operand} {x y : Code} {b : Bool} (hc : ev f c = .bool b) (ht : b = true → Wp P n x N X R f w) (hf : b = false → Wp P n y N X R f w) : Wp P n (.cond c x y) N X R f w := by
  cases b with
  | true => exact W_true hc (ht rfl)
  | false => exact W_false hc (hf rfl)
/-- A loop by what holds at each round's head; m goes down. -/
theorem W_loop {c : Code} (I : Nat → Fr → World → Prop) (m0 : Nat) (h0 : I m0 f w)
    (round : ∀ m f w, I m f w → Wp P n c (fun f' w' => ∃ m', m' < m ∧ I m' f' w') X R f w) : Wp P n (.loop c) N X R f w := by
  intro a ha
  have key : ∀ m f w a, Is a n f → I m f w → (Code.loop c).wp P (Qk n N X R) a w := by
    intro m f w a ha hI
    refine wp_loop_ghost (fun m a' w' => ∃ f', Is a' n f' ∧ I m f' w') m ⟨f, ha, hI⟩ ?_
    rintro m a' w' ⟨f', ha', hI'⟩
    refine wp_mono (round m f' w' hI' a' ha') fun e a1 w1 q => ?_
    cases e with
    | normal =>
      obtain ⟨f1, h1, m', hm, h2⟩ := q
      exact ⟨m', hm, f1, h1, h2⟩
    | _ => exact q
  exact key m0 f w a ha h0
def memN : List Nat → Nat → Bool
  | [], _ => false
  | a :: l, i => bif Nat.beq i a then true else memN l i
/-- The slots of L out of f, all others out of g. -/
def mixF (L : List Nat) (f g : Fr) : Fr := fun i => bif memN L i then f i else g i
def fixd (f' f : Fr) : List Nat → Prop
  | [] => True
  | a :: l => f' a = f a ∧ fixd f' f l
theorem fixd_mix {f' f : Fr} {L : List Nat} (h : fixd f' f L) : mixF L f f' = f' := by
  have key : ∀ (L : List Nat) i, fixd f' f L → memN L i = true → f' i = f i := by
    intro L i
    induction L with
    | nil => intro _ h; cases h
    | cons a l ih =>
      rintro ⟨h1, h2⟩ h3
      unfold memN at h3
      cases e : Nat.beq i a with
      | true => rw [Nat.eq_of_beq_eq_true e]; exact h1
      | false => rw [e] at h3; exact ih h2 h3
  funext i
  unfold mixF
  cases e : memN L i with
  | true => exact (key L i h e).symm
  | false => rfl
theorem fixd_refl (f : Fr) : ∀ L, fixd f f L
  | [] => trivial
  | _ :: l => ⟨rfl, fixd_refl f l⟩
/-- A loop; the slots of L stay as they are. -/
theorem W_loopF (L : List Nat) {c : Code} (I : Nat → Fr → World → Prop) (h0 : ∃ m0, I m0 f w)
    (round : ∀ m g w', I m (mixF L f g) w' → Wp P n c (fun f' w'' => fixd f' f L ∧ ∃ m', m' < m ∧ I m' f' w'') X R (mixF L f g) w') : Wp P n (.loop c) N X R f w := by
  obtain ⟨m0, h0⟩ := h0
  refine W_loop (fun m f' w' => fixd f' f L ∧ I m f' w') m0 ⟨fixd_refl f L, h0⟩ ?_
  rintro m f' w' ⟨h1, h2⟩
  have h3 := fixd_mix h1
  have := round m f' w' (by rw [h3]; exact h2)
  rw [h3] at this
  refine fun a ha => wp_mono (this a ha) fun e a' w'' q => ?_
  cases e with
  | normal =>
    obtain ⟨f1, h4, h5, m', h6, h7⟩ := q
    exact ⟨f1, h4, m', h6, h5, h7⟩
  | _ => exact q
theorem held {p q : Prop} (hp : p) (hq : p → q) : p ∧ q := ⟨hp, hq hp⟩
/-- What stands between two pieces of code, laid down once. -/
theorem W_cut {x y : Code} (M : Cn) (h : Wp P n x M X R f w) (k : ∀ f w, M f w → Wp P n y N X R f w) : Wp P n (.seq x y) N X R f w :=
  W_seq fun a ha => wp_mono (h a ha) fun e a' w' q => by
    cases e with
    | normal => obtain ⟨f', h1, h2⟩ := q; exact ⟨f', h1, k f' w' h2⟩
    | _ => exact q
theorem W_region {id : Nat} {l : List Oper} (h : Wl P n l.toArray l N f w) : Wp P n (.region id l.toArray false) N X R f w := fun a ha =>
  wp_region_lit (h _ a (fun a f w ha hN => ⟨f, ha, hN⟩) ha)
theorem W_mono {c : Code} {N' : Cn} {X' : Nat → Cn} {R' : Cn} (h : Wp P n c N X R f w) (h1 : ∀ f w, N f w → N' f w) (h2 : ∀ i f w, X i f w → X' i f w) (h3 : ∀ f w, R f w → R' f w) : Wp P n c N' X' R' f w :=
  fun a ha => wp_mono (h a ha) fun e a' w' q => by
    cases e with
    | normal => obtain ⟨f, h4, h5⟩ := q; exact ⟨f, h4, h1 _ _ h5⟩
    | exit i => obtain ⟨f, h4, h5⟩ := q; exact ⟨f, h4, h2 _ _ _ h5⟩
    | ret => obtain ⟨f, h4, h5⟩ := q; exact ⟨f, h4, h3 _ _ h5⟩
    | _ => exact q
end rules
/-! ### operations in the text's order -/
section ops
variable {P : Program} {n : Nat} {ops : Array Oper} {rest : List Oper} {o : Oper} {N : Cn} {f : Fr} {w w' : World}
theorem L_nil (h : N f w) : Wl P n ops [] N f w := fun _ _ hq ha => wpList_nil (hq _ _ _ ha h)
theorem wanted_none {a : Act} (hg : o.guard = none) : Region.wanted o (Go.yielded ops a.tmps) = true := by simp [Region.wanted, hg]
theorem wanted_some {a : Act} {j : Nat} {b : Bool} (ha : Is a n f) (hg : o.guard = some (j, b)) (hy : yl ops f j = some b) : Region.wanted o (Go.yielded ops a.tmps) = true := by
  simp [Region.wanted, hg, ha.yielded ops j b hy]
/-- Is the operation to be done? -/
inductive Wants (ops : Array Oper) (f : Fr) (o : Oper) : Prop
  | plain (h : o.guard = none)
  | yes (j : Nat) (b : Bool) (h : o.guard = some (j, b)) (hy : yl ops f j = some b)
theorem Wants.wanted {a : Act} (ha : Is a n f) (h : Wants ops f o) : Region.wanted o (Go.yielded ops a.tmps) = true := by
  cases h with
  | plain h => exact wanted_none h
  | yes j b h hy => exact wanted_some ha h hy
theorem L_run {d : Nat} {v : Value} (hw : Wants ops f o) (hd : o.dst = some d) (hn : Nat.blt d n = true) (hr : (execOp (ev f) o).run P w = .ok (.value v) w')
    (h : Wl P n ops rest N (upd f d v) w') : Wl P n ops (o :: rest) N f w := fun Q a hq ha => by
  unfold wpList
  rw [if_pos (hw.wanted ha)]
  refine .inl ?_
  unfold Oper.wp
  rw [ha.eval, hr]
  simp only [Oper.upon]
  rw [hd]
  exact h Q _ hq (ha.put hn v)
/-- An operation that leaves nothing. -/
theorem L_do (hw : Wants ops f o) (hd : o.dst = none) (hr : (execOp (ev f) o).run P w = .ok .skip w')
    (h : Wl P n ops rest N f w') : Wl P n ops (o :: rest) N f w := fun Q a hq ha => by
  unfold wpList
  rw [if_pos (hw.wanted ha)]
  refine .inl ?_
  unfold Oper.wp
  rw [ha.eval, hr]
  simp only [Oper.upon]
  rw [hd]
  exact h Q _ hq ha
theorem L_pass {d j : Nat} {b b' : Bool} (hg : o.guard = some (j, b)) (hy : yl ops f j = some b') (hne : (b' == b) = false) (hd : o.dst = some d) (hn : Nat.blt d n = true)
    (h : Wl P n ops rest N (upd f d undef) w) : Wl P n ops (o :: rest) N f w := fun Q a hq ha => by
  unfold wpList
  have : Region.wanted o (Go.yielded ops a.tmps) = false := by
    simp only [Region.wanted, hg, ha.yielded ops j b' hy]
    cases b <;> cases b' <;> simp_all
  rw [if_neg (by rw [this]; simp), hd]
  exact h Q _ hq (ha.put hn undef)
/-- What a call comes to: it returns, with a value and in a world of which T holds. -/
def Does (P : Program) (g : FuncId) (args : Array Value) (w : World) (T : Value → World → Prop) : Prop :=
  Calls P g args w fun e w' => ∃ v, e = .returned v ∧ T v w'
theorem Does.mono {g : FuncId} {args : Array Value} {T T' : Value → World → Prop} (h : Does P g args w T) (k : ∀ v w', T v w' → T' v w') : Does P g args w T' :=
  Calls.mono h fun _ _ ⟨v, e, t⟩ => ⟨v, e, k _ _ t⟩
theorem L_call {d : Nat} {g : FuncId} {args : Array Value} {T : Value → World → Prop} (hw : Wants ops f o) (hd : o.dst = some d) (hn : Nat.blt d n = true)
    (hr : (execOp (ev f) o).run P w = .ok (.enter g args) w') (hc : Does P g args w' T)
    (h : ∀ v w'', T v w'' → Wl P n ops rest N (upd f d v) w'') : Wl P n ops (o :: rest) N f w := fun Q a hq ha => by
  unfold wpList
  rw [if_pos (hw.wanted ha)]
  refine .inl ?_
  unfold Oper.wp
  rw [ha.eval, hr]
  simp only [Oper.upon]
  refine Calls.mono hc ?_
  rintro e w'' ⟨v, rfl, hT⟩
  simp only
  rw [hd]
  exact h v w'' hT Q _ hq (ha.put hn v)
end ops
/-! ### a function out of its body -/
section enter
variable {P : Program}
theorem initF_get (l : List Value) (m : Nat) (i : Nat) : (l.toArray ++ Array.replicate m undef).getD i undef = initF l i := by
  have : ∀ (l : List Value) (i : Nat), (l ++ List.replicate m undef)[i]?.getD undef = initF l i := by
    intro l
    induction l with
    | nil =>
      intro i
      simp only [List.nil_append, initF]
      by_cases h : i < m <;> simp [List.getElem?_replicate, h]
    | cons a l ih =>
      intro i
      cases i with
      | zero => simp [initF]
      | succ i => simpa [initF] using ih i
  have h2 := this l i
  simpa [← List.toArray_replicate] using h2
def Rt (P : Program) (fn : Func) (T : Value → World → Prop) : Cn := fun f w => ∀ t : Array Value, (∀ i, t.getD i undef = f i) → ∃ v, (results fn t).run P w = .ok v w ∧ T v w
theorem fn_of {g : FuncId} {fn : Func} {c : Code} {args : List Value} {w : World} {T : Value → World → Prop} {n : Nat} (hf : P.funcs[g]? = some fn) (hb : fn.body = some c) (hn : fn.ntmps = n) (hl : Nat.ble args.length n = true)
    (h : Wp P n c (Rt P fn T) (fun _ _ _ => False) (Rt P fn T) (initF args) w) : Does P g args.toArray w T := by
  have hl' : args.length ≤ n := by simpa using hl
  refine calls_of_wp hf hb (wp_mono (h _ ⟨?_, rfl, ?_⟩) ?_)
  · simp [hn]; omega
  · intro i; rw [hn]; exact initF_get _ _ i
  ·
   intro e a w' q
   cases e with
   | normal =>
     obtain ⟨f', h1, h2⟩ := q
     obtain ⟨v, h3, h4⟩ := h2 a.tmps h1.get
     exact ⟨h1.defers, v, h3, v, rfl, h4⟩
   | ret =>
     obtain ⟨f', h1, h2⟩ := q
     obtain ⟨v, h3, h4⟩ := h2 a.tmps h1.get
     exact ⟨h1.defers, v, h3, v, rfl, h4⟩
   | exit i => obtain ⟨_, _, h2⟩ := q; exact h2.elim
   | _ => exact q.elim
variable {fn : Func} {T : Value → World → Prop} {f : Fr} {w : World}
theorem ret0 (hr : fn.results = #[]) (h : T (.tuple #[]) w) : Rt P fn T f w := fun t ht => ⟨_, results_none hr t P w, h⟩
theorem ret1 {i : Nat} {v : Value} (hr : fn.results = #[.tmp i]) (hv : f i = v) (h : T v w) : Rt P fn T f w := fun t ht => ⟨_, results_tmp hr t P w, by rw [ht, hv]; exact h⟩
theorem ret2 {i j : Nat} {u v : Value} (hr : fn.results = #[.tmp i, .tmp j]) (hu : f i = u) (hv : f j = v) (h : T (.tuple #[u, v]) w) : Rt P fn T f w := fun t ht => ⟨_, results_tmp2 hr t P w, by rw [ht, ht, hu, hv]; exact h⟩
theorem ret3 {i j k : Nat} {u v x : Value} (hr : fn.results = #[.tmp i, .tmp j, .tmp k]) (hu : f i = u) (hv : f j = v) (hx : f k = x) (h : T (.tuple #[u, v, x]) w) : Rt P fn T f w := fun t ht => ⟨_, results_tmp3 hr t P w, by rw [ht, ht, ht, hu, hv, hx]; exact h⟩
end enter
/-! numbers in range -/
theorem wr_i64 {z : Int} (h : -9223372036854775808 ≤ z ∧ z ≤ 9223372036854775807) : IntKind.i64.wrap z = z := IntWalk.i64_in _ h
theorem wr_u64 {z : Int} (h : 0 ≤ z ∧ z ≤ 18446744073709551615) : IntKind.u64.wrap z = z := by simp [IntKind.wrap, IntKind.bits, IntKind.signed]; omega
theorem wr_u8 {z : Int} (h : 0 ≤ z ∧ z ≤ 255) : IntKind.u8.wrap z = z := by simp [IntKind.wrap, IntKind.bits, IntKind.signed]; omega
theorem wr_i32 {z : Int} (h : -2147483648 ≤ z ∧ z ≤ 2147483647) : IntKind.i32.wrap z = z := by simp [IntKind.wrap, IntKind.bits, IntKind.signed]; omega
end Go.Proofs.YtgmeojpekdekeaaGreatDoor

namespace Go.Proofs.YtgmeojpekdekeaaGreatDoor
open Go Go.RowKit
set_option linter.unusedVariables false
set_option linter.unusedSimpArgs false
/-- A string's bytes, and bytes as a string. -/
def bs (s : ByteArray) : List UInt8 := s.data.toList
def sb (l : List UInt8) : ByteArray := ⟨l.toArray⟩
def bat (s : ByteArray) (i : Nat) : UInt8 := (bs s).getD i 0
section pure_ops
variable {P : Program} {w : World} {f : Fr} {dst : Option Tmp} {ty : TypeId} {pos : String} {af : Array Edge} {g : Option (Nat × Bool)}
theorem r_move {x : Operand} {v : Value} (h : ev f x = v) : (execOp (ev f) ⟨dst, .move x, ty, pos, af, g⟩).run P w = .ok (.value v) w := by subst h; rfl
theorem r_assign {x : Operand} {v : Value} (h : ev f x = v) : (execOp (ev f) ⟨dst, .assign x, ty, pos, af, g⟩).run P w = .ok (.value v) w := by subst h; rfl
theorem r_pick_t {c x y : Operand} {v : Value} (hc : ev f c = .bool true) (h : ev f x = v) : (execOp (ev f) ⟨dst, .pick c x y, ty, pos, af, g⟩).run P w = .ok (.value v) w := by
  subst h; simp [execOp, hc, asBool]
theorem r_pick_f {c x y : Operand} {v : Value} (hc : ev f c = .bool false) (h : ev f y = v) : (execOp (ev f) ⟨dst, .pick c x y, ty, pos, af, g⟩).run P w = .ok (.value v) w := by
  subst h; simp [execOp, hc, asBool]
section bin
variable {x y : Operand} {k k' : IntKind} {m n z : Int} {xt yt : TypeId}
theorem r_lss (hx : ev f x = .int k m) (hy : ev f y = .int k n) : (execOp (ev f) ⟨dst, .binOp .lss xt x y yt, ty, pos, af, g⟩).run P w = .ok (.value (.bool (decide (m < n)))) w := by
  simp [execOp, hx, hy, eqGuard, binOp, Op.intCmp]
theorem r_leq (hx : ev f x = .int k m) (hy : ev f y = .int k n) : (execOp (ev f) ⟨dst, .binOp .leq xt x y yt, ty, pos, af, g⟩).run P w = .ok (.value (.bool (decide (m ≤ n)))) w := by
  simp [execOp, hx, hy, eqGuard, binOp, Op.intCmp]
theorem r_gtr (hx : ev f x = .int k m) (hy : ev f y = .int k n) : (execOp (ev f) ⟨dst, .binOp .gtr xt x y yt, ty, pos, af, g⟩).run P w = .ok (.value (.bool (decide (n < m)))) w := by
  simp [execOp, hx, hy, eqGuard, binOp, Op.intCmp]
theorem r_geq (hx : ev f x = .int k m) (hy : ev f y = .int k n) : (execOp (ev f) ⟨dst, .binOp .geq xt x y yt, ty, pos, af, g⟩).run P w = .ok (.value (.bool (decide (n ≤ m)))) w := by
  simp [execOp, hx, hy, eqGuard, binOp, Op.intCmp]
theorem r_eql (hx : ev f x = .int k m) (hy : ev f y = .int k n) : (execOp (ev f) ⟨dst, .binOp .eql xt x y yt, ty, pos, af, g⟩).run P w = .ok (.value (.bool (decide (m = n)))) w := by
  simp [execOp, hx, hy, eqGuard, binOp, Op.intCmp]; rfl
theorem r_neq (hx : ev f x = .int k m) (hy : ev f y = .int k n) : (execOp (ev f) ⟨dst, .binOp .neq xt x y yt, ty, pos, af, g⟩).run P w = .ok (.value (.bool (decide (m ≠ n)))) w := by
  simp [execOp, hx, hy, eqGuard, binOp, Op.intCmp, bne]; rfl
theorem r_add (hx : ev f x = .int k m) (hy : ev f y = .int k n) (hz : k.wrap (m + n) = z) : (execOp (ev f) ⟨dst, .binOp .add xt x y yt, ty, pos, af, g⟩).run P w = .ok (.value (.int k z)) w := by
  subst hz; simp [execOp, hx, hy, eqGuard, binOp, Op.intArith]
theorem r_sub (hx : ev f x = .int k m) (hy : ev f y = .int k n) (hz : k.wrap (m - n) = z) : (execOp (ev f) ⟨dst, .binOp .sub xt x y yt, ty, pos, af, g⟩).run P w = .ok (.value (.int k z)) w := by
  subst hz; simp [execOp, hx, hy, eqGuard, binOp, Op.intArith]
theorem r_mul (hx : ev f x = .int k m) (hy : ev f y = .int k n) (hz : k.wrap (m * n) = z) : (execOp (ev f) ⟨dst, .binOp .mul xt x y yt, ty, pos, af, g⟩).run P w = .ok (.value (.int k z)) w := by
  subst hz; simp [execOp, hx, hy, eqGuard, binOp, Op.intArith]
theorem r_quo (hx : ev f x = .int k m) (hy : ev f y = .int k n) (h0 : n ≠ 0) (hz : k.wrap (m.tdiv n) = z) : (execOp (ev f) ⟨dst, .binOp .quo xt x y yt, ty, pos, af, g⟩).run P w = .ok (.value (.int k z)) w := by
  subst hz; simp [execOp, hx, hy, eqGuard, binOp, Op.intDiv, h0]
theorem r_rem (hx : ev f x = .int k m) (hy : ev f y = .int k n) (h0 : n ≠ 0) (hz : m.tmod n = z) : (execOp (ev f) ⟨dst, .binOp .rem xt x y yt, ty, pos, af, g⟩).run P w = .ok (.value (.int k z)) w := by
  subst hz; simp [execOp, hx, hy, eqGuard, binOp, Op.intDiv, h0]
theorem r_and (hx : ev f x = .int k m) (hy : ev f y = .int k n) : (execOp (ev f) ⟨dst, .binOp .and xt x y yt, ty, pos, af, g⟩).run P w = .ok (.value (.int k (bits .and k m n))) w := by
  simp [execOp, hx, hy, eqGuard, binOp]; rfl
theorem r_or (hx : ev f x = .int k m) (hy : ev f y = .int k n) : (execOp (ev f) ⟨dst, .binOp .or xt x y yt, ty, pos, af, g⟩).run P w = .ok (.value (.int k (bits .or k m n))) w := by
  simp [execOp, hx, hy, eqGuard, binOp]; rfl
theorem r_shl (hx : ev f x = .int k m) (hy : ev f y = .int k' n) (h0 : 0 ≤ n) (hz : k.wrap (m * 2 ^ min n.toNat k.bits) = z) : (execOp (ev f) ⟨dst, .binOp .shl xt x y yt, ty, pos, af, g⟩).run P w = .ok (.value (.int k z)) w := by
  subst hz; simp [execOp, hx, hy, eqGuard, binOp, shift_shl_any _ _ _ _ h0]
theorem r_shr (hx : ev f x = .int k m) (hy : ev f y = .int k' n) (h0 : 0 ≤ n) (hz : m / 2 ^ min n.toNat k.bits = z) : (execOp (ev f) ⟨dst, .binOp .shr xt x y yt, ty, pos, af, g⟩).run P w = .ok (.value (.int k z)) w := by
  subst hz; simp [execOp, hx, hy, eqGuard, binOp, shift_shr_any _ _ _ _ h0]
theorem r_not {b : Bool} (hx : ev f x = .bool b) : (execOp (ev f) ⟨dst, .unOp .not xt x, ty, pos, af, g⟩).run P w = .ok (.value (.bool (!b))) w := by
  simp [execOp, hx, unary_not]
theorem r_notp {p : Prop} [Decidable p] (hx : ev f x = .bool (decide p)) : (execOp (ev f) ⟨dst, .unOp .not xt x, ty, pos, af, g⟩).run P w = .ok (.value (.bool (decide (¬ p)))) w := by
  rw [r_not hx]; simp
theorem r_neg (hx : ev f x = .int k m) (hz : k.wrap (0 - m) = z) : (execOp (ev f) ⟨dst, .unOp .neg xt x, ty, pos, af, g⟩).run P w = .ok (.value (.int k z)) w := by
  subst hz; simp [execOp, hx, unary_neg, Op.intArith]
theorem r_adds {a b : ByteArray} (hx : ev f x = .string a) (hy : ev f y = .string b) (hl : a.size + b.size ≤ 9223372036854775807) : (execOp (ev f) ⟨dst, .binOp .add xt x y yt, ty, pos, af, g⟩).run P w = .ok (.value (.string (a ++ b))) w := by
  simp [execOp, hx, hy, eqGuard, binOp_string_add, run_string_add_sum w a b hl]
theorem toList_inj {a b : ByteArray} : (a.toList == b.toList) = decide (a = b) := by
  rw [ByteArray.toList_eq, ByteArray.toList_eq, Bool.eq_iff_iff, beq_iff_eq, decide_eq_true_eq]
  exact ⟨fun h => ByteArray.ext (Array.toList_inj.1 h), fun h => by rw [h]⟩
theorem r_eqls {a b : ByteArray} (hx : ev f x = .string a) (hy : ev f y = .string b) : (execOp (ev f) ⟨dst, .binOp .eql xt x y yt, ty, pos, af, g⟩).run P w = .ok (.value (.bool (decide (a = b)))) w := by
  simp only [← toList_inj]
  simp [execOp, hx, hy, eqGuard, binOp_string_eql]
theorem r_neqs {a b : ByteArray} (hx : ev f x = .string a) (hy : ev f y = .string b) : (execOp (ev f) ⟨dst, .binOp .neq xt x y yt, ty, pos, af, g⟩).run P w = .ok (.value (.bool (decide (a ≠ b)))) w := by
  have : decide (a ≠ b) = !(a.toList == b.toList) := by rw [toList_inj]; simp
  rw [this]
  simp [execOp, hx, hy, eqGuard, binOp_string_neq]
theorem r_neqb {a b : Bool} (hu : P.underlying xt = some .bool) (hx : ev f x = .bool a) (hy : ev f y = .bool b) : (execOp (ev f) ⟨dst, .binOp .neq xt x y yt, ty, pos, af, g⟩).run P w = .ok (.value (.bool (decide (a ≠ b)))) w := by
  have e : (!(a == b)) = decide (a ≠ b) := by cases a <;> cases b <;> rfl
  rw [← e]
  simp [execOp, hx, hy, eqGuard, run_neq_bool w xt a b hu]
theorem r_conv {s d : TypeId} {dd : TypeDesc} (hs : P.underlying s = some dd) (hd : P.underlying d = some (.int k')) (hx : ev f x = .int k m) (hz : k'.wrap m = z) : (execOp (ev f) ⟨dst, .convert s d x, ty, pos, af, g⟩).run P w = .ok (.value (.int k' z)) w := by
  subst hz
  have : P.intKind d = k' := by simp [Program.intKind, hd]
  simp [execOp, hx, convert, run_underlying hs, run_underlying hd, Conv.intToInt]
end bin
theorem r_lens {x : Operand} {t : TypeId} {s : ByteArray} (hu : P.underlying t = some .string) (hx : ev f x = .string s) : (execOp (ev f) ⟨dst, .call { callee := .builtin .len, args := #[x], argTypes := #[t] }, ty, pos, af, g⟩).run P w = .ok (.value (.int .i64 s.size)) w := by
  simp [execOp, resolve, invoke, builtin, hx, run_len_string w t _ s hu, goInt]
theorem r_len {x : Operand} {t e : TypeId} {A : Option Addr} {l c : Nat} (hu : P.underlying t = some (.slice e)) (hx : ev f x = .slice A l c) : (execOp (ev f) ⟨dst, .call { callee := .builtin .len, args := #[x], argTypes := #[t] }, ty, pos, af, g⟩).run P w = .ok (.value (.int .i64 l)) w := by
  have he : P.elem t = e := by simp [Program.elem, hu]
  simp [execOp, resolve, invoke, builtin, hx, run_len_slice w t _ A l c (by rw [he]; exact hu), goInt]
theorem r_indexs {x y : Operand} {t : TypeId} {s : ByteArray} {k : IntKind} {i : Int} (hu : P.underlying t = some .string) (hx : ev f x = .string s) (hy : ev f y = .int k i) (h0 : 0 ≤ i) (h : i.toNat < s.size) {j : Nat} (hj : i.toNat = j) :
    (execOp (ev f) ⟨dst, .index t x y, ty, pos, af, g⟩).run P w = .ok (.value (.int .u8 ((bat s j).toNat : Int))) w := by
  subst hj
  have h' : i < (s.size : Int) := by omega
  have h2 : i.toNat < s.data.size := h
  have e : bat s i.toNat = s[i.toNat]'h := by
    simp only [bat, bs, List.getD_eq_getElem?_getD, Array.getElem?_toList, Array.getElem?_eq_getElem h2, Option.getD_some]; rfl
  simp [execOp, hx, hy, run_index_string w t s k i hu, h0, h', e]
theorem r_slices {kl kh : IntKind} {x : Operand} {lo hi : Option Operand} {t : TypeId} {s : ByteArray} {l h : Int} (hu : P.underlying t = some .string) (hx : ev f x = .string s)
    (hlo : lo.map (ev f) = some (.int kl l)) (hhi : hi.map (ev f) = some (.int kh h)) (h0 : 0 ≤ l) (h1 : l ≤ h) (h2 : h ≤ s.size) :
    (execOp (ev f) ⟨dst, .slice t x lo hi none, ty, pos, af, g⟩).run P w = .ok (.value (.string (s.extract l.toNat h.toNat))) w := by
  have h3 : h ≤ (s.size : Int) := h2
  simp [execOp, hx, hlo, hhi, run_sliceAt_string w t _ _ _ _ hu, run_slice_string w t s kl kh l h hu, h0, h1, h3]
theorem r_slices_h {kh : IntKind} {x : Operand} {hi : Option Operand} {t : TypeId} {s : ByteArray} {h : Int} (hu : P.underlying t = some .string) (hx : ev f x = .string s)
    (hhi : hi.map (ev f) = some (.int kh h)) (h1 : 0 ≤ h) (h2 : h ≤ s.size) :
    (execOp (ev f) ⟨dst, .slice t x none hi none, ty, pos, af, g⟩).run P w = .ok (.value (.string (s.extract 0 h.toNat))) w := by
  simp [execOp, hx, hhi, run_sliceAt_string w t _ _ _ _ hu, run_slice_string_h w t s hu kh h h1 h2]
theorem r_slices_l {kl : IntKind} {x : Operand} {lo : Option Operand} {t : TypeId} {s : ByteArray} {l : Int} (hu : P.underlying t = some .string) (hx : ev f x = .string s)
    (hlo : lo.map (ev f) = some (.int kl l)) (h0 : 0 ≤ l) (h1 : l ≤ s.size) :
    (execOp (ev f) ⟨dst, .slice t x lo none none, ty, pos, af, g⟩).run P w = .ok (.value (.string (s.extract l.toNat s.size))) w := by
  simp [execOp, hx, hlo, run_sliceAt_string w t _ _ _ _ hu, run_slice_string_l w t s hu kl l h0 h1]
theorem r_func {fn : Go.Fn} {first cap : Array Operand} {c1 c2 : Array Value} (h1 : first.map (ev f) = c1) (h2 : cap.map (ev f) = c2) : (execOp (ev f) ⟨dst, .makeFunc fn first cap, ty, pos, af, g⟩).run P w = .ok (.value (.func fn c1 c2)) w := by
  subst h1 h2; rfl
theorem r_extract {x : Operand} {i : Nat} {vs : Array Value} {v : Value} (hx : ev f x = .tuple vs) (hv : vs[i]? = some v) : (execOp (ev f) ⟨dst, .extract x i, ty, pos, af, g⟩).run P w = .ok (.value v) w := by
  simp [execOp, hx, Instr.extract, hv]
theorem r_ext2_0 {x : Operand} {a b : Value} (hx : ev f x = .tuple #[a, b]) : (execOp (ev f) ⟨dst, .extract x 0, ty, pos, af, g⟩).run P w = .ok (.value a) w := r_extract hx rfl
theorem r_ext2_1 {x : Operand} {a b : Value} (hx : ev f x = .tuple #[a, b]) : (execOp (ev f) ⟨dst, .extract x 1, ty, pos, af, g⟩).run P w = .ok (.value b) w := r_extract hx rfl
theorem r_ext3_0 {x : Operand} {a b c : Value} (hx : ev f x = .tuple #[a, b, c]) : (execOp (ev f) ⟨dst, .extract x 0, ty, pos, af, g⟩).run P w = .ok (.value a) w := r_extract hx rfl
theorem r_ext3_1 {x : Operand} {a b c : Value} (hx : ev f x = .tuple #[a, b, c]) : (execOp (ev f) ⟨dst, .extract x 1, ty, pos, af, g⟩).run P w = .ok (.value b) w := r_extract hx rfl
theorem r_ext3_2 {x : Operand} {a b c : Value} (hx : ev f x = .tuple #[a, b, c]) : (execOp (ev f) ⟨dst, .extract x 2, ty, pos, af, g⟩).run P w = .ok (.value c) w := r_extract hx rfl
/-- A call of a function by its name, or of a function value. -/
theorem r_call {c : Operand} {args : Array Operand} {ts : Array TypeId} {fid : FuncId} {cap first : Array Value} {l : List Value} {fn : Func} {bd : Code} (hf : P.funcs[fid]? = some fn) (hn : (fn.name == "runtime.NumGoroutine") = false) (hb : fn.body = some bd)
    (hc : ev f c = .func (.func fid) first cap) (ha : first.toList ++ args.toList.map (ev f) ++ cap.toList = l) :
    (execOp (ev f) ⟨dst, .call { callee := .value c, args := args, argTypes := ts }, ty, pos, af, g⟩).run P w = .ok (.enter fid l.toArray) w := by
  have hn' : ¬ fn.name = "runtime.NumGoroutine" := by simpa using hn
  have hl : l.toArray = first ++ args.map (ev f) ++ cap := by rw [← ha]; simp
  simp [execOp, resolve, hc, Deferred.ofValue, invoke, callFunc, hf, hn', hb, hl]
theorem r_shrc {x y : Operand} {k k' : IntKind} {m n q : Int} {xt yt : TypeId} (hx : ev f x = .int k m) (hy : ev f y = .int k' n) (h0 : 0 ≤ n) (hq : (2 : Int) ^ min n.toNat k.bits = q) : (execOp (ev f) ⟨dst, .binOp .shr xt x y yt, ty, pos, af, g⟩).run P w = .ok (.value (.int k (m / q))) w :=
  r_shr hx hy h0 (by rw [hq])
theorem r_quon {x y : Operand} {k : IntKind} {m n z : Int} {xt yt : TypeId} (hx : ev f x = .int k m) (hy : ev f y = .int k n) (h0 : 0 ≤ m) (h1 : 0 < n) (hz : k.wrap (m / n) = z) : (execOp (ev f) ⟨dst, .binOp .quo xt x y yt, ty, pos, af, g⟩).run P w = .ok (.value (.int k z)) w :=
  r_quo hx hy (by omega) (by rw [Int.tdiv_eq_ediv_of_nonneg h0, hz])
theorem r_remn {x y : Operand} {k : IntKind} {m n : Int} {xt yt : TypeId} (hx : ev f x = .int k m) (hy : ev f y = .int k n) (h0 : 0 ≤ m) (h1 : 0 < n) : (execOp (ev f) ⟨dst, .binOp .rem xt x y yt, ty, pos, af, g⟩).run P w = .ok (.value (.int k (m % n))) w :=
  r_rem hx hy (by omega) (Int.tmod_eq_emod_of_nonneg h0)
end pure_ops
/-! ### the world's blocks -/
/-- Of the blocks that stood, only those of S may have turned. -/
structure Ch (S : Nat → Prop) (w w' : World) : Prop where
  os : w'.os = w.os
  tape : w'.tape = w.tape
  output : w'.output = w.output
  size : w.heap.size ≤ w'.heap.size
  blk : ∀ i, i < w.heap.size → ¬ S i → w'.heap[i]? = w.heap[i]?
def no : Nat → Prop := fun _ => False
abbrev Nw := Ch no
theorem not_no {i : Nat} : ¬ no i := fun h => h
theorem Ch.refl {S : Nat → Prop} (w : World) : Ch S w w := ⟨rfl, rfl, rfl, Nat.le_refl _, fun _ _ _ => rfl⟩
theorem Ch.trans {S : Nat → Prop} {a b c : World} (h : Ch S a b) (k : Ch S b c) : Ch S a c :=
  ⟨k.os.trans h.os, k.tape.trans h.tape, k.output.trans h.output, Nat.le_trans h.size k.size, fun i hi hn => (k.blk i (Nat.lt_of_lt_of_le hi h.size) hn).trans (h.blk i hi hn)⟩
theorem Ch.mono {S T : Nat → Prop} {a b : World} (h : Ch S a b) (hs : ∀ i, i < a.heap.size → S i → T i) : Ch T a b := ⟨h.os, h.tape, h.output, h.size, fun i hi hn => h.blk i hi fun x => hn (hs i hi x)⟩
theorem Ch.nw {T : Nat → Prop} {a b : World} (h : Nw a b) : Ch T a b := h.mono fun _ _ x => x.elim
/-- Changes to blocks that weren't there are none. -/
theorem Ch.fresh {S T : Nat → Prop} {a b c : World} (h : Ch T a b) (k : Ch S b c) (hs : ∀ i, i < a.heap.size → S i → T i) : Ch T a c :=
  ⟨k.os.trans h.os, k.tape.trans h.tape, k.output.trans h.output, Nat.le_trans h.size k.size, fun i hi hn => (k.blk i (Nat.lt_of_lt_of_le hi h.size) (fun x => hn (hs i hi x))).trans (h.blk i hi hn)⟩
theorem Ch.get {S : Nat → Prop} {w w' : World} {i : Nat} {o : Obj} (c : Ch S w w') (hS : ¬ S i) (hb : w.heap[i]? = some o) : w'.heap[i]? = some o := (c.blk i (lt_of_block hb) hS).trans hb
theorem Ch.below {w w' : World} (c : Nw w w') : Below w.heap.size w w' := ⟨c.os, c.tape, c.output, c.size, fun i hi => c.blk i hi (fun x => x)⟩
theorem Ch.of_below {w w' : World} (c : Below w.heap.size w w') : Nw w w' := ⟨c.os, c.tape, c.output, c.size, fun i hi _ => c.block i hi⟩
theorem Ch.of_grown {w w' : World} {row : Option Nat} (h : w.grownBy w' row) : Ch (fun i => row = some i) w w' := ⟨h.os, h.tape, h.output, h.size, fun i hi hn => h.block i hi (fun e => hn e.symm)⟩
theorem Ch.drew (w : World) : Nw w w.drew := ⟨rfl, rfl, rfl, Nat.le_refl _, fun _ _ _ => rfl⟩
theorem Ch.alloc (w : World) (o : Obj) : Nw w (w.alloc o) := ⟨rfl, rfl, rfl, by simp, fun i hi _ => Below.heap_alloc w o i hi⟩
theorem Ch.set (w : World) (a : Addr) (v : Value) : Ch (fun i => i = a.block) w (w.setCell a v) := ⟨rfl, rfl, rfl, by simp [World.setCell], fun i _ hn => Below.heap_setCell w a v i hn⟩
theorem Ch.setRow (w : World) (b : Nat) (cs : Array Value) : Ch (fun i => i = b) w (w.setRow b cs) := ⟨rfl, rfl, rfl, by simp [World.setRow], fun i _ hn => by simp [World.setRow, Array.getElem?_modify, Ne.symm hn]⟩
theorem add_lit (b o m : Nat) : (⟨b, o, none⟩ : Addr).add m = ⟨b, o + m, none⟩ := by
  unfold Addr.add
  split
  · rename_i h; subst h; rfl
  · rfl
/-- A block that may be written: what it holds, of which type. -/
def Bk (w : World) (b : Nat) (cs : Array Value) (t : TypeId) : Prop := ∃ fr : Nat × Nat, w.heap[b]? = some (.cells cs t fr) ∧ (fr = (0, 0) ∨ cs.size ≤ fr.1)
theorem Bk.of {w : World} {b : Nat} {cs : Array Value} {t : TypeId} (h : w.heap[b]? = some (.cells cs t (0, 0))) : Bk w b cs t := ⟨_, h, .inl rfl⟩
theorem Bk.lt {w : World} {b : Nat} {cs : Array Value} {t : TypeId} (h : Bk w b cs t) : b < w.heap.size := by obtain ⟨_, h, _⟩ := h; exact lt_of_block h
theorem Bk.ch {S : Nat → Prop} {w w' : World} {b : Nat} {cs : Array Value} {t : TypeId} (c : Ch S w w') (hS : ¬ S b) (h : Bk w b cs t) : Bk w' b cs t := by
  obtain ⟨fr, h, k⟩ := h; exact ⟨fr, c.get hS h, k⟩
theorem Bk.cell {w : World} {b i : Nat} {cs : Array Value} {t : TypeId} (h : Bk w b cs t) : w.cell? ⟨b, i, none⟩ = cs[i]? := by obtain ⟨fr, h, _⟩ := h; exact cell_of_row w b i cs t fr h
theorem Bk.free {w : World} {b i : Nat} {cs : Array Value} {t : TypeId} (h : Bk w b cs t) (hi : i < cs.size) : w.frozen? ⟨b, i, none⟩ = false := by
  obtain ⟨fr, h, k⟩ := h
  simp only [World.frozen?, h]
  rcases k with rfl | k
  · simp
  ·
   have : ¬ fr.1 ≤ i := by omega
   simp [this]
theorem Bk.set {w : World} {b i : Nat} {cs : Array Value} {t : TypeId} {v : Value} (h : Bk w b cs t) : Bk (w.setCell ⟨b, i, none⟩ v) b (cs.setIfInBounds i v) t := by
  obtain ⟨fr, h, k⟩ := h
  refine ⟨fr, ?_, by simpa using k⟩
  simp [World.setCell, Array.getElem?_modify, h]
theorem Bk.new (w : World) (cs : Array Value) (t : TypeId) : Bk (w.alloc (.cells cs t)) w.heap.size cs t := .of (heap_alloc_new w _)
theorem Bk.ne {w : World} {b b' : Nat} {cs cs' : Array Value} {t t' : TypeId} (h : Bk w b cs t) (h' : Bk w b' cs' t') (hne : t ≠ t') : b ≠ b' := by
  rintro rfl
  obtain ⟨_, h, _⟩ := h
  obtain ⟨_, h', _⟩ := h'
  rw [h] at h'
  injection h' with h'
  injection h' with _ h'
  exact hne h'
/-- Block i of w stands in w'. -/
def Sm (w w' : World) (i : Nat) : Prop := w.heap.size ≤ w'.heap.size ∧ (i < w.heap.size → w'.heap[i]? = w.heap[i]?)
theorem Sm.refl (w : World) (i : Nat) : Sm w w i := ⟨Nat.le_refl _, fun _ => rfl⟩
theorem Sm.step {S : Nat → Prop} {w w1 w2 : World} {i : Nat} (c : Ch S w1 w2) (hS : i < w.heap.size → ¬ S i) (h : Sm w w1 i) : Sm w w2 i :=
  ⟨Nat.le_trans h.1 c.size, fun hi => (c.blk i (Nat.lt_of_lt_of_le hi h.1) (hS hi)).trans (h.2 hi)⟩
theorem Bk.to {w w' : World} {b : Nat} {cs : Array Value} {t : TypeId} (h : Bk w b cs t) (c : Sm w w' b) : Bk w' b cs t := by
  have hl := h.lt
  obtain ⟨fr, h, k⟩ := h
  exact ⟨fr, (c.2 hl).trans h, k⟩
/-- A block that may be read: what it holds, of which type. -/
def Rk (w : World) (b : Nat) (cs : Array Value) (t : TypeId) : Prop := ∃ fr : Nat × Nat, w.heap[b]? = some (.cells cs t fr)
theorem Bk.rk {w : World} {b : Nat} {cs : Array Value} {t : TypeId} (h : Bk w b cs t) : Rk w b cs t := by obtain ⟨fr, h, _⟩ := h; exact ⟨fr, h⟩
theorem Rk.lt {w : World} {b : Nat} {cs : Array Value} {t : TypeId} (h : Rk w b cs t) : b < w.heap.size := by obtain ⟨_, h⟩ := h; exact lt_of_block h
theorem Rk.ch {S : Nat → Prop} {w w' : World} {b : Nat} {cs : Array Value} {t : TypeId} (c : Ch S w w') (hS : ¬ S b) (h : Rk w b cs t) : Rk w' b cs t := by
  obtain ⟨fr, h⟩ := h; exact ⟨fr, c.get hS h⟩
theorem Rk.cell {w : World} {b i : Nat} {cs : Array Value} {t : TypeId} (h : Rk w b cs t) : w.cell? ⟨b, i, none⟩ = cs[i]? := by obtain ⟨fr, h⟩ := h; exact cell_of_row w b i cs t fr h
theorem Rk.to {w w' : World} {b : Nat} {cs : Array Value} {t : TypeId} (h : Rk w b cs t) (c : Sm w w' b) : Rk w' b cs t := by
  have hl := h.lt
  obtain ⟨fr, h⟩ := h
  exact ⟨fr, (c.2 hl).trans h⟩
section mem_ops
variable {P : Program} {n : Nat} {ops : Array Oper} {rest : List Oper} {N : Cn} {w : World} {f : Fr} {d : Tmp} {ty : TypeId} {pos : String} {af : Array Edge} {g : Option (Nat × Bool)}
/-- A new block: its number, what it holds. -/
theorem L_new {o : Oper} {cs : Array Value} {t : TypeId} (hw : Wants ops f o) (hd : o.dst = some d) (hn : Nat.blt d n = true) (hr : (execOp (ev f) o).run P w = .ok (.value (.pointer (some ⟨w.heap.size, 0, none⟩))) (w.alloc (.cells cs t)))
    (h : ∀ w1 b, Bk w1 b cs t → b = w.heap.size → w1.heap.size = b + 1 → Nw w w1 → Wl P n ops rest N (upd f d (.pointer (some ⟨b, 0, none⟩))) w1) : Wl P n ops (o :: rest) N f w :=
  L_run hw hd hn hr (h _ _ (Bk.new w _ _) rfl (by simp) (Ch.alloc w _))
/-- A store into a block. -/
theorem L_set {o : Oper} {b i : Nat} {v : Value} {cs : Array Value} {t : TypeId} (hw : Wants ops f o) (hd : o.dst = none) (hb : Bk w b cs t) (hr : (execOp (ev f) o).run P w = .ok .skip (w.setCell ⟨b, i, none⟩ v))
    (h : ∀ w1, Bk w1 b (cs.setIfInBounds i v) t → w1.heap.size = w.heap.size → Ch (fun j => j = b) w w1 → Wl P n ops rest N f w1) : Wl P n ops (o :: rest) N f w :=
  L_do hw hd hr (h _ hb.set (by simp [World.setCell]) (Ch.set w ⟨b, i, none⟩ v))
variable {dst : Option Tmp}
theorem r_box {x : Operand} {e : TypeId} {v : Value} (hx : ev f x = v) : (execOp (ev f) ⟨dst, .box e x, ty, pos, af, g⟩).run P w = .ok (.value (.pointer (some ⟨w.heap.size, 0, none⟩))) (w.alloc (.cells v.cells e)) := by
  subst hx; rfl
theorem r_boxa {x : Operand} {e : TypeId} {cs : Array Value} (hx : ev f x = .agg cs) : (execOp (ev f) ⟨dst, .box e x, ty, pos, af, g⟩).run P w = .ok (.value (.pointer (some ⟨w.heap.size, 0, none⟩))) (w.alloc (.cells cs e)) := r_box hx
theorem r_box1 {x : Operand} {e : TypeId} {v : Value} (hx : ev f x = v) (h1 : v.oneCell' = true) : (execOp (ev f) ⟨dst, .box e x, ty, pos, af, g⟩).run P w = .ok (.value (.pointer (some ⟨w.heap.size, 0, none⟩))) (w.alloc (.cells #[v] e)) := by
  have : v.cells = #[v] := by cases v <;> first | rfl | (simp [Value.oneCell'] at h1)
  rw [r_box hx, this]
theorem r_alloc {e : TypeId} {z : Value} (hz : (P.info? e).bind (·.zero) = some z) : (execOp (ev f) ⟨dst, .alloc e, ty, pos, af, g⟩).run P w = .ok (.value (.pointer (some ⟨w.heap.size, 0, none⟩))) (w.alloc (.cells z.cells e)) := by
  cases hi : P.info? e with
  | none => rw [hi] at hz; cases hz
  | some i =>
    rw [hi] at hz
    simp only [Option.bind_some] at hz
    simp [execOp, Instr.alloc, zeroValue, typeInfo, hi, hz, newVar, newRow]
theorem r_alloca {e : TypeId} {cs : Array Value} (hz : (P.info? e).bind (·.zero) = some (.agg cs)) : (execOp (ev f) ⟨dst, .alloc e, ty, pos, af, g⟩).run P w = .ok (.value (.pointer (some ⟨w.heap.size, 0, none⟩))) (w.alloc (.cells cs e)) := r_alloc hz
theorem r_alloc1 {e : TypeId} {z : Value} (hz : (P.info? e).bind (·.zero) = some z) (h1 : z.oneCell' = true) : (execOp (ev f) ⟨dst, .alloc e, ty, pos, af, g⟩).run P w = .ok (.value (.pointer (some ⟨w.heap.size, 0, none⟩))) (w.alloc (.cells #[z] e)) := by
  have : z.cells = #[z] := by cases z <;> first | rfl | (simp [Value.oneCell'] at h1)
  rw [r_alloc hz, this]
/-- A type of one cell. -/
def flat (P : Program) (t : TypeId) : Bool := match P.underlying t with
  | some (.struct _) | some (.array _ _) | none => false
  | _ => true
theorem isAgg_flat {t : TypeId} (h : flat P t = true) (w : World) : (isAgg t).run P w = .ok false w := by
  unfold flat at h
  cases hu : P.underlying t with
  | none => rw [hu] at h; cases h
  | some d =>
    rw [hu] at h
    unfold isAgg
    rw [Sem.run_bind, run_underlying hu w]
    cases d <;> simp_all
theorem r_load {x : Operand} {t : TypeId} {a : Addr} {v : Value} (ht : flat P t = true) (hx : ev f x = .pointer (some a)) (hv : w.cell? a = some v) : (execOp (ev f) ⟨dst, .load t x, ty, pos, af, g⟩).run P w = .ok (.value v) w := by
  simp [execOp, hx, Instr.loadAt, Instr.sureAddr, loadVar, Sem.run_bind, isAgg_flat ht, run_load, hv]
theorem r_loadb {x : Operand} {t : TypeId} {b i : Nat} {cs : Array Value} {e : TypeId} {v : Value} (ht : flat P t = true) (hx : ev f x = .pointer (some ⟨b, i, none⟩)) (hb : Bk w b cs e) (hv : cs[i]? = some v) : (execOp (ev f) ⟨dst, .load t x, ty, pos, af, g⟩).run P w = .ok (.value v) w :=
  r_load ht hx (hb.cell.trans hv)
theorem r_loadrow {x : Operand} {t : TypeId} {b : Nat} {cs : Array Value} {e : TypeId} {dd : TypeDesc} (hu : P.underlying t = some dd) (hd : (match dd with | .struct _ | .array _ _ => true | _ => false) = true)
    (hx : ev f x = .pointer (some ⟨b, 0, none⟩)) (hb : Bk w b cs e) (hi : (P.info? t).map (·.size) = some cs.size) : (execOp (ev f) ⟨dst, .load t x, ty, pos, af, g⟩).run P w = .ok (.value (.agg cs)) w := by
  obtain ⟨fr, hb, _⟩ := hb
  unfold execOp
  simp only [hx, Instr.loadAt, Instr.sureAddr, Sem.run_bind, Sem.run_pure, Result.andThen_ok, run_loadVar_row w b e t cs fr dd hb hu hd hi]
theorem r_store {x y : Operand} {t : TypeId} {b i : Nat} {v : Value} {cs : Array Value} {e : TypeId} (ht : (P.info? t).map (·.size) = some 1) (hx : ev f x = .pointer (some ⟨b, i, none⟩)) (hy : ev f y = v) (h1 : v.oneCell' = true) (hb : Bk w b cs e) (hi : i < cs.size) :
    (execOp (ev f) ⟨dst, .store t x y, ty, pos, af, g⟩).run P w = .ok .skip (w.setCell ⟨b, i, none⟩ v) := by
  have hc : w.cell? ⟨b, i, none⟩ = some cs[i] := by rw [hb.cell]; simp [hi]
  have hf := hb.free hi
  have hs : (storeVar t ⟨b, i, none⟩ v).run P w = .ok () (w.setCell ⟨b, i, none⟩ v) := by
    obtain ⟨inf, hi1, hi2⟩ := Option.map_eq_some_iff.1 ht
    have hcl : v.cells = #[v] := by cases v <;> first | rfl | (simp [Value.oneCell'] at h1)
    simp [storeVar, sizeOf, typeInfo, hi1, hi2, hcl, storeCells, run_store P w ⟨b, i, none⟩ v .plain h1, hc, hf, Addr.add]
  simp [execOp, hx, hy, Instr.storeAt, Instr.sureAddr, Sem.run_bind, hs]
/-- A whole struct or array into a block. -/
theorem r_storerow {x y : Operand} {t : TypeId} {b : Nat} {cs old : Array Value} {e : TypeId} (hx : ev f x = .pointer (some ⟨b, 0, none⟩)) (hy : ev f y = .agg cs) (hb : Bk w b old e) (hz : old.size = cs.size) (hi : (P.info? t).map (·.size) = some cs.size) (h1 : cs.all (·.oneCell') = true) :
    ∃ w', (execOp (ev f) ⟨dst, .store t x y, ty, pos, af, g⟩).run P w = .ok .skip w' ∧ Bk w' b cs e ∧ w'.heap.size = w.heap.size ∧ Ch (fun j => j = b) w w' := by
  have key : ∀ (vs : List Value) (i : Nat) (cur : Array Value) (w : World), Bk w b cur e → i + vs.length = cur.size → (∀ v ∈ vs, v.oneCell' = true) →
      ∃ w', (storeCells ⟨b, 0, none⟩ vs i).run P w = .ok () w' ∧ Bk w' b (cur.extract 0 i ++ vs.toArray) e ∧ w'.heap.size = w.heap.size ∧ Ch (fun j => j = b) w w' := by
    intro vs
    induction vs with
    | nil =>
      intro i cur w hc hl _
      refine ⟨w, by simp [storeCells], ?_, rfl, Ch.refl w⟩
      have : i = cur.size := by simpa using hl
      subst this
      simpa using hc
    | cons v vs ih =>
      intro i cur w hc hl hv
      have hlt : i < cur.size := by simp only [List.length_cons] at hl; omega
      have hcell : w.cell? ⟨b, i, none⟩ = some cur[i] := by rw [hc.cell]; simp [hlt]
      obtain ⟨w', h1, h2, h3, h4⟩ := ih (i + 1) (cur.setIfInBounds i v) (w.setCell ⟨b, i, none⟩ v) hc.set (by simp only [List.length_cons] at hl; simp; omega) (fun u hu => hv u (List.mem_cons_of_mem _ hu))
      refine ⟨w', ?_, ?_, by rw [h3]; simp [World.setCell], (Ch.set w ⟨b, i, none⟩ v).trans h4⟩
      ·
       have ha : (⟨b, 0, none⟩ : Addr).add i = ⟨b, i, none⟩ := by rw [add_lit]; simp
       simp [storeCells, Sem.run_bind, ha, run_store P w ⟨b, i, none⟩ v .plain (hv v List.mem_cons_self), hcell, hc.free hlt, h1]
      ·
       have : (cur.setIfInBounds i v).extract 0 (i + 1) ++ vs.toArray = cur.extract 0 i ++ (v :: vs).toArray := by
         apply Array.ext
         · simp only [List.length_cons] at hl; simp; omega
         ·
          intro k k1 k2
          simp only [List.length_cons] at hl
          simp only [Array.getElem_append, Array.size_extract, Array.size_setIfInBounds, Array.getElem_extract, Array.getElem_setIfInBounds, List.getElem_toArray]
          by_cases e1 : k < i
          ·
           rw [dif_pos (by omega), dif_pos (by omega)]
           simp only [Nat.zero_add]
           exact Array.getElem_setIfInBounds_ne (by omega) (by omega)
          ·
           by_cases e2 : k = i
           ·
            subst e2
            rw [dif_pos (by omega), dif_neg (by omega)]
            simp [show min k cur.size = k by omega]
           ·
            rw [dif_neg (by omega), dif_neg (by omega)]
            simp [show min (i + 1) cur.size = i + 1 by omega, show min i cur.size = i by omega, show k - i = (k - (i + 1)) + 1 by omega]
       rw [this] at h2
       exact h2
  obtain ⟨w', h2, h3, h4, h5⟩ := key cs.toList 0 old w hb (by simp; omega) (fun v hv => (Array.all_eq_true_iff_forall_mem.1 h1) v (by simpa using hv))
  obtain ⟨inf, hi1, hi2⟩ := Option.map_eq_some_iff.1 hi
  refine ⟨w', ?_, by simpa using h3, h4, h5⟩
  simp [execOp, hx, hy, Instr.storeAt, Instr.sureAddr, Sem.run_bind, storeVar, sizeOf, typeInfo, hi1, hi2, Value.cells, h2]
theorem L_storerow {n : Nat} {x y : Operand} {t : TypeId} {b : Nat} {cs old : Array Value} {e : TypeId} {ops : Array Oper} (hw : Wants ops f ⟨none, .store t x y, ty, pos, af, g⟩) (hx : ev f x = .pointer (some ⟨b, 0, none⟩)) (hy : ev f y = .agg cs) (hb : Bk w b old e) (hz : old.size = cs.size) (hi : (P.info? t).map (·.size) = some cs.size) (h1 : cs.all (·.oneCell') = true)
    (h : ∀ w1, Bk w1 b cs e → w1.heap.size = w.heap.size → Ch (fun j => j = b) w w1 → Wl P n ops rest N f w1) : Wl P n ops (⟨none, .store t x y, ty, pos, af, g⟩ :: rest) N f w := by
  obtain ⟨w', h2, h3, h4, h5⟩ := r_storerow (P := P) (ty := ty) (pos := pos) (af := af) (g := g) (dst := none) hx hy hb hz hi h1
  exact L_do hw rfl h2 (h w' h3 h4 h5)
/-! places -/
theorem r_idxarr {x y : Operand} {t e : TypeId} {m sz b o : Nat} {k : IntKind} {i : Int} (hu : P.underlying t = some (.array m e)) (hz : (P.info? e).map (·.size) = some sz) (hx : ev f x = .pointer (some ⟨b, o, none⟩)) (hy : ev f y = .int k i) (h0 : 0 ≤ i) (h1 : i < m) {j : Nat} (hj : o + i.toNat * sz = j) :
    (execOp (ev f) ⟨dst, .indexAddr t x y, ty, pos, af, g⟩).run P w = .ok (.value (.pointer (some ⟨b, j, none⟩))) w := by
  subst hj
  obtain ⟨inf, hi1, hi2⟩ := Option.map_eq_some_iff.1 hz
  have he : P.elem t = e := by simp [Program.elem, hu]
  have hl : P.arrayLen t = m := by simp [Program.arrayLen, hu]
  simp [execOp, hx, hy, run_indexAt_array w t _ k i (by rw [he, hl]; exact hu), he, hl, h0, h1, sizeOf, typeInfo, hi1, hi2, add_lit]
theorem r_ret_row {fn : Func} {T : Value → World → Prop} {p : Nat} {t e : TypeId} {b : Nat} {cs : Array Value} {dd : TypeDesc} (hr : fn.results = #[.cell p t]) (hp : f p = .pointer (some ⟨b, 0, none⟩)) (hu : P.underlying t = some dd) (hd : (match dd with | .struct _ | .array _ _ => true | _ => false) = true) (hb : Bk w b cs e) (hi : (P.info? t).map (·.size) = some cs.size) (h : T (.agg cs) w) : Rt P fn T f w := fun tm ht => by
  obtain ⟨fr, hb, _⟩ := hb
  exact ⟨_, results_cell_row hr tm w b e cs fr dd (by rw [ht]; exact hp) hb hu hd hi, h⟩
end mem_ops
end Go.Proofs.YtgmeojpekdekeaaGreatDoor

namespace Go.Proofs.YtgmeojpekdekeaaGreatDoor
open Go Go.RowKit
set_option linter.unusedVariables false
set_option linter.unusedSimpArgs false
/-! ### whatever order: behind each operation that is carried out S holds, but for the last one, number kk -/
section anyK
variable {P : Program} {ops : Array Oper} {Q : Exit → Act → World → Prop} {md : Region.Mode} {S : World → Prop} {kk : Nat}
def anyK (P : Program) (md : Region.Mode) (ops : Array Oper) (Q : Exit → Act → World → Prop) (S : World → Prop) (kk : Nat) : Nat → Array Bool → Act → World → Prop
  | 0, listed, a, w => Region.ready md ops listed = [] ∧ Q .normal a w
  | fuel + 1, listed, a, w =>
    (Region.ready md ops listed = [] → Q .normal a w) ∧
    ∀ i ∈ Region.ready md ops listed, wpOp P ops Q i (fun a' w' => (i ≠ kk → S w') ∧ anyK P md ops Q S kk fuel (listed.setIfInBounds i true) a' w') a w
theorem wpAny_of_anyK : ∀ (fuel : Nat) (listed : Array Bool) (a : Act) (w : World), anyK P md ops Q S kk fuel listed a w → wpAny P md ops Q fuel listed a w
  | 0, _, _, _, h => h
  | fuel + 1, _, _, _, h => ⟨h.1, fun i hi => wpOp_mono (fun a' w' h' => wpAny_of_anyK fuel _ a' w' h'.2) (h.2 i hi)⟩
/-- The last one waits for i. -/
def waits (md : Region.Mode) (ops : Array Oper) (kk i : Nat) : Bool := match ops[kk]? with
  | none => true
  | some o => o.after.any fun e => Region.binds md e && e.on == i
theorem waits_spec {i : Nat} (h : waits md ops kk i = true) {o : Oper} (ho : ops[kk]? = some o) : ∃ e ∈ o.after, Region.binds md e = true ∧ e.on = i := by
  unfold waits at h
  rw [ho] at h
  obtain ⟨e, h1, h2⟩ := Array.any_eq_true'.1 h
  simp only [Bool.and_eq_true, beq_iff_eq] at h2
  exact ⟨e, h1, h2⟩
theorem anyK_first {i : Nat} {oi : Oper} {v : Value} (hi : ops[i]? = some oi) (hsel : ∀ (j : Nat) (o : Oper) cs b, ops[j]? = some o → o.op ≠ .select cs b)
    (hQ : ∀ c a w, Q (.panic c) (a.put oi.dst v) w → Q (.panic c) a w) (hk : waits md ops kk i = true) :
    ∀ (fuel : Nat) (listed : Array Bool) (a : Act) (w : World),
      (∀ j oj, ops[j]? = some oj → j ≠ i → listed.getD j true = false → (∀ e ∈ oj.after, Region.binds md e = true → e.on ≠ i) → oi.apart ops oj = true) →
      i ∈ Region.ready md ops listed → YieldsIf P ops S oi v a → S w →
      anyK P md ops Q S kk fuel (listed.setIfInBounds i true) (a.put oi.dst v) w → anyK P md ops Q S kk (fuel + 1) listed a w := by
  intro fuel
  induction fuel with
  | zero =>
    intro listed a w _ hr hy hS H
    refine ⟨fun h => (by rw [h] at hr; cases hr), fun j hj => ?_⟩
    by_cases hji : j = i
    · subst hji; exact hy.wpOp hi hS ⟨fun _ => hS, H⟩
    ·
     have := ready_mono hj hji
     rw [H.1] at this
     cases this
  | succ fuel ih =>
    intro listed a w hfree hr hy hS H
    refine ⟨fun h => (by rw [h] at hr; cases hr), fun j hj => ?_⟩
    by_cases hji : j = i
    · subst hji; exact hy.wpOp hi hS ⟨fun _ => hS, H⟩
    ·
     have h1 := H.2 j (ready_mono hj hji)
     obtain ⟨hjun, oj, hoj, hall⟩ := mem_ready.1 hj
     have hnot : ∀ e ∈ oj.after, Region.binds md e = true → e.on ≠ i := fun e he hb heq => by
       have h1 := hall e he hb
       have h0 := (mem_ready.1 hr).1
       rw [heq] at h1
       rcases Nat.lt_or_ge i listed.size with h' | h'
       · simp [h'] at h0 h1; rw [h0] at h1; cases h1
       · simp [Array.getElem?_eq_none h'] at h1
     have hjk : j ≠ kk := by
       rintro rfl
       obtain ⟨e, he, hb, heq⟩ := waits_spec hk hoj
       exact hnot e he hb heq
     have h2 := wpOp_putIf hoj (hfree j oj hoj hji hjun hnot) (fun cs b => hsel i oi cs b hi) (fun cs b => hsel j oj cs b hoj) hQ hy h1
     have hfree' : ∀ k ok, ops[k]? = some ok → k ≠ i → (listed.setIfInBounds j true).getD k true = false →
         (∀ e ∈ ok.after, Region.binds md e = true → e.on ≠ i) → oi.apart ops ok = true := fun k ok hk hki hun hno => by
       refine hfree k ok hk hki ?_ hno
       by_cases hjk : j = k
       · subst hjk; exact hjun
       · rw [getD_set_ne true hjk] at hun; exact hun
     refine wpOp_mono (fun a' w' h3 => ⟨h3.2.1, ih (listed.setIfInBounds j true) a' w' hfree' (ready_mono hr (Ne.symm hji)) h3.1 (h3.2.1 hjk) ?_⟩) h2
     rw [Array.setIfInBounds_comm _ _ hji]
     exact h3.2.2
theorem anyK_take {i : Nat} {oi : Oper} {v : Value} {fuel : Nat} {listed : Array Bool} {a : Act} {w : World} (hi : ops[i]? = some oi)
    (hs : Region.noSelect ops = true) (hf : Region.free md ops listed i = true) (hr : (Region.ready md ops listed).contains i = true) (hk : waits md ops kk i = true)
    (hQ : ∀ c a w, Q (.panic c) (a.put oi.dst v) w → Q (.panic c) a w) (hy : YieldsIf P ops S oi v a) (hS : S w)
    (h : anyK P md ops Q S kk fuel (listed.setIfInBounds i true) (a.put oi.dst v) w) : anyK P md ops Q S kk (fuel + 1) listed a w :=
  anyK_first hi (Region.noSelect_spec hs) hQ hk fuel listed a w (Region.free_spec hi hf) (by simpa using hr) hy hS h
theorem anyK_all {rs : List Nat} {fuel : Nat} {listed : Array Bool} {a : Act} {w : World} (hr : Region.ready md ops listed = rs) (hne : rs ≠ [])
    (h : ∀ i ∈ rs, wpOp P ops Q i (fun a' w' => (i ≠ kk → S w') ∧ anyK P md ops Q S kk fuel (listed.setIfInBounds i true) a' w') a w) : anyK P md ops Q S kk (fuel + 1) listed a w :=
  ⟨fun h0 => absurd (hr ▸ h0) hne, hr ▸ h⟩
theorem anyK_done {listed : Array Bool} {a : Act} {w : World} (hr : Region.ready md ops listed = []) (h : Q .normal a w) : ∀ fuel, anyK P md ops Q S kk fuel listed a w
  | 0 => ⟨hr, h⟩
  | _ + 1 => ⟨fun _ => h, by rw [hr]; simp⟩
theorem upon_to {o : Oper} {a : Act} {K K' : Act → World → Prop} {Q' : Exit → Act → World → Prop} (hK : ∀ a w, K' a w → K a w) (hQ : ∀ e a w, e ≠ .normal → Q' e a w → Q e a w) (r : Result Next)
    (h : o.upon P a K' Q' r) : o.upon P a K Q r := by
  cases r with
  | ok n w' =>
    cases n <;> simp only [Oper.upon] at h ⊢
    case value u => exact hK _ _ h
    case skip => exact hK _ _ h
    case defer d => exact hK _ _ h
    case enter f args =>
      refine Calls.mono h fun e w'' he => ?_
      cases e with
      | returned u => exact hK _ _ he
      | panicked c => exact hQ _ _ _ (by simp) he
      | outgrown => obtain ⟨a1, w1, h1⟩ := he; exact ⟨a1, w1, hQ _ _ _ (by simp) h1⟩
    case row row args => exact Rows.mono h fun u w'' he => hK _ _ he
  | halt x w' =>
    cases x <;> simp only [Oper.upon] at h ⊢
    case panic u => exact hQ _ _ _ (by simp) h
end anyK
section draws
variable {P : Program} {n : Nat} {ops : Array Oper} {N : Cn} {X : Nat → Cn} {R : Cn} {S : World → Prop} {kk : Nat} {f : Fr} {w w' : World} {fuel i j d : Nat} {listed : Array Bool} {o : Oper} {v : Value}
def D (P : Program) (n : Nat) (ops : Array Oper) (N : Cn) (X : Nat → Cn) (R : Cn) (S : World → Prop) (kk : Nat) (fuel : Nat) (listed : Array Bool) (f : Fr) (w : World) : Prop :=
  ∀ a, Is a n f → anyK P .any ops (Qk n N X R) S kk fuel listed a w
theorem heldK {p q : Prop} {i : Nat} (h : p) (k : p → q) : (i ≠ kk → p) ∧ q := ⟨fun _ => h, k h⟩
theorem heldL {p q : Prop} (k : q) : (kk ≠ kk → p) ∧ q := ⟨fun h => absurd rfl h, k⟩
theorem W_draw {id m : Nat} (S : World → Prop) (kk : Nat) (hm : P.follows .mixedOrders = true) (hl : ops.size = m)
    (h : ∀ w1, Nw w w1 → w1.heap.size = w.heap.size → S w1 ∧ D P n ops N X R S kk m (Array.replicate m false) f w1) : Wp P n (.region id ops true) N X R f w := fun a ha => by
  subst hl
  exact wp_region_any hm (wpAny_of_anyK _ _ _ _ ((h w.drew (Ch.drew w) rfl).2 a ha))
theorem ev_op {K : Act → World → Prop} {a : Act} (ho : ops[i]? = some o) (ha : Is a n f) (h : Wl P n ops [o] (fun f' w' => ∀ a', Is a' n f' → K a' w') f w) : wpOp P ops (Qk n N X R) i K a w := by
  have h2 := h (fun e a w => match e with | .normal => K a w | e => Qk n N X R e a w) a (fun a f w ha hN => hN a ha) ha
  unfold wpList wpList at h2
  unfold wpOp
  simp only [ho]
  split
  ·
   rename_i hw
   rw [if_pos hw] at h2
   rcases h2 with h2 | ⟨h2, h3⟩
   ·
    refine .inl ?_
    unfold Oper.wp at h2 ⊢
    exact upon_to (fun _ _ h => h) (fun e a w he h => by cases e <;> first | exact absurd rfl he | exact h) _ h2
   ·
    refine .inr ⟨h2, ?_⟩
    obtain ⟨a1, w1, h1⟩ := h3
    exact ⟨a1, w1, h1⟩
  ·
   rename_i hw
   rw [if_neg hw] at h2
   exact h2
/-- The one that may come up. -/
theorem D_ev (i : Nat) (hr : Region.ready .any ops listed = [i]) (ho : ops[i]? = some o) (h : Wl P n ops [o] (fun f' w' => (i ≠ kk → S w') ∧ D P n ops N X R S kk fuel (listed.setIfInBounds i true) f' w') f w) : D P n ops N X R S kk (fuel + 1) listed f w := fun a ha =>
  anyK_all hr (by simp) (fun k hk => by
    rw [List.mem_singleton] at hk
    subst hk
    refine ev_op ho ha ?_
    exact fun Q a hq ha => h Q a (fun a f w ha hN => hq a f w ha (fun a' ha' => ⟨hN.1, hN.2 a' ha'⟩)) ha)
theorem D_ev2 (i k : Nat) {o2 : Oper} (hr : Region.ready .any ops listed = [i, k]) (ho : ops[i]? = some o) (ho2 : ops[k]? = some o2) (h : Wl P n ops [o] (fun f' w' => (i ≠ kk → S w') ∧ D P n ops N X R S kk fuel (listed.setIfInBounds i true) f' w') f w)
    (h' : Wl P n ops [o2] (fun f' w' => (k ≠ kk → S w') ∧ D P n ops N X R S kk fuel (listed.setIfInBounds k true) f' w') f w) : D P n ops N X R S kk (fuel + 1) listed f w := fun a ha =>
  anyK_all hr (by simp) (fun l hl => by
    rcases List.mem_cons.1 hl with rfl | hl
    · refine ev_op ho ha ?_
      exact fun Q a hq ha => h Q a (fun a f w ha hN => hq a f w ha (fun a' ha' => ⟨hN.1, hN.2 a' ha'⟩)) ha
    · rw [List.mem_singleton] at hl
      subst hl
      refine ev_op ho2 ha ?_
      exact fun Q a hq ha => h' Q a (fun a f w ha hN => hq a f w ha (fun a' ha' => ⟨hN.1, hN.2 a' ha'⟩)) ha)
theorem D_done (hr : Region.ready .any ops listed = []) (h : N f w) : D P n ops N X R S kk fuel listed f w := fun a ha => anyK_done hr ⟨f, ha, h⟩ fuel
/-- The operation i, which does nothing to the world, is taken. -/
theorem D_take (i : Nat) (ho : ops[i]? = some o) (hs : Region.noSelect ops = true) (hf : Region.free .any ops listed i = true) (hr : (Region.ready .any ops listed).contains i = true) (hk : waits .any ops kk i = true)
    (hw : Wants ops f o) (hd : o.dst = some d) (hn : Nat.blt d n = true) (hS : S w) (hrun : ∀ w, S w → (execOp (ev f) o).run P w = .ok (.value v) w)
    (h : D P n ops N X R S kk fuel (listed.setIfInBounds i true) (upd f d v) w) : D P n ops N X R S kk (fuel + 1) listed f w := fun a ha =>
  anyK_take (v := v) ho hs hf hr hk (fun _ _ _ q => q.elim) (.inl ⟨hw.wanted ha, fun w hSw => by rw [ha.eval]; exact hrun w hSw⟩) hS (by rw [hd]; exact h _ (ha.put hn v))
theorem D_pass (i : Nat) {b b' : Bool} (ho : ops[i]? = some o) (hs : Region.noSelect ops = true) (hf : Region.free .any ops listed i = true) (hr : (Region.ready .any ops listed).contains i = true) (hk : waits .any ops kk i = true)
    (hg : o.guard = some (j, b)) (hy : yl ops f j = some b') (hne : (b' == b) = false) (hd : o.dst = some d) (hn : Nat.blt d n = true) (hS : S w)
    (h : D P n ops N X R S kk fuel (listed.setIfInBounds i true) (upd f d undef) w) : D P n ops N X R S kk (fuel + 1) listed f w := fun a ha =>
  anyK_take (v := undef) ho hs hf hr hk (fun _ _ _ q => q.elim) (.inr ⟨by
    simp only [Region.wanted, hg, ha.yielded ops j b' hy]
    cases b <;> cases b' <;> simp_all, rfl⟩) hS (by rw [hd]; exact h _ (ha.put hn undef))
end draws
/-! ### a region that only reads, but for its end -/
section still
variable {P : Program} {n : Nat} {ops : Array Oper} {rest : List Oper} {N : Cn} {X : Nat → Cn} {R : Cn} {f : Fr} {w : World} {o : Oper} {v : Value} {d j : Nat} {Z : Fr → Prop}
def Hs (P : Program) (n : Nat) (ops : Array Oper) (w : World) (l : List Oper) (Z : Fr → Prop) (f : Fr) : Prop := ∀ a, Is a n f → wpStill P ops w (fun a' => ∃ f', Is a' n f' ∧ Z f') l a
theorem H_nil (h : Z f) : Hs P n ops w [] Z f := fun _ ha => wpStill_nil ⟨f, ha, h⟩
theorem H_run (hw : Wants ops f o) (hd : o.dst = some d) (hn : Nat.blt d n = true) (hr : (execOp (ev f) o).run P w = .ok (.value v) w) (h : Hs P n ops w rest Z (upd f d v)) : Hs P n ops w (o :: rest) Z f := fun a ha => by
  unfold wpStill
  rw [if_pos (hw.wanted ha)]
  unfold Oper.still
  rw [ha.eval, hr, Oper.stillUpon_value, hd]
  exact h _ (ha.put hn v)
theorem W_still {id : Nat} {l : List Oper} (hm : P.follows .mixedOrders = true) (hB : Region.lexB .any l.toArray = true)
    (h : ∀ w1, Nw w w1 → w1.heap.size = w.heap.size → Hs P n l.toArray w1 l (fun f' => N f' w1) f) : Wp P n (.region id l.toArray true) N X R f w := fun a ha => by
  refine wp_region_still_lit hm hB ?_
  have := h w.drew (Ch.drew w) rfl a ha
  have hmono : ∀ (l' : List Oper) (a : Act), wpStill P l.toArray w.drew (fun a' => ∃ f', Is a' n f' ∧ N f' w.drew) l' a → wpStill P l.toArray w.drew (fun a' => Qk n N X R .normal a' w.drew) l' a := by
    intro l'
    induction l' with
    | nil => intro a h; exact h
    | cons o l' ih =>
      intro a h
      unfold wpStill at h ⊢
      split
      · rename_i hw; rw [if_pos hw] at h; exact Oper.still_mono (fun a h => ih a h) h
      · rename_i hw; rw [if_neg hw] at h; exact ih _ h
  exact hmono _ _ this
end still
section cases_
variable {P : Program} {n : Nat} {ops : Array Oper} {l : List Oper} {N : Cn} {X : Nat → Cn} {R : Cn} {S : World → Prop} {kk : Nat} {f : Fr} {w : World} {fuel d : Nat} {listed : Array Bool}
/-- A slot's Bool is decided. -/
theorem L_case {p : Prop} [Decidable p] (hv : f d = .bool (decide p)) (ht : p → Wl P n ops l N (upd f d (.bool true)) w) (hf : ¬ p → Wl P n ops l N (upd f d (.bool false)) w) : Wl P n ops l N f w := by
  by_cases h : p
  · have := ht h; rwa [upd_self (by rw [hv]; simp [h])] at this
  · have := hf h; rwa [upd_self (by rw [hv]; simp [h])] at this
theorem L_caseb {b : Bool} (hv : f d = .bool b) (ht : b = true → Wl P n ops l N (upd f d (.bool true)) w) (hf : b = false → Wl P n ops l N (upd f d (.bool false)) w) : Wl P n ops l N f w := by
  cases b with
  | true => have := ht rfl; rwa [upd_self hv] at this
  | false => have := hf rfl; rwa [upd_self hv] at this
theorem D_case {p : Prop} [Decidable p] (hv : f d = .bool (decide p)) (ht : p → D P n ops N X R S kk fuel listed (upd f d (.bool true)) w) (hf : ¬ p → D P n ops N X R S kk fuel listed (upd f d (.bool false)) w) : D P n ops N X R S kk fuel listed f w := by
  by_cases h : p
  · have := ht h; rwa [upd_self (by rw [hv]; simp [h])] at this
  · have := hf h; rwa [upd_self (by rw [hv]; simp [h])] at this
theorem D_caseb {b : Bool} (hv : f d = .bool b) (ht : b = true → D P n ops N X R S kk fuel listed (upd f d (.bool true)) w) (hf : b = false → D P n ops N X R S kk fuel listed (upd f d (.bool false)) w) : D P n ops N X R S kk fuel listed f w := by
  cases b with
  | true => have := ht rfl; rwa [upd_self hv] at this
  | false => have := hf rfl; rwa [upd_self hv] at this
/-- A slot is given another spelling. -/
theorem L_as {v v' : Value} (d : Nat) (hv : f d = v) (e : v = v') (h : Wl P n ops l N (upd f d v') w) : Wl P n ops l N f w := by rwa [upd_self (by rw [hv, e])] at h
theorem D_as {v v' : Value} (d : Nat) (hv : f d = v) (e : v = v') (h : D P n ops N X R S kk fuel listed (upd f d v') w) : D P n ops N X R S kk fuel listed f w := by rwa [upd_self (by rw [hv, e])] at h
theorem W_as {c : Code} {v v' : Value} (d : Nat) (hv : f d = v) (e : v = v') (h : Wp P n c N X R (upd f d v') w) : Wp P n c N X R f w := by rwa [upd_self (by rw [hv, e])] at h
theorem wanted_u {a : Act} {o : Oper} {j : Nat} {b : Bool} (ha : Is a n f) (hg : o.guard = some (j, b)) (hy : yl ops f j = none) : Region.wanted o (Go.yielded ops a.tmps) = false := by
  have : Go.yielded ops a.tmps j = none := by
    unfold yl at hy
    unfold Go.yielded
    cases e : (ops[j]?).bind (·.dst) with
    | none => rfl
    | some d =>
      rw [e] at hy
      have h2 := ha.get d
      have h3 : a.tmps[d]?.getD undef = f d := by simpa using h2
      simp only at hy ⊢
      cases e2 : a.tmps[d]? with
      | none => simp [e2]
      | some v =>
        rw [e2] at h3
        simp only [Option.getD_some] at h3
        subst h3
        simp only [Option.bind_some, e2]
        cases hf : f d <;> rw [hf] at hy <;> first | rfl | (simp at hy)
  simp [Region.wanted, hg, this]
theorem L_passu {o : Oper} {rest : List Oper} {j : Nat} {b : Bool} (hg : o.guard = some (j, b)) (hy : yl ops f j = none) (hd : o.dst = some d) (hn : Nat.blt d n = true)
    (h : Wl P n ops rest N (upd f d undef) w) : Wl P n ops (o :: rest) N f w := fun Q a hq ha => by
  unfold wpList
  rw [if_neg (by rw [wanted_u ha hg hy]; simp), hd]
  exact h Q _ hq (ha.put hn undef)
/-- What stands behind a piece of code, laid down once; the slots of L stay as they are. -/
theorem W_cutF {x y : Code} (L : List Nat) (M : Fr → World → Prop) (h : Wp P n x (fun f' w' => fixd f' f L ∧ M f' w') X R f w)
    (k : ∀ g w', M (mixF L f g) w' → Wp P n y N X R (mixF L f g) w') : Wp P n (.seq x y) N X R f w :=
  W_cut (fun f' w' => fixd f' f L ∧ M f' w') h fun f' w' ⟨h1, h2⟩ => by
    have h3 := fixd_mix h1
    have := k f' w' (by rw [h3]; exact h2)
    rwa [h3] at this
theorem W_endF {x : Code} (L : List Nat) (M : Fr → World → Prop) (h : Wp P n x (fun f' w' => fixd f' f L ∧ M f' w') X R f w)
    (k : ∀ g w', M (mixF L f g) w' → N (mixF L f g) w') : Wp P n x N X R f w :=
  W_mono h (fun f' w' ⟨h1, h2⟩ => by
    have h3 := fixd_mix h1
    have := k f' w' (by rw [h3]; exact h2)
    rwa [h3] at this) (fun _ _ _ h => h) (fun _ _ h => h)
theorem dec_t {p : Prop} [Decidable p] (h : p) : Value.bool true = .bool (decide p) := by simp [h]
theorem dec_f {p : Prop} [Decidable p] (h : ¬ p) : Value.bool false = .bool (decide p) := by simp [h]
theorem dec_i {p q : Prop} [Decidable p] [Decidable q] (h : p ↔ q) : Value.bool (decide p) = .bool (decide q) := by simp [h]
theorem dec_b {b : Bool} {p : Prop} [Decidable p] (h : b = true ↔ p) : (Value.bool b) = .bool (decide p) := by
  cases b with
  | true => rw [decide_eq_true (h.1 rfl)]
  | false => rw [decide_eq_false (fun k => by have := h.2 k; cases this)]
end cases_
end Go.Proofs.YtgmeojpekdekeaaGreatDoor

namespace Go.Proofs.YtgmeojpekdekeaaGreatDoor
open Go Go.RowKit
set_option linter.unusedVariables false
set_option linter.unusedSimpArgs false
/-- A slice of n elements of sz cells each holds these cells. (One without elements and without room may point anywhere.) -/
def Sl (w : World) (v : Value) (sz n : Nat) (xs : List Value) : Prop :=
  xs.length = n * sz ∧ ((∃ A, v = .slice A 0 0 ∧ n = 0) ∨ ∃ b o c cs t, v = .slice (some ⟨b, o, none⟩) n c ∧ n ≤ c ∧ Rk w b cs t ∧ ∀ i x, xs[i]? = some x → cs[o + i]? = some x)
def at_ : Value → Nat → Addr
  | .slice (some a) _ _, i => ⟨a.block, a.off + i, none⟩
  | _, i => ⟨0, i, none⟩
theorem at_add (v : Value) (i m : Nat) : (at_ v i).add m = at_ v (i + m) := by
  unfold at_
  split <;> rw [add_lit] <;> simp [Nat.add_assoc]
section
variable {w w' : World} {v : Value} {sz n : Nat} {xs : List Value}
theorem Sl.ch {S : Nat → Prop} (c : Ch S w w') (hS : ∀ b, v.ownBlock = some b → ¬ S b) (h : Sl w v sz n xs) : Sl w' v sz n xs := by
  obtain ⟨h0, h | ⟨b, o, cp, cs, t, rfl, h1, h2, h3⟩⟩ := h
  · exact ⟨h0, .inl h⟩
  · exact ⟨h0, .inr ⟨b, o, cp, cs, t, rfl, h1, h2.ch c (hS b rfl), h3⟩⟩
theorem Sl.nw (c : Nw w w') (h : Sl w v sz n xs) : Sl w' v sz n xs := h.ch c fun _ _ => not_no
theorem Sl.len (h : Sl w v sz n xs) : ∃ A c, v = .slice A n c ∧ n ≤ c := by
  obtain ⟨h0, ⟨A0, rfl, rfl⟩ | ⟨b, o, cp, cs, t, rfl, h1, h2, h3⟩⟩ := h
  · exact ⟨_, _, rfl, Nat.le_refl _⟩
  · exact ⟨_, _, rfl, h1⟩
theorem Sl.lt (h : Sl w v sz n xs) (hn : n ≠ 0) {b : Nat} (hb : v.ownBlock = some b) : b < w.heap.size := by
  obtain ⟨h0, ⟨A0, rfl, rfl⟩ | ⟨b', o, cp, cs, t, rfl, h1, h2, h3⟩⟩ := h
  · exact absurd rfl hn
  · injection hb with hb; subst hb; exact h2.lt
theorem Sl.to (h : Sl w v sz n xs) (c : ∀ i, v.ownBlock = some i → Sm w w' i) : Sl w' v sz n xs := by
  obtain ⟨h0, h | ⟨b, o, cp, cs, t, rfl, h1, h2, h3⟩⟩ := h
  · exact ⟨h0, .inl h⟩
  · exact ⟨h0, .inr ⟨b, o, cp, cs, t, rfl, h1, h2.to (c b rfl), h3⟩⟩
theorem Sl.nil (w : World) (sz : Nat) : Sl w (.slice none 0 0) sz 0 [] := ⟨by simp, .inl ⟨_, rfl, rfl⟩⟩
theorem Sl.cell (h : Sl w v sz n xs) {i : Nat} {u : Value} (hu : xs[i]? = some u) : w.cell? (at_ v i) = some u := by
  obtain ⟨h0, ⟨A0, rfl, rfl⟩ | ⟨b', o, cp, cs, t, rfl, h1, h2, h3⟩⟩ := h
  ·
   have : xs = [] := List.eq_nil_of_length_eq_zero (by simpa using h0)
   subst this; simp at hu
  · exact (h2.cell).trans (h3 i u hu)
theorem Sl.own {base e : Nat} (h : w.ownsRow base e sz v n xs) : Sl w v sz n xs := by
  obtain ⟨h0, h | ⟨g, cp, cur, rfl, h1, h2, h3, h4, h5, h6⟩⟩ := h
  · exact ⟨h0, .inl ⟨none, h⟩⟩
  ·
   refine ⟨h0, .inr ⟨g, 0, cp, cur, e, rfl, h3, ⟨_, h2⟩, fun i x hx => ?_⟩⟩
   have hi : i < n * sz := by rw [← h0]; exact (List.getElem?_eq_some_iff.1 hx).1
   rw [← h6, List.getElem?_take_of_lt hi] at hx
   simpa using hx
end
section
variable {P : Program} {w : World} {f : Fr} {dst : Option Tmp} {ty : TypeId} {pos : String} {af : Array Edge} {g : Option (Nat × Bool)} {v : Value} {sz n : Nat} {xs : List Value}
theorem r_lenSl {x : Operand} {t e : TypeId} (hu : P.underlying t = some (.slice e)) (hx : ev f x = v) (h : Sl w v sz n xs) : (execOp (ev f) ⟨dst, .call { callee := .builtin .len, args := #[x], argTypes := #[t] }, ty, pos, af, g⟩).run P w = .ok (.value (.int .i64 n)) w := by
  obtain ⟨A, c, rfl, _⟩ := h.len
  exact r_len hu hx
theorem r_idxSl {x y : Operand} {t e : TypeId} {k : IntKind} {i : Int} (hu : P.underlying t = some (.slice e)) (hz : (P.info? e).map (·.size) = some sz) (hx : ev f x = v) (hy : ev f y = .int k i) (h : Sl w v sz n xs) (h0 : 0 ≤ i) (h1 : i < n) {j : Nat} (hj : i.toNat * sz = j) :
    (execOp (ev f) ⟨dst, .indexAddr t x y, ty, pos, af, g⟩).run P w = .ok (.value (.pointer (some (at_ v j)))) w := by
  subst hj
  obtain ⟨inf, hi1, hi2⟩ := Option.map_eq_some_iff.1 hz
  have he : P.elem t = e := by simp [Program.elem, hu]
  obtain ⟨_, ⟨A0, rfl, rfl⟩ | ⟨b', o, cp, cs, t', rfl, h1', h2, h3⟩⟩ := h
  · omega
  · simp [execOp, hx, hy, run_indexAt_slice w t _ n cp k i (by rw [he]; exact hu), he, h0, h1, sizeOf, typeInfo, hi1, hi2, add_lit, at_]
theorem r_loadSl {x : Operand} {t : TypeId} {i : Nat} {u : Value} (ht : flat P t = true) (hx : ev f x = .pointer (some (at_ v i))) (h : Sl w v sz n xs) (hv : xs[i]? = some u) : (execOp (ev f) ⟨dst, .load t x, ty, pos, af, g⟩).run P w = .ok (.value u) w :=
  r_load ht hx (h.cell hv)
theorem r_loadSlrow {x : Operand} {t : TypeId} {i m : Nat} {us : List Value} {dd : TypeDesc} (hu : P.underlying t = some dd) (hd : (match dd with | .struct _ | .array _ _ => true | _ => false) = true) (hi : (P.info? t).map (·.size) = some m) (hm : us.length = m)
    (hx : ev f x = .pointer (some (at_ v i))) (h : Sl w v sz n xs) (hv : ∀ j u, us[j]? = some u → xs[i + j]? = some u) : (execOp (ev f) ⟨dst, .load t x, ty, pos, af, g⟩).run P w = .ok (.value (.agg us.toArray)) w := by
  have hl : (loadCells (at_ v i) m).run P w = .ok us.toArray w := by
    rw [← hm]
    exact run_loadCells_list w (at_ v i) us (fun j u hj => by rw [at_add]; exact h.cell (hv j u hj))
  have hagg : (isAgg t).run P w = .ok true w := by
    unfold isAgg
    rw [Sem.run_bind, run_underlying hu w]
    cases dd <;> simp_all
  obtain ⟨inf, hi1, hi2⟩ := Option.map_eq_some_iff.1 hi
  simp [execOp, hx, Instr.loadAt, Instr.sureAddr, loadVar, Sem.run_bind, hagg, sizeOf, typeInfo, hi1, hi2, hl]
/-- A field's place. -/
theorem r_field {x : Operand} {s : TypeId} {fs : Array Field} {fd : Field} {i sz : Nat} {a : Addr} (hu : P.underlying s = some (.struct fs)) (hf : fs[i]? = some fd) (hz : (P.info? fd.type).map (·.size) = some sz) (h0 : Nat.ble 1 sz = true) (hx : ev f x = .pointer (some a)) :
    (execOp (ev f) ⟨dst, .fieldAddr s x i, ty, pos, af, g⟩).run P w = .ok (.value (.pointer (some (a.add fd.offset)))) w := by
  obtain ⟨inf, hi1, hi2⟩ := Option.map_eq_some_iff.1 hz
  have hne : sz ≠ 0 := by have := Nat.le_of_ble_eq_true h0; omega
  simp [execOp, hx, Instr.fieldAt, run_underlying hu, hf, Instr.sureAddr, fieldPlace, sizeOf, typeInfo, hi1, hi2, hne]
theorem r_fieldb {x : Operand} {s : TypeId} {fs : Array Field} {fd : Field} {i sz b o m : Nat} (hu : P.underlying s = some (.struct fs)) (hf : fs[i]? = some fd) (hz : (P.info? fd.type).map (·.size) = some sz) (h0 : Nat.ble 1 sz = true) (hx : ev f x = .pointer (some ⟨b, o, none⟩)) (hm : o + fd.offset = m) :
    (execOp (ev f) ⟨dst, .fieldAddr s x i, ty, pos, af, g⟩).run P w = .ok (.value (.pointer (some ⟨b, m, none⟩))) w := by
  rw [r_field hu hf hz h0 hx, add_lit, hm]
theorem r_fieldSl {x : Operand} {s : TypeId} {fs : Array Field} {fd : Field} {i sz j o m : Nat} (hu : P.underlying s = some (.struct fs)) (hf : fs[i]? = some fd) (hz : (P.info? fd.type).map (·.size) = some sz) (h0 : Nat.ble 1 sz = true) (ho : fd.offset = o) (hm : j + o = m) (hx : ev f x = .pointer (some (at_ v j))) :
    (execOp (ev f) ⟨dst, .fieldAddr s x i, ty, pos, af, g⟩).run P w = .ok (.value (.pointer (some (at_ v m)))) w := by
  rw [r_field hu hf hz h0 hx, at_add, ho, hm]
end
/-! bytes -/
def b8 (x : UInt8) : Value := .int .u8 (x.toNat : Int)
abbrev By (w : World) (v : Value) (l : List UInt8) : Prop := Sl w v 1 l.length (l.map b8)
theorem bs_sb (l : List UInt8) : bs (sb l) = l := by simp [bs, sb]
theorem sb_bs (s : ByteArray) : sb (bs s) = s := by simp [bs, sb]
theorem bs_length (s : ByteArray) : (bs s).length = s.size := by simp [bs]
theorem sb_size (l : List UInt8) : (sb l).size = l.length := rfl
theorem sb_inj {a b : List UInt8} : sb a = sb b ↔ a = b := ⟨fun h => by rw [← bs_sb a, h, bs_sb], fun h => by rw [h]⟩
theorem bs_inj {a b : ByteArray} : bs a = bs b ↔ a = b := ⟨fun h => by rw [← sb_bs a, h, sb_bs], fun h => by rw [h]⟩
theorem bs_append (a b : ByteArray) : bs (a ++ b) = bs a ++ bs b := by simp [bs]
theorem sb_append (a b : List UInt8) : sb (a ++ b) = sb a ++ sb b := by rw [← bs_inj, bs_append, bs_sb, bs_sb, bs_sb]
theorem strOfNums_b8 (l : List UInt8) : strOfNums (l.map fun x => (x.toNat : Int)) = sb l := by
  unfold strOfNums sb
  congr 1
  rw [List.map_map]
  congr 1
  apply List.ext_getElem
  · simp
  · intro i _ _; simp
section
variable {P : Program} {w : World} {f : Fr} {dst : Option Tmp} {ty : TypeId} {pos : String} {af : Array Edge} {g : Option (Nat × Bool)} {v : Value}
theorem r_bstr {x : Operand} {src d e : TypeId} {l : List UInt8} (hs : P.underlying src = some (.slice e)) (he : P.underlying e = some (.int .u8)) (hd : P.underlying d = some .string) (hx : ev f x = v) (h : By w v l) :
    (execOp (ev f) ⟨dst, .convert src d x, ty, pos, af, g⟩).run P w = .ok (.value (.string (sb l))) w := by
  have : (convert src d v).run P w = .ok (.string (sb l)) w := by
    obtain ⟨h0, ⟨A0, rfl, h1⟩ | ⟨b, o, c, cs, t, rfl, h1, h2, h3⟩⟩ := h
    ·
     have : l = [] := List.eq_nil_of_length_eq_zero h1
     subst this
     cases A0 with
     | none => rw [run_convert_bytes_nil w src e hs he 0 0 d hd]; rfl
     | some a =>
       have hl : (loadCells a 0).run P w = .ok #[] w := by
         have := run_loadCells_list (P := P) w a [] (fun j v hj => by simp at hj)
         simpa using this
       rw [run_convert_bytes_string w src d e _ 0 0 hs he hd, run_bytesToString w a 0 0 [] (by simpa using hl)]
       rfl
    · rw [run_convert_bytes_arg w src e hs he b o l.length c (l.map fun x => (x.toNat : Int)) (by simp) (fun i hi => by
        rw [h2.cell]
        exact h3 i _ (by simp [b8, List.getD, hi])) d hd, strOfNums_b8]
  simp [execOp, hx, this]
/-- Bytes of a string: a new block. -/
theorem r_sbytes {x : Operand} {src d e : TypeId} {s : ByteArray} (hs : P.underlying src = some .string) (hd : P.underlying d = some (.slice e)) (he : P.underlying e = some (.int .u8)) (hx : ev f x = .string s) (hl : s.size ≤ 9223372036854775807) :
    ∃ v w', (execOp (ev f) ⟨dst, .convert src d x, ty, pos, af, g⟩).run P w = .ok (.value v) w' ∧ By w' v (bs s) ∧ Nw w w' ∧ v.ownBlock = some w.heap.size ∧ w'.heap.size = w.heap.size + 1 ∧
      (∃ c cs t, v = .slice (some ⟨w.heap.size, 0, none⟩) s.size c ∧ s.size ≤ c ∧ Bk w' w.heap.size cs t ∧ s.size ≤ cs.size ∧ cs.toList.take s.size = (bs s).map b8) := by
  refine ⟨.slice (some ⟨w.heap.size, 0, none⟩) s.size (grownCap w s.size 0 e), Lib.bytesWorld w e s, ?_, ?_, ?_, rfl, Lib.bytesWorld_size w e s, _, _, e, rfl, ?_, ⟨_, Lib.bytesWorld_at_new w e s, .inr (Nat.le_refl _)⟩, ?_, ?_⟩
  · simp only [execOp, hx, Lib.run_convert_string_bytes w src d e s hs hd he, Sem.run_bind, Result.andThen_ok]; rfl
  ·
   have hc : s.size ≤ grownCap w s.size 0 e := by
     unfold grownCap Question.cut
     simp only
     omega
   refine ⟨by simp, .inr ⟨w.heap.size, 0, _, _, e, by rw [bs_length], by rw [bs_length]; exact hc, ⟨_, Lib.bytesWorld_at_new w e s⟩, fun i x hx => ?_⟩⟩
   have hi : i < s.size := by
     have := (List.getElem?_eq_some_iff.1 hx).1
     simpa [bs_length] using this
   have hi2 : i < s.data.size := hi
   rw [List.getElem?_map] at hx
   simp only [bs, Array.getElem?_toList, Array.getElem?_eq_getElem hi2, Option.map_some] at hx
   simp [Lib.bytesCells, Array.getElem?_append, hi, Array.getElem?_eq_getElem hi2, ← hx, b8]
  · exact ⟨rfl, rfl, rfl, by rw [Lib.bytesWorld_size]; omega, fun i hi _ => Lib.bytesWorld_at_old w e s i hi⟩
  ·
   unfold grownCap Question.cut
   simp only
   omega
  · simp [Lib.bytesCells]
  ·
   have hsz : s.size = ((s.data.map fun b => Value.int .u8 b.toNat)).toList.length := by simp
   unfold Lib.bytesCells
   rw [Array.toList_append, hsz, List.take_left]
   simp [bs]
   intro a _; rfl
variable {n d : Nat} {ops : Array Oper} {rest : List Oper} {N : Cn}
theorem L_sbytes {x : Operand} {src dt e : TypeId} {s : ByteArray} (hs : P.underlying src = some .string) (hd : P.underlying dt = some (.slice e)) (he : P.underlying e = some (.int .u8)) (hl : s.size ≤ 9223372036854775807)
    (hw : Wants ops f ⟨some d, .convert src dt x, ty, pos, af, g⟩) (hn : Nat.blt d n = true) (hx : ev f x = .string s)
    (h : ∀ v w1, By w1 v (bs s) → Nw w w1 → v.ownBlock = some w.heap.size → w1.heap.size = w.heap.size + 1 → Wl P n ops rest N (upd f d v) w1) : Wl P n ops (⟨some d, .convert src dt x, ty, pos, af, g⟩ :: rest) N f w := by
  obtain ⟨v, w', h1, h2, h3, h4, h5, h6⟩ := r_sbytes (P := P) (w := w) (ty := ty) (pos := pos) (af := af) (g := g) (dst := some d) hs hd he hx hl
  exact L_run hw rfl hn h1 (h v w' h2 h3 h4 h5)
variable {X : Nat → Cn} {R : Cn} {S : World → Prop} {fuel i : Nat} {listed : Array Bool}
end
/-! rows of one's own -/
section
variable {w w' : World} {base e sz n : Nat} {v : Value} {xs : List Value}
theorem own_base (h : w.ownsRow base e sz v n xs) {k : Nat} (hk : v.ownBlock = some k) : base ≤ k := by
  obtain ⟨_, ⟨rfl, _⟩ | ⟨g, cp, cur, rfl, h1, _⟩⟩ := h
  · cases hk
  · injection hk with hk; subst hk; exact h1
theorem own_lt (h : w.ownsRow base e sz v n xs) {k : Nat} (hk : v.ownBlock = some k) : k < w.heap.size := by
  obtain ⟨_, ⟨rfl, _⟩ | ⟨g, cp, cur, rfl, h1, h2, h3⟩⟩ := h
  · cases hk
  · injection hk with hk; subst hk; exact lt_of_block h2
theorem Own.to (h : w.ownsRow base e sz v n xs) (c : ∀ i, v.ownBlock = some i → Sm w w' i) : w'.ownsRow base e sz v n xs := by
  obtain ⟨h0, h | ⟨g, cp, cur, rfl, h1, h2, h3⟩⟩ := h
  · exact ⟨h0, .inl h⟩
  · exact ⟨h0, .inr ⟨g, cp, cur, rfl, h1, ((c g rfl).2 (lt_of_block h2)).trans h2, h3⟩⟩
theorem Own.nil (w : World) (base e sz : Nat) : w.ownsRow base e sz (.slice none 0 0) 0 [] := ⟨by simp, .inl ⟨rfl, rfl⟩⟩
theorem Own.set (h : w.ownsRow base e sz v n xs) {i : Nat} (hi : i < xs.length) (u : Value) : (w.setCell (at_ v i) u).ownsRow base e sz v n (xs.set i u) := by
  obtain ⟨h0, ⟨rfl, rfl⟩ | ⟨g, cp, cur, rfl, h1, h2, h3, h4, h5, h6⟩⟩ := h
  · simp at h0; subst h0; simp at hi
  ·
   have ha : at_ (.slice (some ⟨g, 0, none⟩) n cp) i = ⟨g, i, none⟩ := by simp [at_]
   rw [ha]
   refine ⟨by simp [h0], .inr ⟨g, cp, cur.setIfInBounds i u, rfl, h1, heap_setCell_same w g i cur e u h2, h3, h4, by simpa using h5, ?_⟩⟩
   rw [← h6]
   simp [List.take_set]
theorem Own.place (h : w.ownsRow base e sz v n xs) {i : Nat} (hi : i < xs.length) : ∃ g cs, at_ v i = ⟨g, i, none⟩ ∧ v.ownBlock = some g ∧ Bk w g cs e ∧ i < cs.size := by
  obtain ⟨h0, ⟨rfl, rfl⟩ | ⟨g, cp, cur, rfl, h1, h2, h3, h4, h5, h6⟩⟩ := h
  · simp at h0; subst h0; simp at hi
  ·
   refine ⟨g, cur, by simp [at_], rfl, .of h2, ?_⟩
   have := congrArg List.length h6
   simp at this
   omega
end
section
variable {P : Program} {w : World} {f : Fr} {ty : TypeId} {pos : String} {af : Array Edge} {g : Option (Nat × Bool)} {v : Value} {n k e base sz : Nat} {xs : List Value} {ops : Array Oper} {rest : List Oper} {N : Cn}
end
/-- A row that may be written, in block b. -/
def Mu (w : World) (b : Nat) (v : Value) (n : Nat) (xs : List Value) : Prop := xs.length = n ∧ ∃ c cs t, v = .slice (some ⟨b, 0, none⟩) n c ∧ n ≤ c ∧ Bk w b cs t ∧ n ≤ cs.size ∧ cs.toList.take n = xs
theorem Mu.sl {w : World} {b n : Nat} {v : Value} {xs : List Value} (h : Mu w b v n xs) : Sl w v 1 n xs := by
  obtain ⟨h0, c, cs, t, rfl, h1, h2, h3, h4⟩ := h
  refine ⟨by simpa using h0, .inr ⟨b, 0, c, cs, t, rfl, h1, h2.rk, fun i x hx => ?_⟩⟩
  have hi : i < n := by rw [← h0]; exact (List.getElem?_eq_some_iff.1 hx).1
  rw [← h4, List.getElem?_take_of_lt hi] at hx
  simpa using hx
theorem Mu.to {w w' : World} {b n : Nat} {v : Value} {xs : List Value} (h : Mu w b v n xs) (c : Sm w w' b) : Mu w' b v n xs := by
  obtain ⟨h0, cc, cs, t, rfl, h1, h2, h3, h4⟩ := h
  exact ⟨h0, cc, cs, t, rfl, h1, h2.to c, h3, h4⟩
section
variable {P : Program} {w : World} {f : Fr} {ty : TypeId} {pos : String} {af : Array Edge} {g : Option (Nat × Bool)} {v : Value} {n k b : Nat} {xs : List Value} {ops : Array Oper} {rest : List Oper} {N : Cn}
end
/-! appending -/
section
variable {P : Program} {w : World} {f : Fr} {ty : TypeId} {pos : String} {af : Array Edge} {g : Option (Nat × Bool)} {v u : Value} {sz n m : Nat} {xs ys : List Value}
/-- To a row of one's own. -/
theorem ap_own {t e base bytes : Nat} {z : Value} (ht : P.underlying t = some (.slice e)) (hinfo : (P.info? e).map (fun i => (i.zero, i.size, i.bytes)) = some (some z, sz, bytes)) (hzs : z.cells.size = sz) (hsz : 0 < sz)
    (hown : w.ownsRow base e sz v n xs) (hu : Sl w u sz m ys) (h1 : ∀ y ∈ ys, y.oneCell' = true) (h63 : n + m ≤ maxLen) (hby : (n + m) * bytes ≤ 140737488355328) (hb : base ≤ w.heap.size) :
    ∃ v' w', (Builtin.append_ #[t, t] ty #[v, u]).run P w = .ok v' w' ∧ w'.ownsRow base e sz v' (n + m) (xs ++ ys) ∧ w.grownBy w' v.ownBlock := by
  obtain ⟨i, hi, hz0, hz1, hz2⟩ := info_parts hinfo
  obtain ⟨h0, ⟨A0, rfl, rfl⟩ | ⟨b, o, c, cs, t', rfl, h2, h3, h4⟩⟩ := hu
  ·
   have : ys = [] := List.eq_nil_of_length_eq_zero (by simpa using h0)
   subst this
   cases A0 with
   | none => exact ⟨v, w, run_append_owned_none (P := P) w base t ty e i sz ht hi v n xs hown, by simpa using hown, World.grownBy.refl w _⟩
   | some a =>
     obtain ⟨v', w', h5, h6, h7, _⟩ := run_append_own (P := P) w base t ty e i z sz bytes ht hi hz0 hz1 hz2 hzs hsz v n xs hown a 0 0 [] h0 (fun j y hj => by simp at hj) h1 h63 hby hb
     exact ⟨v', w', h5, h6, h7⟩
  ·
   obtain ⟨v', w', h5, h6, h7, _⟩ := run_append_own (P := P) w base t ty e i z sz bytes ht hi hz0 hz1 hz2 hzs hsz v n xs hown ⟨b, o, none⟩ m c ys h0 (fun j y hj => by rw [add_lit, h3.cell]; exact h4 j y hj) h1 h63 hby hb
   exact ⟨v', w', h5, h6, h7⟩
variable {d k : Nat} {ops : Array Oper} {rest : List Oper} {N : Cn} {X : Nat → Cn} {R : Cn} {S : World → Prop} {fuel i : Nat} {listed : Array Bool}
theorem r_append {dst : Option Tmp} {s x : Operand} {t t2 : TypeId} {v' : Value} {w' : World} (hs : ev f s = v) (hx : ev f x = u) (h : (Builtin.append_ #[t, t2] ty #[v, u]).run P w = .ok v' w') :
    (execOp (ev f) ⟨dst, .call { callee := .builtin .append, args := #[s, x], argTypes := #[t, t2] }, ty, pos, af, g⟩).run P w = .ok (.value v') w' := by
  simp [execOp, resolve, invoke, builtin, hs, hx, h]
/-- A literal slice. -/
theorem r_buildSlice {dst : Option Tmp} {t e len : Nat} {parts : Array (Nat × Operand)} {cells : Array Value} {z : Value} {sz bytes : Nat} (ht : P.underlying t = some (.slice e)) (hinfo : (P.info? e).map (fun i => (i.zero, i.size, i.bytes)) = some (some z, sz, bytes)) (hl : len * sz ≤ 16777216) (h0 : 0 < len * sz)
    (hf : Instr.fill (fun i => some (i * sz, sz)) ((Array.range (len * sz)).map (z.cells[· % z.cells.size]!)) (parts.map fun (i, x) => (i, ev f x)).toList = some cells) :
    (execOp (ev f) ⟨dst, .buildSlice t len parts, ty, pos, af, g⟩).run P w = .ok (.value (.slice (some ⟨w.heap.size, 0, none⟩) len len)) (w.alloc (.cells cells e)) := by
  obtain ⟨i, hi, hz0, hz1, hz2⟩ := info_parts hinfo
  have h2 : ¬ 16777216 < len * sz := by omega
  have h3 : ¬ (len = 0 ∨ sz = 0) := by
    rintro (rfl | rfl) <;> simp at h0
  have h4 : ¬ len = 0 := fun x => h3 (.inl x)
  have h5 : ¬ sz = 0 := fun x => h3 (.inr x)
  simp only [execOp, Instr.buildSlice, Sem.run_bind, run_underlying ht, Result.andThen_ok, sizeOf, typeInfo, run_program, hi, Sem.run_pure, hz1]
  rw [if_neg (by simpa using h2)]
  simp [zeroValue, typeInfo, hi, hz0, h4, h5, newRow]
  rw [if_neg (by omega)]
  have hf' : Instr.fill (fun i => some (i * sz, sz)) ((Array.range (len * sz)).map (z.cells[· % z.cells.size]!)) (parts.toList.map fun x => (x.1, ev f x.2)) = some cells := by simpa using hf
  rw [hf']
  simp
end
/-! cutting slices -/
section
theorem sl_cut {w : World} {A : Option Addr} {c sz n i j m : Nat} {xs : List Value} (h : Sl w (.slice A n c) sz n xs) (hij : i ≤ j) (hj : j ≤ n) (hm : j ≤ m) (hmc : m ≤ c) :
    Sl w (sliced A i j m sz) sz (j - i) ((xs.take (j * sz)).drop (i * sz)) ∧ (sliced A i j m sz).ownBlock = (Value.slice A n c).ownBlock := by
  obtain ⟨h0, ⟨A0, hv, hn⟩ | ⟨b, o, cp, cs, t, hv, h1, h2, h3⟩⟩ := h
  ·
   injection hv with hA _ hc
   subst hA hn
   have : xs = [] := List.eq_nil_of_length_eq_zero (by simpa using h0)
   subst this
   have hi0 : i = 0 := by omega
   have hj0 : j = 0 := by omega
   subst hi0 hj0
   have hm0 : m = 0 := by omega
   subst hm0
   exact ⟨⟨by simp, .inl ⟨A, by simp [sliced], rfl⟩⟩, by cases A <;> simp [sliced, Value.ownBlock]⟩
  ·
   injection hv with hA _ _
   subst hA
   have hlen : ((xs.take (j * sz)).drop (i * sz)).length = (j - i) * sz := by
     simp only [List.length_drop, List.length_take, h0, Nat.sub_mul]
     rw [Nat.min_eq_left (Nat.mul_le_mul_right sz hj)]
   unfold sliced
   by_cases hmi : m = i
   ·
    rw [if_pos hmi]
    refine ⟨⟨hlen, .inr ⟨b, o, m - i, cs, t, rfl, by omega, h2, fun k x hx => ?_⟩⟩, rfl⟩
    have : j - i = 0 := by omega
    rw [this, Nat.zero_mul] at hlen
    rw [List.eq_nil_of_length_eq_zero hlen] at hx
    simp at hx
   ·
    rw [if_neg hmi]
    refine ⟨⟨hlen, .inr ⟨b, o + i * sz, m - i, cs, t, by simp [add_lit], by omega, h2, fun k x hx => ?_⟩⟩, by simp [Value.ownBlock, add_lit]⟩
    rw [List.getElem?_drop] at hx
    have hk : i * sz + k < j * sz := by
      have := (List.getElem?_eq_some_iff.1 hx).1
      simp only [List.length_take] at this
      omega
    rw [List.getElem?_take_of_lt hk] at hx
    rw [Nat.add_assoc]
    exact h3 _ _ hx
variable {P : Program} {w : World} {f : Fr} {ty : TypeId} {pos : String} {af : Array Edge} {g : Option (Nat × Bool)} {v : Value} {n k e sz d : Nat} {xs : List Value} {ops : Array Oper} {rest : List Oper} {N : Cn} {Z : Fr → Prop} {x : Operand} {t : TypeId} {i j m : Int}
theorem cut_l {y : Operand} (hu : P.underlying t = some (.slice e)) (hz : (P.info? e).map (·.size) = some sz) (hx : ev f x = v) (h : Sl w v sz n xs) (hy : ev f y = .int .i64 i) (h0 : 0 ≤ i) (h1 : i ≤ n) :
    ∃ v', (∀ w', (execOp (ev f) ⟨some d, .slice t x (some y) none none, ty, pos, af, g⟩).run P w' = .ok (.value v') w') ∧ (Sl w v' sz (n - i.toNat) (xs.drop (i.toNat * sz))) ∧ v'.ownBlock = v.ownBlock := by
  obtain ⟨A, c, rfl, hc⟩ := h.len
  obtain ⟨inf, hi1, hi2⟩ := Option.map_eq_some_iff.1 hz
  have he : P.elem t = e := by simp [Program.elem, hu]
  have hs := sl_cut (i := i.toNat) (j := n) (m := c) h (by omega) (by omega) (by omega) (by omega)
  refine ⟨sliced A (i.toNat) (n) (c) sz, fun w => ?_, by have := hs.1; rwa [List.take_of_length_le (by rw [h.1]; exact Nat.le_refl _)] at this, hs.2⟩
  ·
   have := run_slice_l w t A n c (by rw [he]; exact hu) .i64 i h0 (by omega)
   simp [execOp, hx, hy, run_sliceAt_slice w t _ _ _ _ (by rw [he]; exact hu), this, he, sizeOf, typeInfo, hi1, hi2]
end
/-! literal slices of one-cell elements -/
theorem fill_one : ∀ (vs : List Value) (k : Nat) (cur : Array Value), (∀ v ∈ vs, v.oneCell' = true) → k + vs.length ≤ cur.size →
    Instr.fill (fun i => some (i * 1, 1)) cur ((List.range' k vs.length).zip vs) = some (cur.toList.take k ++ vs ++ cur.toList.drop (k + vs.length)).toArray
  | [], k, cur, _, _ => by simp [Instr.fill]
  | v :: vs, k, cur, h1, hl => by
    have hv : v.cells = #[v] := by
      have := h1 v List.mem_cons_self
      cases v <;> first | rfl | (simp [Value.oneCell'] at this)
    simp only [List.length_cons] at hl
    have hk : k < cur.size := by omega
    have hnot : ¬ (1 ≠ 1 ∨ cur.size < k * 1 + 1) := by omega
    simp only [List.length_cons, List.range'_succ, List.zip_cons_cons, Instr.fill, hv]
    have h2 : (#[v] : Array Value).size = 1 := rfl
    rw [h2]
    have h3 : (decide (1 ≠ 1) || decide (k * 1 + 1 > cur.size)) = false := by simp; omega
    simp only [h3, Bool.false_eq_true, if_false]
    have h4 : Array.foldl (fun cs (x : Value × Nat) => cs.setIfInBounds (k * 1 + x.2) x.1) cur (#[v] : Array Value).zipIdx = cur.setIfInBounds k v := by simp [Array.zipIdx]
    have h5 := fill_one vs (k + 1) (cur.setIfInBounds k v) (fun u hu => h1 u (List.mem_cons_of_mem _ hu)) (by simp; omega)
    refine Eq.trans ?_ (h5.trans ?_)
    · rw [← h4]
    ·
     congr 2
     simp only [Array.toList_setIfInBounds]
     have a1 : (cur.toList.set k v).take (k + 1) = cur.toList.take k ++ [v] := by
       rw [List.take_add_one, List.take_set_of_le (Nat.le_refl _)]
       simp [hk]
     have a2 : (cur.toList.set k v).drop (k + 1 + vs.length) = cur.toList.drop (k + (vs.length + 1)) := by
       rw [List.drop_set_of_lt (by omega)]
       congr 1; omega
     rw [a1, a2]
     simp
section
variable {P : Program} {w : World} {f : Fr} {ty : TypeId} {pos : String} {af : Array Edge} {g : Option (Nat × Bool)} {d k : Nat} {ops : Array Oper} {rest : List Oper} {N : Cn}
theorem build_one {t e len bytes : Nat} {parts : Array (Nat × Operand)} {vs : List Value} {z : Value} {dst : Option Tmp} (ht : P.underlying t = some (.slice e)) (hinfo : (P.info? e).map (fun i => (i.zero, i.size, i.bytes)) = some (some z, 1, bytes)) (hl : Nat.ble 1 len = true) (hl2 : Nat.ble len 16777216 = true)
    (hi : parts.toList.map (·.1) = List.range' 0 len) (hv : parts.toList.map (fun p => ev f p.2) = vs) (h1 : vs.all (·.oneCell') = true) :
    (execOp (ev f) ⟨dst, .buildSlice t len parts, ty, pos, af, g⟩).run P w = .ok (.value (.slice (some ⟨w.heap.size, 0, none⟩) len len)) (w.alloc (.cells vs.toArray e)) := by
  have hlen : vs.length = len := by
    have := congrArg List.length hi
    rw [← hv]; simpa using this
  have h0 := Nat.le_of_ble_eq_true hl
  have h02 := Nat.le_of_ble_eq_true hl2
  refine r_buildSlice ht hinfo (by omega) (by omega) ?_
  have hz : (parts.map fun (i, x) => (i, ev f x)).toList = (List.range' 0 vs.length).zip vs := by
    rw [hlen, ← hi, ← hv]
    simp [List.zip_map']
  rw [hz, fill_one vs 0 _ (fun v hv => List.all_eq_true.1 h1 v hv) (by simp [hlen])]
  simp [hlen]
theorem L_build1 {t e len bytes : Nat} {parts : Array (Nat × Operand)} (vs : List Value) {z : Value} (ht : P.underlying t = some (.slice e)) (hinfo : (P.info? e).map (fun i => (i.zero, i.size, i.bytes)) = some (some z, 1, bytes)) (hl : Nat.ble 1 len = true) (hl2 : Nat.ble len 16777216 = true)
    (hw : Wants ops f ⟨some d, .buildSlice t len parts, ty, pos, af, g⟩) (hn : Nat.blt d k = true)
    (hi : parts.toList.map (·.1) = List.range' 0 len) (hv : parts.toList.map (fun p => ev f p.2) = vs) (h1 : vs.all (·.oneCell') = true)
    (h : ∀ b w1, Bk w1 b vs.toArray e → Sl w1 (.slice (some ⟨b, 0, none⟩) len len) 1 len vs → b = w.heap.size → w1.heap.size = b + 1 → Nw w w1 → Wl P k ops rest N (upd f d (.slice (some ⟨b, 0, none⟩) len len)) w1) :
    Wl P k ops (⟨some d, .buildSlice t len parts, ty, pos, af, g⟩ :: rest) N f w := by
  have hlen : vs.length = len := by
    have := congrArg List.length hi
    rw [← hv]; simpa using this
  exact L_run hw rfl hn (build_one ht hinfo hl hl2 hi hv h1) (h _ _ (Bk.new w _ _) ⟨by simp [hlen], .inr ⟨_, 0, _, _, _, rfl, Nat.le_refl _, (Bk.new w _ _).rk, fun i x hx => by simpa using hx⟩⟩ rfl (by simp) (Ch.alloc w _))
end
/-! making slices of one-cell elements -/
section
variable {P : Program} {w : World} {f : Fr} {ty : TypeId} {pos : String} {af : Array Edge} {g : Option (Nat × Bool)} {d k : Nat} {ops : Array Oper} {rest : List Oper} {N : Cn}
end
/-- A row of one's own, from its block's first cell on; what stands behind it may be anything. -/
def Ow (w : World) (base : Nat) (e : TypeId) (sz : Nat) (v : Value) (n : Nat) (xs : List Value) : Prop :=
  xs.length = n * sz ∧ ((v = .slice none 0 0 ∧ n = 0) ∨
    ∃ g cap cur, v = .slice (some ⟨g, 0, none⟩) n cap ∧ base ≤ g ∧ w.heap[g]? = some (.cells cur e (0, 0)) ∧ n ≤ cap ∧ cap ≤ maxLen ∧ cap * sz ≤ cur.size ∧ cur.toList.take (n * sz) = xs)
section
variable {w w' : World} {base e sz n : Nat} {v : Value} {xs : List Value}
theorem Ow.of (h : w.ownsRow base e sz v n xs) : Ow w base e sz v n xs := by
  obtain ⟨h0, h | ⟨g, cap, cur, h1, h2, h3, h4, h5, h6, h7⟩⟩ := h
  · exact ⟨h0, .inl h⟩
  · exact ⟨h0, .inr ⟨g, cap, cur, h1, h2, h3, h4, h5, by omega, h7⟩⟩
theorem Ow.nil (w : World) (base e sz : Nat) : Ow w base e sz (.slice none 0 0) 0 [] := ⟨by simp, .inl ⟨rfl, rfl⟩⟩
theorem Ow.sl (h : Ow w base e sz v n xs) : Sl w v sz n xs := by
  obtain ⟨h0, h | ⟨g, cp, cur, rfl, h1, h2, h3, h4, h5, h6⟩⟩ := h
  · exact ⟨h0, .inl ⟨none, h⟩⟩
  ·
   refine ⟨h0, .inr ⟨g, 0, cp, cur, e, rfl, h3, ⟨_, h2⟩, fun i x hx => ?_⟩⟩
   have hi : i < n * sz := by rw [← h0]; exact (List.getElem?_eq_some_iff.1 hx).1
   rw [← h6, List.getElem?_take_of_lt hi] at hx
   simpa using hx
theorem ow_base (h : Ow w base e sz v n xs) {k : Nat} (hk : v.ownBlock = some k) : base ≤ k := by
  obtain ⟨_, ⟨rfl, _⟩ | ⟨g, cp, cur, rfl, h1, _⟩⟩ := h
  · cases hk
  · injection hk with hk; subst hk; exact h1
theorem Ow.lt (h : Ow w base e sz v n xs) {k : Nat} (hk : v.ownBlock = some k) : k < w.heap.size := by
  obtain ⟨_, ⟨rfl, _⟩ | ⟨g, cp, cur, rfl, h1, h2, h3⟩⟩ := h
  · cases hk
  · injection hk with hk; subst hk; exact lt_of_block h2
theorem Ow.mono {b : Nat} (h : Ow w base e sz v n xs) (hb : b ≤ base) : Ow w b e sz v n xs := by
  obtain ⟨h0, h | ⟨g, cp, cur, rfl, h1, h2⟩⟩ := h
  · exact ⟨h0, .inl h⟩
  · exact ⟨h0, .inr ⟨g, cp, cur, rfl, Nat.le_trans hb h1, h2⟩⟩
theorem Ow.to (h : Ow w base e sz v n xs) (c : ∀ i, v.ownBlock = some i → Sm w w' i) : Ow w' base e sz v n xs := by
  obtain ⟨h0, h | ⟨g, cp, cur, rfl, h1, h2, h3⟩⟩ := h
  · exact ⟨h0, .inl h⟩
  · exact ⟨h0, .inr ⟨g, cp, cur, rfl, h1, ((c g rfl).2 (lt_of_block h2)).trans h2, h3⟩⟩
theorem Ow.set (h : Ow w base e sz v n xs) {i : Nat} (hi : i < xs.length) (u : Value) : Ow (w.setCell (at_ v i) u) base e sz v n (xs.set i u) := by
  obtain ⟨h0, ⟨rfl, rfl⟩ | ⟨g, cp, cur, rfl, h1, h2, h3, h4, h5, h6⟩⟩ := h
  · simp at h0; subst h0; simp at hi
  ·
   have ha : at_ (.slice (some ⟨g, 0, none⟩) n cp) i = ⟨g, i, none⟩ := by simp [at_]
   rw [ha]
   refine ⟨by simp [h0], .inr ⟨g, cp, cur.setIfInBounds i u, rfl, h1, heap_setCell_same w g i cur e u h2, h3, h4, by simpa using h5, ?_⟩⟩
   rw [← h6]
   simp [List.take_set]
theorem Ow.place (h : Ow w base e sz v n xs) {i : Nat} (hi : i < xs.length) : ∃ g cs, at_ v i = ⟨g, i, none⟩ ∧ v.ownBlock = some g ∧ Bk w g cs e ∧ i < cs.size := by
  obtain ⟨h0, ⟨rfl, rfl⟩ | ⟨g, cp, cur, rfl, h1, h2, h3, h4, h5, h6⟩⟩ := h
  · simp at h0; subst h0; simp at hi
  ·
   refine ⟨g, cur, by simp [at_], rfl, .of h2, ?_⟩
   have := congrArg List.length h6
   simp at this
   omega
/-- Its block's type. -/
theorem Ow.bk (h : Ow w base e sz v n xs) {k : Nat} (hk : v.ownBlock = some k) : ∃ cs, Bk w k cs e := by
  obtain ⟨h0, ⟨rfl, rfl⟩ | ⟨g, cp, cur, rfl, h1, h2, _⟩⟩ := h
  · cases hk
  · injection hk with hk; subst hk; exact ⟨cur, .of h2⟩
/-- Cut at j, with no room: still a row of one's own. -/
theorem Ow.cut {v' : Value} {j : Nat} (h : Ow w base e sz v n xs) (hj : j ≤ n) (hv : v' = (match v with | .slice A _ _ => .slice A j j | x => x)) : Ow w base e sz v' j (xs.take (j * sz)) := by
  subst hv
  obtain ⟨h0, ⟨rfl, rfl⟩ | ⟨g, cp, cur, rfl, h1, h2, h3, h4, h5, h6⟩⟩ := h
  ·
   have : j = 0 := by omega
   subst this
   exact ⟨by simp, .inl ⟨rfl, rfl⟩⟩
  ·
   have hm : j * sz ≤ n * sz := Nat.mul_le_mul_right sz hj
   refine ⟨by rw [List.length_take, h0, Nat.min_eq_left hm], .inr ⟨g, j, cur, rfl, h1, h2, Nat.le_refl _, by omega, Nat.le_trans (Nat.mul_le_mul_right sz (by omega)) h5, ?_⟩⟩
   rw [← h6, List.take_take, Nat.min_eq_left hm]
end
theorem sl_one {w : World} {v : Value} {sz n : Nat} {xs : List Value} (h : Sl w v sz n xs) : v.oneCell' = true := by
  obtain ⟨A, c, rfl, _⟩ := h.len; rfl
theorem own_one {w : World} {v : Value} {base e sz n : Nat} {xs : List Value} (h : w.ownsRow base e sz v n xs) : v.oneCell' = true := sl_one (Sl.own h)
theorem ow_one {w : World} {v : Value} {base e sz n : Nat} {xs : List Value} (h : Ow w base e sz v n xs) : v.oneCell' = true := sl_one h.sl
/-- Blocks of these types, from base on. -/
def Tb (base : Nat) (w : World) (ts : List TypeId) (j : Nat) : Prop := base ≤ j ∧ ∃ cs t fr, w.heap[j]? = some (.cells cs t fr) ∧ t ∈ ts
theorem Tb.not_bk {base : Nat} {w : World} {ts : List TypeId} {j : Nat} {cs : Array Value} {t : TypeId} (h : Bk w j cs t) (ht : ts.contains t = false) : ¬ Tb base w ts j := by
  rintro ⟨_, cs', t', fr', h1, h2⟩
  obtain ⟨fr, h3, _⟩ := h
  rw [h3] at h1
  injection h1 with h1
  injection h1 with _ h1 _
  subst h1
  rw [← List.contains_iff_mem, ht] at h2
  cases h2
theorem Bk.sm {w w' : World} {j : Nat} {cs : Array Value} {t : TypeId} (h : Bk w j cs t) (e : w'.heap[j]? = w.heap[j]?) : Bk w' j cs t := by
  obtain ⟨fr, h3, k⟩ := h
  exact ⟨fr, e.trans h3, k⟩
theorem Sm.stepT {S : Nat → Prop} {w w1 w2 : World} {i : Nat} (c : Ch S w1 w2) (hS : i < w.heap.size → w1.heap[i]? = w.heap[i]? → ¬ S i) (h : Sm w w1 i) : Sm w w2 i :=
  ⟨Nat.le_trans h.1 c.size, fun hi => (c.blk i (Nat.lt_of_lt_of_le hi h.1) (hS hi (h.2 hi))).trans (h.2 hi)⟩
theorem bk_not {w w1 : World} {base b : Nat} {ts : List TypeId} {cs : Array Value} {t : TypeId} (h : Bk w b cs t) (e : w1.heap[b]? = w.heap[b]?) (ht : ts.contains t = false) : ¬ Tb base w1 ts b := Tb.not_bk (h.sm e) ht
theorem own_not {w w1 : World} {base base' e sz n i : Nat} {v : Value} {xs : List Value} {ts : List TypeId} (h : w.ownsRow base e sz v n xs) (hi : v.ownBlock = some i) (he : w1.heap[i]? = w.heap[i]?) (ht : ts.contains e = false) : ¬ Tb base' w1 ts i := by
  obtain ⟨cs, hb⟩ := (Ow.of h).bk hi
  exact bk_not hb he ht
theorem ow_not {w w1 : World} {base base' e sz n i : Nat} {v : Value} {xs : List Value} {ts : List TypeId} (h : Ow w base e sz v n xs) (hi : v.ownBlock = some i) (he : w1.heap[i]? = w.heap[i]?) (ht : ts.contains e = false) : ¬ Tb base' w1 ts i := by
  obtain ⟨cs, hb⟩ := h.bk hi
  exact bk_not hb he ht
end Go.Proofs.YtgmeojpekdekeaaGreatDoor

namespace Go.Proofs.YtgmeojpekdekeaaGreatDoor
open Go Go.RowKit
set_option linter.unusedVariables false
set_option linter.unusedSimpArgs false
/-! appending to such a row -/
section
variable {P : Program} {w : World} {f : Fr} {ty : TypeId} {pos : String} {af : Array Edge} {g : Option (Nat × Bool)} {v u : Value} {sz n m : Nat} {xs ys : List Value}
theorem ap_none {t e base : Nat} {A : Option Addr} (ht : P.underlying t = some (.slice e)) (hi : (P.info? e).isSome = true) (h : Ow w base e sz v n xs) : (Builtin.append_ #[t, t] ty #[v, .slice A 0 0]).run P w = .ok v w := by
  obtain ⟨i, hi⟩ := Option.isSome_iff_exists.1 hi
  obtain ⟨_, ⟨rfl, rfl⟩ | ⟨g, cap, cur, rfl, _, _, hnc, _⟩⟩ := h
  · cases A <;> simp [Builtin.append_, run_underlying ht, sizeOf, typeInfo, hi, Builtin.lenOf, Builtin.firstCells, loadCells, loadCellsFrom]
  · cases A <;> simp [Builtin.append_, run_underlying ht, sizeOf, typeInfo, hi, Builtin.lenOf, Builtin.firstCells, hnc, storeCells, loadCells, loadCellsFrom]
theorem ap_ow {t e base bytes : Nat} {z : Value} (ht : P.underlying t = some (.slice e)) (hinfo : (P.info? e).map (fun i => (i.zero, i.size, i.bytes)) = some (some z, sz, bytes)) (hzs : z.cells.size = sz) (hsz : 0 < sz)
    (hown : Ow w base e sz v n xs) (hu : Sl w u sz m ys) (h1 : ∀ y ∈ ys, y.oneCell' = true) (h63 : n + m ≤ maxLen) (hby : (n + m) * bytes ≤ 140737488355328) (hb : base ≤ w.heap.size) :
    ∃ v' w', (Builtin.append_ #[t, t] ty #[v, u]).run P w = .ok v' w' ∧ Ow w' base e sz v' (n + m) (xs ++ ys) ∧ Ch (fun j => v.ownBlock = some j) w w' ∧ (∀ j, v'.ownBlock = some j → v.ownBlock = some j ∨ j = w.heap.size) := by
  obtain ⟨i, hi, hz0, hz1, hz2⟩ := info_parts hinfo
  obtain ⟨hu0, ⟨A0, rfl, rfl⟩ | ⟨b, o, cu, cs, t', rfl, h2, h3, h4⟩⟩ := hu
  ·
   have : ys = [] := List.eq_nil_of_length_eq_zero (by simpa using hu0)
   subst this
   exact ⟨v, w, ap_none ht (by rw [hi]; rfl) hown, by simpa using hown, Ch.refl w, fun j hj => .inl hj⟩
  obtain ⟨hx0, ⟨rfl, rfl⟩ | ⟨gb, cap, cur, rfl, k1, k2, k3, k4, k5, k6⟩⟩ := hown
  ·
   have : xs = [] := List.eq_nil_of_length_eq_zero (by simpa using hx0)
   subst this
   obtain ⟨v', w', h5, h6, h7⟩ := ap_own (ty := ty) (w := w) (base := w.heap.size) (v := .slice none 0 0) (n := 0) (xs := []) ht hinfo hzs hsz (Own.nil w _ e sz) (u := .slice (some ⟨b, o, none⟩) m cu) (ys := ys) ⟨hu0, .inr ⟨b, o, cu, cs, t', rfl, h2, h3, h4⟩⟩ h1 h63 hby (Nat.le_refl _)
   refine ⟨v', w', h5, (Ow.of h6).mono hb, (Ch.of_grown h7).mono (fun i _ hi => by simp [Value.ownBlock] at hi), fun j hj => ?_⟩
   have h8 := own_base h6 hj
   have h9 := own_lt h6 hj
   refine .inr ?_
   -- the append to nothing lays one block
   have hm : 0 < m ∨ m = 0 := by omega
   rcases hm with hm | rfl
   ·
    have hr := run_append_nil (P := P) w t ty e i z ht hi hz0 ⟨b, o, none⟩ m cu ys (by rw [hz1]; exact hu0) (fun j y hj => by rw [add_lit, h3.cell]; exact h4 j y hj) hm (by simp only [maxLen] at h63; omega) (by rw [hz2]; simp only [Nat.zero_add] at hby; omega)
    rw [hr] at h5
    injection h5 with h5 h5'
    subst h5
    injection hj with hj
    exact hj.symm
   ·
    have : ys = [] := List.eq_nil_of_length_eq_zero (by simpa using hu0)
    subst this
    have hr : (Builtin.append_ #[t, t] ty #[.slice none 0 0, .slice (some ⟨b, o, none⟩) 0 cu]).run P w = .ok (.slice none 0 0) w := by
      simp [Builtin.append_, run_underlying ht, sizeOf, typeInfo, hi, Builtin.lenOf, Builtin.firstCells, loadCells, loadCellsFrom]
    rw [hr] at h5
    injection h5 with h5 h5'
    subst h5
    cases hj
  ·
   have hsl : Sl w (.slice (some ⟨gb, 0, none⟩) n cap) sz n xs := Ow.sl (base := gb) (e := e) ⟨hx0, .inr ⟨gb, cap, cur, rfl, Nat.le_refl _, k2, k3, k4, k5, k6⟩⟩
   have hlen : (xs ++ ys).length = (n + m) * sz := by rw [List.length_append, hx0, hu0, Nat.add_mul]
   by_cases hroom : n + m ≤ cap
   ·
    have hfit : n * sz + ys.length ≤ cur.size := by rw [hu0, ← Nat.add_mul]; exact Nat.le_trans (Nat.mul_le_mul_right _ hroom) k5
    have hr := run_append_room (P := P) w t ty e i ht hi gb n cap cur k2 ⟨b, o, none⟩ m cu ys (by rw [hz1]; exact hu0) (fun j y hj => by rw [add_lit, h3.cell]; exact h4 j y hj) h1 hroom (by rw [hz1]; exact hfit)
    rw [hz1] at hr
    refine ⟨_, _, hr, ⟨hlen, .inr ⟨gb, cap, _, rfl, k1, setRow_heap w gb cur _ e _ k2, hroom, k4, ?_, ?_⟩⟩, (Ch.setRow w gb _).mono fun j _ hj => by simp [Value.ownBlock, show j = gb from hj], fun j hj => .inl hj⟩
    ·
     simp only [List.size_toArray, List.length_append, List.length_take, List.length_drop, Array.length_toList]
     omega
    ·
     rw [k6, ← hlen]
     exact List.take_left
   ·
    have hnm : cap < n + m := by omega
    have hfit := growslice_fits hnm hby
    unfold maxLen at h63
    have hrun := run_append_grow (P := P) w t ty e i z ht hi hz0 ⟨gb, 0, none⟩ n cap xs (by rw [hz1]; exact hx0) (fun j y hj => by
        have := hsl.cell hj
        rw [add_lit]
        simpa [at_] using this) ⟨b, o, none⟩ m cu ys (by rw [hz1]; exact hu0) (fun j y hj => by rw [add_lit, h3.cell]; exact h4 j y hj) hnm (by omega) (by rw [hz2]; exact hfit)
    refine ⟨_, _, hrun, ?_, ((Ch.drew w).trans (Ch.alloc w.drew _)).nw, fun j hj => .inr ?_⟩
    ·
     have hcap : n + m ≤ grownCap w (n + m) cap e := grownCap_ge w _ _ _
     have hcap2 : grownCap w (n + m) cap e ≤ maxLen := grownCap_le_maxLen w _ _ _ (by unfold maxLen; exact h63)
     refine ⟨hlen, .inr ⟨w.heap.size, _, _, rfl, hb, heap_alloc_new w.drew _, hcap, hcap2, ?_, ?_⟩⟩
     ·
      have hzz : (Builtin.zeroCells z.cells (grownCap w (n + m) cap e - (n + m))).size = (grownCap w (n + m) cap e - (n + m)) * sz := by simp [Builtin.zeroCells, hzs]
      simp only [Array.size_append, List.size_toArray, hx0, hu0, hzz]
      rw [← Nat.add_mul, ← Nat.add_mul]
      exact Nat.mul_le_mul_right _ (by omega)
     ·
      rw [← hlen]
      simp only [Array.toList_append, List.append_assoc]
      rw [← List.append_assoc, List.take_left']
      simp
    ·
     injection hj with hj
     exact hj.symm
variable {d k : Nat} {ops : Array Oper} {rest : List Oper} {N : Cn} {X : Nat → Cn} {R : Cn} {S : World → Prop} {kk fuel i : Nat} {listed : Array Bool}
theorem L_apow {s x : Operand} {t e base bytes : Nat} {z : Value} (ht : P.underlying t = some (.slice e)) (hinfo : (P.info? e).map (fun i => (i.zero, i.size, i.bytes)) = some (some z, sz, bytes)) (hzs : z.cells.size = sz) (hsz : 0 < sz)
    (hw : Wants ops f ⟨some d, .call { callee := .builtin .append, args := #[s, x], argTypes := #[t, t] }, ty, pos, af, g⟩) (hn : Nat.blt d k = true) (hs : ev f s = v) (hx : ev f x = u)
    (hown : Ow w base e sz v n xs) (hu : Sl w u sz m ys) (h1 : ∀ y ∈ ys, y.oneCell' = true) (h63 : n + m ≤ maxLen) (hby : (n + m) * bytes ≤ 140737488355328) (hb : base ≤ w.heap.size)
    (h : ∀ v' w1, Ow w1 base e sz v' (n + m) (xs ++ ys) → Ch (fun j => v.ownBlock = some j) w w1 → (∀ j, v'.ownBlock = some j → v.ownBlock = some j ∨ j = w.heap.size) → Wl P k ops rest N (upd f d v') w1) :
    Wl P k ops (⟨some d, .call { callee := .builtin .append, args := #[s, x], argTypes := #[t, t] }, ty, pos, af, g⟩ :: rest) N f w := by
  obtain ⟨v', w', h2, h3, h4, h5⟩ := ap_ow (ty := ty) ht hinfo hzs hsz hown hu h1 h63 hby hb
  exact L_run hw rfl hn (r_append hs hx h2) (h v' w' h3 h4 h5)
end
section
variable {P : Program} {w : World} {f : Fr} {ty : TypeId} {pos : String} {af : Array Edge} {g : Option (Nat × Bool)} {v : Value} {n e sz d base e' : Nat} {xs : List Value} {x : Operand} {t : TypeId} {j m : Int}
end
/-! an operation that is told by what it yields in whatever world -/
section
variable {P : Program} {n : Nat} {ops : Array Oper} {rest : List Oper} {N : Cn} {X : Nat → Cn} {R : Cn} {S : World → Prop} {kk : Nat} {f : Fr} {w : World} {fuel d : Nat} {listed : Array Bool} {o : Oper} {T : Value → Prop} {Z : Fr → Prop}
theorem L_pure (hw : Wants ops f o) (hd : o.dst = some d) (hn : Nat.blt d n = true) (hex : ∃ v, (∀ w', (execOp (ev f) o).run P w' = .ok (.value v) w') ∧ T v)
    (h : ∀ v, T v → Wl P n ops rest N (upd f d v) w) : Wl P n ops (o :: rest) N f w := by
  obtain ⟨v, h1, h2⟩ := hex
  exact L_run hw hd hn (h1 w) (h v h2)
end
/-! nil, structs, empty literals -/
section
variable {P : Program} {w : World} {f : Fr} {dst : Option Tmp} {ty : TypeId} {pos : String} {af : Array Edge} {g : Option (Nat × Bool)} {v : Value} {sz n : Nat} {xs : List Value}
def nilS : Value → Bool
  | .slice none _ _ => true
  | _ => false
theorem r_funcL {fn : Go.Fn} {first cap : Array Operand} {l1 l2 : List Value} (h1 : first.toList.map (ev f) = l1) (h2 : cap.toList.map (ev f) = l2) : (execOp (ev f) ⟨dst, .makeFunc fn first cap, ty, pos, af, g⟩).run P w = .ok (.value (.func fn l1.toArray l2.toArray)) w := by
  subst h1 h2
  have e : ∀ a : Array Operand, a.map (ev f) = (a.toList.map (ev f)).toArray := fun a => by apply Array.ext'; rw [Array.toList_map]
  exact r_func (e _) (e _)
theorem r_build {t : TypeId} {parts : Array (Nat × Operand)} {cells : Array Value} (h : P.built t (parts.toList.map fun p => (p.1, ev f p.2)) = some cells) : (execOp (ev f) ⟨dst, .build t parts, ty, pos, af, g⟩).run P w = .ok (.value (.agg cells)) w := by
  have h2 := run_build w t (parts.map fun p => (p.1, ev f p.2)) cells (by simpa using h)
  simp [execOp, h2]
/-- One-cell parts laid at their places. -/
def put1 (pl : List (Nat × Nat)) : List (Nat × Value) → List Value → Option (List Value)
  | [], cs => some cs
  | (i, v) :: r, cs => match pl[i]? with
    | some (o, 1) => if o < cs.length then put1 pl r (cs.set o v) else none
    | _ => none
theorem fill_put1 (pl : List (Nat × Nat)) : ∀ (vs : List (Nat × Value)) (cs : Array Value) (out : List Value), (vs.all fun p => p.2.oneCell') = true → put1 pl vs cs.toList = some out →
    Instr.fill (pl.toArray[·]?) cs vs = some out.toArray
  | [], cs, out, _, h => by simp only [put1] at h; injection h with h; subst h; simp [Instr.fill]
  | (i, v) :: r, cs, out, h1, h => by
    simp only [List.all_cons, Bool.and_eq_true] at h1
    have hv : v.cells = #[v] := by
      have := h1.1
      cases v <;> first | rfl | (simp [Value.oneCell'] at this)
    simp only [put1] at h
    split at h
    ·
     rename_i o hpl
     split at h
     ·
      rename_i ho
      have hi : pl.toArray[i]? = some (o, 1) := by simpa using hpl
      have h3 : (decide (v.cells.size ≠ 1) || decide (o + v.cells.size > cs.size)) = false := by
        simp only [hv, Array.length_toList] at ho ⊢
        simp; omega
      have h4 : v.cells.zipIdx.foldl (fun cs (x : Value × Nat) => cs.setIfInBounds (o + x.2) x.1) cs = cs.setIfInBounds o v := by rw [hv]; simp [Array.zipIdx]
      have ih := fill_put1 pl r (cs.setIfInBounds o v) out h1.2 (by rw [Array.toList_setIfInBounds]; exact h)
      simp only [Instr.fill, hi, h3, Bool.false_eq_true, if_false]
      rw [← ih, ← h4]
     · cases h
    · cases h
theorem r_build1 {t : TypeId} {fs : Array Field} {parts : Array (Nat × Operand)} {z : Array Value} {pl : List (Nat × Nat)} {vs : List (Nat × Value)} {cells : List Value} (hu : P.underlying t = some (.struct fs)) (hz : (P.info? t).bind (·.zero) = some (.agg z))
    (hp : fs.toList.mapM (fun f => (P.info? f.type).map fun i => (f.offset, i.size)) = some pl) (hv : (parts.toList.map fun p => (p.1, ev f p.2)) = vs) (h1 : (vs.all fun p => p.2.oneCell') = true) (hc : put1 pl vs z.toList = some cells) :
    (execOp (ev f) ⟨dst, .build t parts, ty, pos, af, g⟩).run P w = .ok (.value (.agg cells.toArray)) w := by
  refine r_build ?_
  rw [hv]
  unfold Program.built
  cases hi : P.info? t with
  | none => rw [hi] at hz; cases hz
  | some it =>
    rw [hi] at hz
    simp only [Option.bind_some] at hz
    simp only [hu, hz, hp]
    exact fill_put1 pl vs z cells h1 hc
theorem foldSet : ∀ (v : List Value) (n off : Nat) (cur : List Value), off + n + v.length ≤ cur.length →
    (v.zipIdx n).foldl (fun (cs : Array Value) (x : Value × Nat) => cs.setIfInBounds (off + x.2) x.1) cur.toArray = (cur.take (off + n) ++ v ++ cur.drop (off + n + v.length)).toArray
  | [], n, off, cur, h => by simp
  | x :: v, n, off, cur, h => by
    simp only [List.length_cons] at h
    simp only [List.zipIdx_cons, List.foldl_cons, List.setIfInBounds_toArray]
    rw [foldSet v (n + 1) off (cur.set (off + n) x) (by simp; omega)]
    congr 1
    have a1 : (cur.set (off + n) x).take (off + (n + 1)) = cur.take (off + n) ++ [x] := by
      rw [show off + (n + 1) = off + n + 1 by omega, List.take_add_one, List.take_set_of_le (Nat.le_refl _)]
      simp [show off + n < cur.length by omega]
    have a2 : (cur.set (off + n) x).drop (off + (n + 1) + v.length) = cur.drop (off + n + (v.length + 1)) := by
      rw [List.drop_set_of_lt (by omega)]; congr 1; omega
    rw [a1, a2]
    simp
theorem fill_rows {sz : Nat} : ∀ (vs : List (List Value)) (k : Nat) (cur : List Value), (vs.all fun v => v.length == sz) = true → (k + vs.length) * sz ≤ cur.length →
    Instr.fill (fun i => some (i * sz, sz)) cur.toArray ((List.range' k vs.length).zip (vs.map fun v => .agg v.toArray)) = some (cur.take (k * sz) ++ vs.flatten ++ cur.drop ((k + vs.length) * sz)).toArray
  | [], k, cur, _, _ => by simp [Instr.fill]
  | v :: vs, k, cur, h1, hl => by
    simp only [List.all_cons, Bool.and_eq_true, beq_iff_eq] at h1
    simp only [List.length_cons] at hl
    have hk : k * sz + sz + vs.length * sz ≤ cur.length := by
      have : (k + (vs.length + 1)) * sz = k * sz + sz + vs.length * sz := by rw [Nat.add_mul, Nat.add_mul, Nat.one_mul]; omega
      omega
    have h2 : (Value.agg v.toArray).cells.size = sz := by show v.toArray.size = sz; simp [h1.1]
    have h3 : (decide ((Value.agg v.toArray).cells.size ≠ sz) || decide (k * sz + (Value.agg v.toArray).cells.size > cur.toArray.size)) = false := by
      rw [h2]; simp; omega
    simp only [List.length_cons, List.range'_succ, List.map_cons, List.zip_cons_cons, Instr.fill, h3, Bool.false_eq_true, if_false]
    have h4 : (Value.agg v.toArray).cells.zipIdx.foldl (fun (cs : Array Value) (x : Value × Nat) => cs.setIfInBounds (k * sz + x.2) x.1) cur.toArray = (cur.take (k * sz) ++ v ++ cur.drop (k * sz + sz)).toArray := by
      have := foldSet v 0 (k * sz) cur (by omega)
      rw [Nat.add_zero, h1.1] at this
      rw [← this]
      show (v.toArray.zipIdx).foldl _ _ = _
      simp
    have h5 := fill_rows (sz := sz) vs (k + 1) (cur.take (k * sz) ++ v ++ cur.drop (k * sz + sz)) h1.2 (by
      simp only [List.length_append, List.length_take, List.length_drop, h1.1]
      rw [show k + 1 + vs.length = k + (vs.length + 1) by omega]
      omega)
    refine Eq.trans ?_ (h5.trans ?_)
    · rw [← h4]
    ·
     congr 2
     have hlen : (cur.take (k * sz) ++ v).length = (k + 1) * sz := by
       simp only [List.length_append, List.length_take, h1.1, Nat.add_mul, Nat.one_mul]; omega
     have a1 : (cur.take (k * sz) ++ v ++ cur.drop (k * sz + sz)).take ((k + 1) * sz) = cur.take (k * sz) ++ v := List.take_left' hlen
     have a2 : (cur.take (k * sz) ++ v ++ cur.drop (k * sz + sz)).drop ((k + 1 + vs.length) * sz) = cur.drop ((k + (vs.length + 1)) * sz) := by
       rw [show (k + 1 + vs.length) * sz = (k + 1) * sz + vs.length * sz by rw [Nat.add_mul (k + 1)], ← List.drop_drop, List.drop_left' hlen, List.drop_drop]
       congr 1
       rw [Nat.add_mul, Nat.add_mul, Nat.one_mul]; omega
     rw [a1, a2]
     simp
variable {d k : Nat} {ops : Array Oper} {rest : List Oper} {N : Cn}
/-- A literal slice of one-cell elements, as a row of one's own. -/
theorem L_build1o {t e len bytes : Nat} {parts : Array (Nat × Operand)} (vs : List Value) {z : Value} (ht : P.underlying t = some (.slice e)) (hinfo : (P.info? e).map (fun i => (i.zero, i.size, i.bytes)) = some (some z, 1, bytes)) (hl : Nat.ble 1 len = true) (hl2 : Nat.ble len 16777216 = true)
    (hw : Wants ops f ⟨some d, .buildSlice t len parts, ty, pos, af, g⟩) (hn : Nat.blt d k = true)
    (hi : parts.toList.map (·.1) = List.range' 0 len) (hv : parts.toList.map (fun p => ev f p.2) = vs) (h1 : vs.all (·.oneCell') = true)
    (h : ∀ v w1, w1.ownsRow w.heap.size e 1 v len vs → v.ownBlock = some w.heap.size → w1.heap.size = w.heap.size + 1 → Nw w w1 → Wl P k ops rest N (upd f d v) w1) :
    Wl P k ops (⟨some d, .buildSlice t len parts, ty, pos, af, g⟩ :: rest) N f w := by
  have hlen : vs.length = len := by
    have := congrArg List.length hi
    rw [← hv]; simpa using this
  have h02 := Nat.le_of_ble_eq_true hl2
  exact L_run hw rfl hn (build_one ht hinfo hl hl2 hi hv h1) (h _ _ ⟨by simp [hlen], .inr ⟨w.heap.size, len, vs.toArray, rfl, Nat.le_refl _, heap_alloc_new w _, Nat.le_refl _, by unfold maxLen; omega, by simp [hlen], by simp [← hlen]⟩⟩ rfl (by simp) (Ch.alloc w _))
/-- A literal slice of structs. -/
theorem L_buildrow {t e len bytes m : Nat} {parts : Array (Nat × Operand)} (vs : List (List Value)) {z : Value} (ht : P.underlying t = some (.slice e)) (hinfo : (P.info? e).map (fun i => (i.zero, i.size, i.bytes)) = some (some z, m, bytes)) (hl : Nat.ble 1 (len * m) = true) (hl2 : Nat.ble (len * m) 16777216 = true)
    (hw : Wants ops f ⟨some d, .buildSlice t len parts, ty, pos, af, g⟩) (hn : Nat.blt d k = true)
    (hi : parts.toList.map (·.1) = List.range' 0 len) (hv : parts.toList.map (fun p => ev f p.2) = vs.map (fun v => .agg v.toArray)) (h1 : (vs.all fun v => v.length == m) = true)
    (h : ∀ b w1, Bk w1 b vs.flatten.toArray e → Sl w1 (.slice (some ⟨b, 0, none⟩) len len) m len vs.flatten → b = w.heap.size → w1.heap.size = b + 1 → Nw w w1 → Wl P k ops rest N (upd f d (.slice (some ⟨b, 0, none⟩) len len)) w1) :
    Wl P k ops (⟨some d, .buildSlice t len parts, ty, pos, af, g⟩ :: rest) N f w := by
  have hlen : vs.length = len := by
    have h3 := congrArg List.length hi
    have h4 := congrArg List.length hv
    simp only [List.length_map, List.length_range'] at h3 h4
    omega
  have h0 := Nat.le_of_ble_eq_true hl
  have h02 := Nat.le_of_ble_eq_true hl2
  have hfl : ∀ vs : List (List Value), (vs.all fun v => v.length == m) = true → vs.flatten.length = vs.length * m := by
    intro vs
    induction vs with
    | nil => intro _; simp
    | cons v vs ih =>
      intro h
      simp only [List.all_cons, Bool.and_eq_true, beq_iff_eq] at h
      simp only [List.flatten_cons, List.length_append, List.length_cons, ih h.2, h.1, Nat.add_mul, Nat.one_mul]; omega
  have hr : (execOp (ev f) ⟨some d, .buildSlice t len parts, ty, pos, af, g⟩).run P w = .ok (.value (.slice (some ⟨w.heap.size, 0, none⟩) len len)) (w.alloc (.cells vs.flatten.toArray e)) := by
    refine r_buildSlice ht hinfo (by omega) (by omega) ?_
    have hz : (parts.map fun (i, x) => (i, ev f x)).toList = (List.range' 0 vs.length).zip (vs.map fun v => .agg v.toArray) := by
      rw [hlen, ← hi, ← hv]
      simp [List.zip_map']
    have h5 := fill_rows (sz := m) vs 0 ((Array.range (len * m)).map (z.cells[· % z.cells.size]!)).toList h1 (by simp [hlen])
    rw [hz]
    rw [Array.toArray_toList] at h5
    rw [h5]
    simp [hlen]
  exact L_run hw rfl hn hr (h _ _ (Bk.new w _ _) ⟨by rw [hfl vs h1, hlen], .inr ⟨_, 0, _, _, _, rfl, Nat.le_refl _, (Bk.new w _ _).rk, fun i x hx => by simpa using hx⟩⟩ rfl (by simp) (Ch.alloc w _))
end
/-! changes by the blocks' types -/
theorem Ow.tb {w w' : World} {base b0 e sz n : Nat} {v : Value} {xs : List Value} {ts : List TypeId} (h : Ow w base e sz v n xs) (c : Ch (Tb b0 w ts) w w') (ht : ts.contains e = false) : Ow w' base e sz v n xs :=
  h.to fun i hi => Sm.step c (fun _ => ow_not h hi rfl ht) (Sm.refl _ _)
theorem Ow.nw {w w' : World} {base e sz n : Nat} {v : Value} {xs : List Value} (h : Ow w base e sz v n xs) (c : Nw w w') : Ow w' base e sz v n xs :=
  h.to fun i hi => Sm.step c (fun _ => not_no) (Sm.refl _ _)
/-! What the walks ask for again and again: what is told of an older world is brought to this one; what is left out is found by tactics where a law is used. -/
section
variable {w w' : World} {base b e sz n i : Nat} {v : Value} {xs : List Value} {cs : Array Value} {t : TypeId}
theorem Ch.au {T : Nat → Prop} (h : Ch T w w' := by repeat (first | exact Ch.refl _ | assumption | (refine Ch.fresh ?_ (by assumption) (by intro i hi he; first | exact he | exact (not_no he).elim | exact Or.inl he | exact Or.inr (Or.inl he) | exact Or.inr (Or.inr he) | (exfalso; have he2 : _ = some i := he; have := own_base (by assumption) he2; omega) | (exfalso; have he2 : i = _ := he; omega) | (exfalso; have he2 : _ = some i := he; have := ow_base (by assumption) he2; omega) | (exfalso; have := he.1; omega) | (exfalso; have he2 : _ = some i := he; have := hlo _ he2; omega) | exact Or.inr he | (rcases he with he | he <;> (first | exact he | exact Or.inl he | exact Or.inr he | (exfalso; have he2 : i = _ := he; omega))))))) : Ch T w w' := h
theorem Sm.au (h : Sm w w' i := by repeat (first | exact Sm.refl _ _ | (refine Sm.stepT (by assumption) (by intro hlt hsm; first | exact not_no | (intro he; have he2 : _ = some _ := he; have := own_base (by assumption) he2; omega) | (intro he; have he2 : _ = _ := he; omega) | (intro he; have he2 : _ = some _ := he; have := ow_base (by assumption) he2; omega) | (intro he; have := he.1; omega) | exact bk_not (by assumption) hsm rfl | exact mp_not (by assumption) hsm | exact bkm_not (by assumption) hsm rfl | exact ownm_not (by assumption) hi hsm rfl | exact owm_not (by assumption) hi hsm rfl | exact own_not (by assumption) hi hsm rfl | exact ow_not (by assumption) hi hsm rfl | (intro he; have he2 : _ = some _ := he; have := Ow.lt (by assumption) he2; omega) | (intro he; have he2 : _ = some _ := he; have := Ow.lt (by assumption) he2; have := own_base (by assumption) hi; omega) | (intro he; have he2 : _ = some _ := he; have := Ow.lt how he2; first | omega | (have := own_base (by assumption) hi; omega)) | (intro he; have he2 : _ = _ := he; have := Ow.lt how hi; omega) | (intro he; have he2 : _ = _ := he; have := own_base (by assumption) hi; omega) | (intro he; have he2 : _ = _ := he; have := ow_base (by assumption) hi; omega) | (intro he; have he2 : _ = _ := he; rw [he2] at hi; exact absurd hi (by assumption)) | (intro he; have he2 : _ = some _ := he; have h3 := own_lt (by assumption) he2; first | omega | (have h4 : _ = some _ := hi; simp [Value.ownBlock] at h4; omega)) | (intro he; have he2 : _ = some _ := he; have h3 := ow_base (by assumption) he2; have h4 : _ = some _ := hi; simp [Value.ownBlock] at h4; omega) | (intro he; have he2 : _ = some _ := he; exact absurd he2 (hsep _ hi)) | (intro he; have he2 : _ = _ := he; have := hlo _ hi; omega) | (intro he; have he2 : _ = some _ := he; have := hlo _ he2; omega) | (intro he; first | exact absurd he (by assumption) | exact absurd he.symm (by assumption)) | (intro he; have he2 : _ = _ ∨ _ = _ := he; omega)) ?_))) : Sm w w' i := h
theorem Bk.au (h : Bk w b cs t := by assumption) (c : Sm w w' b := by repeat (first | exact Sm.refl _ _ | (refine Sm.stepT (by assumption) (by intro hlt hsm; first | exact not_no | (intro he; have he2 : _ = some _ := he; have := own_base (by assumption) he2; omega) | (intro he; have he2 : _ = _ := he; omega) | (intro he; have he2 : _ = some _ := he; have := ow_base (by assumption) he2; omega) | (intro he; have := he.1; omega) | exact bk_not (by assumption) hsm rfl | exact mp_not (by assumption) hsm | exact bkm_not (by assumption) hsm rfl | exact ownm_not (by assumption) hi hsm rfl | exact owm_not (by assumption) hi hsm rfl | exact own_not (by assumption) hi hsm rfl | exact ow_not (by assumption) hi hsm rfl | (intro he; have he2 : _ = some _ := he; have := Ow.lt (by assumption) he2; omega) | (intro he; have he2 : _ = some _ := he; have := Ow.lt (by assumption) he2; have := own_base (by assumption) hi; omega) | (intro he; have he2 : _ = some _ := he; have := Ow.lt how he2; first | omega | (have := own_base (by assumption) hi; omega)) | (intro he; have he2 : _ = _ := he; have := Ow.lt how hi; omega) | (intro he; have he2 : _ = _ := he; have := own_base (by assumption) hi; omega) | (intro he; have he2 : _ = _ := he; have := ow_base (by assumption) hi; omega) | (intro he; have he2 : _ = _ := he; rw [he2] at hi; exact absurd hi (by assumption)) | (intro he; have he2 : _ = some _ := he; have h3 := own_lt (by assumption) he2; first | omega | (have h4 : _ = some _ := hi; simp [Value.ownBlock] at h4; omega)) | (intro he; have he2 : _ = some _ := he; have h3 := ow_base (by assumption) he2; have h4 : _ = some _ := hi; simp [Value.ownBlock] at h4; omega) | (intro he; have he2 : _ = some _ := he; exact absurd he2 (hsep _ hi)) | (intro he; have he2 : _ = _ := he; have := hlo _ hi; omega) | (intro he; have he2 : _ = some _ := he; have := hlo _ he2; omega) | (intro he; first | exact absurd he (by assumption) | exact absurd he.symm (by assumption)) | (intro he; have he2 : _ = _ ∨ _ = _ := he; omega)) ?_))) : Bk w' b cs t := Bk.to h c
theorem Mu.au (h : Mu w b v n xs := by assumption) (c : Sm w w' b := by repeat (first | exact Sm.refl _ _ | (refine Sm.stepT (by assumption) (by intro hlt hsm; first | exact not_no | (intro he; have he2 : _ = some _ := he; have := own_base (by assumption) he2; omega) | (intro he; have he2 : _ = _ := he; omega) | (intro he; have he2 : _ = some _ := he; have := ow_base (by assumption) he2; omega) | (intro he; have := he.1; omega) | exact bk_not (by assumption) hsm rfl | exact mp_not (by assumption) hsm | exact bkm_not (by assumption) hsm rfl | exact ownm_not (by assumption) hi hsm rfl | exact owm_not (by assumption) hi hsm rfl | exact own_not (by assumption) hi hsm rfl | exact ow_not (by assumption) hi hsm rfl | (intro he; have he2 : _ = some _ := he; have := Ow.lt (by assumption) he2; omega) | (intro he; have he2 : _ = some _ := he; have := Ow.lt (by assumption) he2; have := own_base (by assumption) hi; omega) | (intro he; have he2 : _ = some _ := he; have := Ow.lt how he2; first | omega | (have := own_base (by assumption) hi; omega)) | (intro he; have he2 : _ = _ := he; have := Ow.lt how hi; omega) | (intro he; have he2 : _ = _ := he; have := own_base (by assumption) hi; omega) | (intro he; have he2 : _ = _ := he; have := ow_base (by assumption) hi; omega) | (intro he; have he2 : _ = _ := he; rw [he2] at hi; exact absurd hi (by assumption)) | (intro he; have he2 : _ = some _ := he; have h3 := own_lt (by assumption) he2; first | omega | (have h4 : _ = some _ := hi; simp [Value.ownBlock] at h4; omega)) | (intro he; have he2 : _ = some _ := he; have h3 := ow_base (by assumption) he2; have h4 : _ = some _ := hi; simp [Value.ownBlock] at h4; omega) | (intro he; have he2 : _ = some _ := he; exact absurd he2 (hsep _ hi)) | (intro he; have he2 : _ = _ := he; have := hlo _ hi; omega) | (intro he; have he2 : _ = some _ := he; have := hlo _ he2; omega) | (intro he; first | exact absurd he (by assumption) | exact absurd he.symm (by assumption)) | (intro he; have he2 : _ = _ ∨ _ = _ := he; omega)) ?_))) : Mu w' b v n xs := Mu.to h c
theorem Sl.au (h : Sl w v sz n xs := by first | assumption | exact Sl.own (by assumption) | exact Mu.sl (by assumption) | exact Ow.sl (by assumption)) (c : ∀ i, v.ownBlock = some i → Sm w w' i := by intro i hi; repeat (first | exact Sm.refl _ _ | (refine Sm.stepT (by assumption) (by intro hlt hsm; first | exact not_no | (intro he; have he2 : _ = some _ := he; have := own_base (by assumption) he2; omega) | (intro he; have he2 : _ = _ := he; omega) | (intro he; have he2 : _ = some _ := he; have := ow_base (by assumption) he2; omega) | (intro he; have := he.1; omega) | exact bk_not (by assumption) hsm rfl | exact mp_not (by assumption) hsm | exact bkm_not (by assumption) hsm rfl | exact ownm_not (by assumption) hi hsm rfl | exact owm_not (by assumption) hi hsm rfl | exact own_not (by assumption) hi hsm rfl | exact ow_not (by assumption) hi hsm rfl | (intro he; have he2 : _ = some _ := he; have := Ow.lt (by assumption) he2; omega) | (intro he; have he2 : _ = some _ := he; have := Ow.lt (by assumption) he2; have := own_base (by assumption) hi; omega) | (intro he; have he2 : _ = some _ := he; have := Ow.lt how he2; first | omega | (have := own_base (by assumption) hi; omega)) | (intro he; have he2 : _ = _ := he; have := Ow.lt how hi; omega) | (intro he; have he2 : _ = _ := he; have := own_base (by assumption) hi; omega) | (intro he; have he2 : _ = _ := he; have := ow_base (by assumption) hi; omega) | (intro he; have he2 : _ = _ := he; rw [he2] at hi; exact absurd hi (by assumption)) | (intro he; have he2 : _ = some _ := he; have h3 := own_lt (by assumption) he2; first | omega | (have h4 : _ = some _ := hi; simp [Value.ownBlock] at h4; omega)) | (intro he; have he2 : _ = some _ := he; have h3 := ow_base (by assumption) he2; have h4 : _ = some _ := hi; simp [Value.ownBlock] at h4; omega) | (intro he; have he2 : _ = some _ := he; exact absurd he2 (hsep _ hi)) | (intro he; have he2 : _ = _ := he; have := hlo _ hi; omega) | (intro he; have he2 : _ = some _ := he; have := hlo _ he2; omega) | (intro he; first | exact absurd he (by assumption) | exact absurd he.symm (by assumption)) | (intro he; have he2 : _ = _ ∨ _ = _ := he; omega)) ?_))) : Sl w' v sz n xs := Sl.to h c
theorem Own.au (h : w.ownsRow base e sz v n xs := by assumption) (c : ∀ i, v.ownBlock = some i → Sm w w' i := by intro i hi; repeat (first | exact Sm.refl _ _ | (refine Sm.stepT (by assumption) (by intro hlt hsm; first | exact not_no | (intro he; have he2 : _ = some _ := he; have := own_base (by assumption) he2; omega) | (intro he; have he2 : _ = _ := he; omega) | (intro he; have he2 : _ = some _ := he; have := ow_base (by assumption) he2; omega) | (intro he; have := he.1; omega) | exact bk_not (by assumption) hsm rfl | exact mp_not (by assumption) hsm | exact bkm_not (by assumption) hsm rfl | exact ownm_not (by assumption) hi hsm rfl | exact owm_not (by assumption) hi hsm rfl | exact own_not (by assumption) hi hsm rfl | exact ow_not (by assumption) hi hsm rfl | (intro he; have he2 : _ = some _ := he; have := Ow.lt (by assumption) he2; omega) | (intro he; have he2 : _ = some _ := he; have := Ow.lt (by assumption) he2; have := own_base (by assumption) hi; omega) | (intro he; have he2 : _ = some _ := he; have := Ow.lt how he2; first | omega | (have := own_base (by assumption) hi; omega)) | (intro he; have he2 : _ = _ := he; have := Ow.lt how hi; omega) | (intro he; have he2 : _ = _ := he; have := own_base (by assumption) hi; omega) | (intro he; have he2 : _ = _ := he; have := ow_base (by assumption) hi; omega) | (intro he; have he2 : _ = _ := he; rw [he2] at hi; exact absurd hi (by assumption)) | (intro he; have he2 : _ = some _ := he; have h3 := own_lt (by assumption) he2; first | omega | (have h4 : _ = some _ := hi; simp [Value.ownBlock] at h4; omega)) | (intro he; have he2 : _ = some _ := he; have h3 := ow_base (by assumption) he2; have h4 : _ = some _ := hi; simp [Value.ownBlock] at h4; omega) | (intro he; have he2 : _ = some _ := he; exact absurd he2 (hsep _ hi)) | (intro he; have he2 : _ = _ := he; have := hlo _ hi; omega) | (intro he; have he2 : _ = some _ := he; have := hlo _ he2; omega) | (intro he; first | exact absurd he (by assumption) | exact absurd he.symm (by assumption)) | (intro he; have he2 : _ = _ ∨ _ = _ := he; omega)) ?_))) : w'.ownsRow base e sz v n xs := Own.to h c
theorem Ow.au (h : Ow w base e sz v n xs := by first | assumption | exact Ow.of (by assumption)) (c : ∀ i, v.ownBlock = some i → Sm w w' i := by intro i hi; repeat (first | exact Sm.refl _ _ | (refine Sm.stepT (by assumption) (by intro hlt hsm; first | exact not_no | (intro he; have he2 : _ = some _ := he; have := own_base (by assumption) he2; omega) | (intro he; have he2 : _ = _ := he; omega) | (intro he; have he2 : _ = some _ := he; have := ow_base (by assumption) he2; omega) | (intro he; have := he.1; omega) | exact bk_not (by assumption) hsm rfl | exact mp_not (by assumption) hsm | exact bkm_not (by assumption) hsm rfl | exact ownm_not (by assumption) hi hsm rfl | exact owm_not (by assumption) hi hsm rfl | exact own_not (by assumption) hi hsm rfl | exact ow_not (by assumption) hi hsm rfl | (intro he; have he2 : _ = some _ := he; have := Ow.lt (by assumption) he2; omega) | (intro he; have he2 : _ = some _ := he; have := Ow.lt (by assumption) he2; have := own_base (by assumption) hi; omega) | (intro he; have he2 : _ = some _ := he; have := Ow.lt how he2; first | omega | (have := own_base (by assumption) hi; omega)) | (intro he; have he2 : _ = _ := he; have := Ow.lt how hi; omega) | (intro he; have he2 : _ = _ := he; have := own_base (by assumption) hi; omega) | (intro he; have he2 : _ = _ := he; have := ow_base (by assumption) hi; omega) | (intro he; have he2 : _ = _ := he; rw [he2] at hi; exact absurd hi (by assumption)) | (intro he; have he2 : _ = some _ := he; have h3 := own_lt (by assumption) he2; first | omega | (have h4 : _ = some _ := hi; simp [Value.ownBlock] at h4; omega)) | (intro he; have he2 : _ = some _ := he; have h3 := ow_base (by assumption) he2; have h4 : _ = some _ := hi; simp [Value.ownBlock] at h4; omega) | (intro he; have he2 : _ = some _ := he; exact absurd he2 (hsep _ hi)) | (intro he; have he2 : _ = _ := he; have := hlo _ hi; omega) | (intro he; have he2 : _ = some _ := he; have := hlo _ he2; omega) | (intro he; first | exact absurd he (by assumption) | exact absurd he.symm (by assumption)) | (intro he; have he2 : _ = _ ∨ _ = _ := he; omega)) ?_))) : Ow w' base e sz v n xs := Ow.to h c
end
section
variable {P : Program} {n : Nat} {ops : Array Oper} {rest : List Oper} {N : Cn} {X : Nat → Cn} {R : Cn} {S : World → Prop} {kk fuel : Nat} {listed : Array Bool} {f : Fr} {w w' : World} {op : Op} {v : Value} {d j : Nat} {b b' : Bool} {ty : TypeId} {pos : String} {af : Array Edge} {Z : Fr → Prop} {dst : Option Tmp} {g : Option (Nat × Bool)}
theorem L_r (hr : (execOp (ev f) ⟨some d, op, ty, pos, af, none⟩).run P w = .ok (.value v) w') (h : Wl P n ops rest N (upd f d v) w') (hn : Nat.blt d n = true := by rfl) : Wl P n ops (⟨some d, op, ty, pos, af, none⟩ :: rest) N f w := L_run (.plain rfl) rfl hn hr h
theorem L_g (hr : (execOp (ev f) ⟨some d, op, ty, pos, af, some (j, b)⟩).run P w = .ok (.value v) w') (h : Wl P n ops rest N (upd f d v) w') (hy : yl ops f j = some b := by rfl) (hn : Nat.blt d n = true := by rfl) : Wl P n ops (⟨some d, op, ty, pos, af, some (j, b)⟩ :: rest) N f w := L_run (.yes j b rfl hy) rfl hn hr h
theorem H_r (hr : (execOp (ev f) ⟨some d, op, ty, pos, af, none⟩).run P w = .ok (.value v) w) (h : Hs P n ops w rest Z (upd f d v)) (hn : Nat.blt d n = true := by rfl) : Hs P n ops w (⟨some d, op, ty, pos, af, none⟩ :: rest) Z f := H_run (.plain rfl) rfl hn hr h
theorem L_ps (h : Wl P n ops rest N (upd f d undef) w) (hy : yl ops f j = some b' := by rfl) (hne : (b' == b) = false := by rfl) (hn : Nat.blt d n = true := by rfl) : Wl P n ops (⟨some d, op, ty, pos, af, some (j, b)⟩ :: rest) N f w := L_pass rfl hy hne rfl hn h
theorem L_pu (h : Wl P n ops rest N (upd f d undef) w) (hy : yl ops f j = none := by rfl) (hn : Nat.blt d n = true := by rfl) : Wl P n ops (⟨some d, op, ty, pos, af, some (j, b)⟩ :: rest) N f w := L_passu rfl hy rfl hn h
theorem D_t (i : Nat) (ho : ops[i]? = some ⟨some d, op, ty, pos, af, none⟩) (hrun : ∀ w, S w → (execOp (ev f) ⟨some d, op, ty, pos, af, none⟩).run P w = .ok (.value v) w) (h : D P n ops N X R S kk fuel (listed.setIfInBounds i true) (upd f d v) w)
    (hs : Region.noSelect ops = true := by kernel_rfl) (hf : Region.free .any ops listed i = true := by kernel_rfl) (hr : (Region.ready .any ops listed).contains i = true := by kernel_rfl) (hk : waits .any ops kk i = true := by kernel_rfl) (hn : Nat.blt d n = true := by rfl) (hS : S w := by assumption) : D P n ops N X R S kk (fuel + 1) listed f w := D_take i ho hs hf hr hk (.plain rfl) rfl hn hS hrun h
theorem D_g (i : Nat) (ho : ops[i]? = some ⟨some d, op, ty, pos, af, some (j, b)⟩) (hrun : ∀ w, S w → (execOp (ev f) ⟨some d, op, ty, pos, af, some (j, b)⟩).run P w = .ok (.value v) w) (h : D P n ops N X R S kk fuel (listed.setIfInBounds i true) (upd f d v) w)
    (hy : yl ops f j = some b := by rfl) (hs : Region.noSelect ops = true := by kernel_rfl) (hf : Region.free .any ops listed i = true := by kernel_rfl) (hr : (Region.ready .any ops listed).contains i = true := by kernel_rfl) (hk : waits .any ops kk i = true := by kernel_rfl) (hn : Nat.blt d n = true := by rfl) (hS : S w := by assumption) : D P n ops N X R S kk (fuel + 1) listed f w := D_take i ho hs hf hr hk (.yes j b rfl hy) rfl hn hS hrun h
theorem D_ps (i : Nat) (ho : ops[i]? = some ⟨some d, op, ty, pos, af, some (j, b)⟩) (h : D P n ops N X R S kk fuel (listed.setIfInBounds i true) (upd f d undef) w) (hy : yl ops f j = some b' := by rfl) (hne : (b' == b) = false := by rfl)
    (hs : Region.noSelect ops = true := by kernel_rfl) (hf : Region.free .any ops listed i = true := by kernel_rfl) (hr : (Region.ready .any ops listed).contains i = true := by kernel_rfl) (hk : waits .any ops kk i = true := by kernel_rfl) (hn : Nat.blt d n = true := by rfl) (hS : S w := by assumption) : D P n ops N X R S kk (fuel + 1) listed f w := D_pass i ho hs hf hr hk rfl hy hne rfl hn hS h
theorem r_mi {x : Operand} {k : IntKind} {m : Int} (h : ev f x = .int k m) : (execOp (ev f) ⟨dst, .move x, ty, pos, af, g⟩).run P w = .ok (.value (.int k m)) w := r_move h
theorem r_mb {x : Operand} {m : Bool} (h : ev f x = .bool m) : (execOp (ev f) ⟨dst, .move x, ty, pos, af, g⟩).run P w = .ok (.value (.bool m)) w := r_move h
theorem r_ms {x : Operand} {m : ByteArray} (h : ev f x = .string m) : (execOp (ev f) ⟨dst, .move x, ty, pos, af, g⟩).run P w = .ok (.value (.string m)) w := r_move h
theorem r_mv {x : Operand} {v : Value} (h : ev f x = v := by conv => lhs; whnf) : (execOp (ev f) ⟨dst, .move x, ty, pos, af, g⟩).run P w = .ok (.value v) w := r_move h
theorem r_ai {x : Operand} {k : IntKind} {m : Int} (h : ev f x = .int k m) : (execOp (ev f) ⟨dst, .assign x, ty, pos, af, g⟩).run P w = .ok (.value (.int k m)) w := r_assign h
theorem r_ab {x : Operand} {m : Bool} (h : ev f x = .bool m) : (execOp (ev f) ⟨dst, .assign x, ty, pos, af, g⟩).run P w = .ok (.value (.bool m)) w := r_assign h
theorem r_as {x : Operand} {m : ByteArray} (h : ev f x = .string m) : (execOp (ev f) ⟨dst, .assign x, ty, pos, af, g⟩).run P w = .ok (.value (.string m)) w := r_assign h
theorem r_av {x : Operand} {v : Value} (h : ev f x = v := by conv => lhs; whnf) : (execOp (ev f) ⟨dst, .assign x, ty, pos, af, g⟩).run P w = .ok (.value v) w := r_assign h
theorem r_pt {c x y : Operand} {m : Bool} (hc : ev f c = .bool true) (h : ev f x = .bool m) : (execOp (ev f) ⟨dst, .pick c x y, ty, pos, af, g⟩).run P w = .ok (.value (.bool m)) w := r_pick_t hc h
theorem r_pf {c x y : Operand} {m : Bool} (hc : ev f c = .bool false) (h : ev f y = .bool m) : (execOp (ev f) ⟨dst, .pick c x y, ty, pos, af, g⟩).run P w = .ok (.value (.bool m)) w := r_pick_f hc h
theorem r_lb {x : Operand} {t : TypeId} {b i : Nat} {cs : Array Value} {e : TypeId} {v : Value} (ht : flat P t = true) (hx : ev f x = .pointer (some ⟨b, i, none⟩)) (hb : Bk w b cs e := by exact Bk.au) (hv : cs[i]? = some v := by first | assumption | (conv => lhs; simp only [List.getElem?_toArray, List.getElem?_cons_succ, List.getElem?_cons_zero])) : (execOp (ev f) ⟨dst, .load t x, ty, pos, af, g⟩).run P w = .ok (.value v) w := r_loadb ht hx hb hv
theorem r_ix {x y : Operand} {t e : TypeId} {k : IntKind} {i : Int} {sz m : Nat} {xs : List Value} (hu : P.underlying t = some (.slice e)) (hz : (P.info? e).map (·.size) = some sz) (hx : ev f x = v) (hy : ev f y = .int k i) (h : Sl w v sz m xs) {j : Nat} (h0 : 0 ≤ i := by omega) (h1 : i < m := by omega) (hj : i.toNat * sz = j := by conv => lhs; (try simp only [Nat.mul_one, Nat.zero_add, Int.toNat_natCast, Int.toNat_zero, Int.reduceToNat, Nat.reduceMul, Nat.reduceAdd])) :
    (execOp (ev f) ⟨dst, .indexAddr t x y, ty, pos, af, g⟩).run P w = .ok (.value (.pointer (some (at_ v j)))) w := r_idxSl hu hz hx hy h h0 h1 hj
theorem fx2 {a b v : Value} (h1 : a = v := by conv => lhs; whnf) (h2 : b = v := by conv => lhs; whnf) : a = b := h1.trans h2.symm
end
end Go.Proofs.YtgmeojpekdekeaaGreatDoor
