/- A caller beside the document's: acts that are handed in. -/
import Derived.Test.YtjjddbicggfgnaaCalG
namespace Go.Proofs.Ytjjddbicggfgnaa
open Go Go.RowKit
set_option linter.unusedVariables false
set_option linter.unusedSimpArgs false
set_option maxRecDepth 100000
/-- A caller and the document's, beside one another. -/
structure DX (base : Nat) (F : Nat → Prop) (w : World) (b c : Nat) (C : Cal) (R : RCal) (vl vo vr : Value) : Prop where
  x : CalX base F w b C
  k : Bk w c (R.row vl vo vr) 41
  r : RcAt base w vl vo vr R
  d : ∀ j, Rown vl vo vr j → ¬ F j
  e : ¬ F c
variable {base : Nat} {F F' : Nat → Prop} {w w' w1 w2 : World} {b c n : Nat} {C C' : Cal} {R R' : RCal} {vl vo vr vl' vo' vr' : Value}
theorem DX.nw (h : DX base F w b c C R vl vo vr) (k : Nw w w') : DX base F w' b c C R vl vo vr := ⟨h.x.nw k, h.k.ch k not_no, h.r.nw k, h.d, h.e⟩
theorem DX.no (h : DX base F w b c C R vl vo vr) : ¬ (base ≤ c ∧ F c) := fun k => h.e k.2
theorem RcAt.st {t : TypeId} {cs : Array Value} (h : RcAt base w vl vo vr R) (hb : Bk w b cs t) (k : Ch (fun j => j = b) w w') (h1 : t ≠ 75) (h2 : t ≠ 33) (h3 : t ≠ 58) : RcAt base w' vl vo vr R := h.ch k (h.nb hb h1 h2 h3)
theorem DX.doc (h : DX base F w b c C R vl vo vr) (hr : RcAt base w1 vl' vo' vr' R') (c1 : Nw w w1) (hn : ∀ j, Rown vl' vo' vr' j → Rown vl vo vr j ∨ w.heap.size ≤ j) (c2 : Ch (fun j => j = c) w1 w2) (hk : Bk w2 c (R'.row vl' vo' vr') 41) : DX base F w2 b c C R' vl' vo' vr' := by
  refine ⟨(h.x.nw c1).ch c2 (fun j hj e => h.e (by have e' : j = c := e; rw [← e']; exact hj)), hk, hr.st (h.k.ch c1 not_no) c2 (by decide) (by decide) (by decide), fun j hj hF => ?_, h.e⟩
  rcases hn j hj with k | k
  · exact h.d j k hF
  · have := (h.x.lt j hF).2; omega
theorem DX.call (h : DX base F w b c C R vl vo vr) (hx : CalX base F' w' b C') (hF : ∀ j, F' j → F j ∨ w.heap.size ≤ j) (k : CalC base F w w') : DX base F' w' b c C' R vl vo vr := by
  refine ⟨hx, h.k.ch k (fun e => h.e e.2), h.r.ch k (fun j hj e => h.d j hj e.2), fun j hj hf => ?_, fun hf => ?_⟩
  · rcases hF j hf with q | q
    · exact h.d j hj q
    · have := (h.r.lt j hj).2; omega
  · rcases hF c hf with q | q
    · exact h.e q
    · have := h.k.lt; omega
theorem opF_mem {L : List RCl} {i : Nat} {x : RCl} {n : Nat} (h : L[i]? = some x) (he : x.ended = false) : ((n : Int) + i + 1, opn x) ∈ opF n L := mget_some (opF_get h he)
theorem Rel.cnt (h : Rel C R) (hG : C.Good) : ∀ (i : Nat) (x : RCl), R.L[i]? = some x → x.ended = false → (0 ≤ x.waited ∧ x.waited ≤ 1000) ∧ 0 ≤ x.asks ∧ x.asks ≤ 1000 := by
  intro i x hx he
  have hm := opF_mem (n := 0) hx he
  rw [← h.op] at hm
  have h1 : 0 ≤ x.waited ∧ x.waited < C.wait ∧ 0 ≤ x.asks ∧ x.asks ≤ C.most := hG.cnt _ hm
  have h2 := hG.wt
  omega
theorem begin_life (R : RCal) (object : Int) (method body : ByteArray) : (beginR R object method body).1.life = R.life := by
  unfold beginR
  split
  · rfl
  · split <;> rfl
theorem recv_life {m : Msg} {ok : Bool} (h : RecvR R m R' ok) : R'.life = R.life := by
  rcases h with ⟨_, rfl, _⟩ | ⟨_, _, _, _, k, x, _, _, _, rfl⟩ <;> rfl
end Go.Proofs.Ytjjddbicggfgnaa

