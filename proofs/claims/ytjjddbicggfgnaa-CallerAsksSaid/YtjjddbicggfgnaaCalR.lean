/- A caller and the document's, plainly: they stay alike. -/
import Derived.Test.YtjjddbicggfgnaaRef15e
import Derived.Test.YtjjddbicggfgnaaCalU
namespace Go.Proofs.Ytjjddbicggfgnaa
open Go Go.RowKit
set_option linter.unusedVariables false
set_option linter.unusedSimpArgs false
abbrev opn (x : RCl) : Opn := ⟨x.m, x.waited, x.asks⟩
def opF : Nat → List RCl → List (Int × Opn)
  | _, [] => []
  | n, x :: L => if x.ended then opF (n + 1) L else ((n : Int) + 1, opn x) :: opF (n + 1) L
theorem opF_key {n : Nat} {L : List RCl} {p : Int × Opn} (h : p ∈ opF n L) : (n : Int) + 1 ≤ p.1 ∧ p.1 ≤ n + L.length := by
  induction L generalizing n with
  | nil => simp [opF] at h
  | cons x L ih =>
    unfold opF at h
    split at h
    · have := ih h; rw [List.length_cons]; omega
    · rcases List.mem_cons.1 h with rfl | h
      · rw [List.length_cons]; show (n : Int) + 1 ≤ (n : Int) + 1 ∧ (n : Int) + 1 ≤ _; omega
      · have := ih h; rw [List.length_cons]; omega
theorem opF_append (n : Nat) (L : List RCl) (x : RCl) : opF n (L ++ [x]) = opF n L ++ (if x.ended then [] else [((n : Int) + L.length + 1, opn x)]) := by
  induction L generalizing n with
  | nil =>
    show opF n [x] = [] ++ _
    unfold opF opF
    cases x.ended <;> simp
  | cons y L ih =>
    rw [List.cons_append]
    unfold opF
    rw [ih (n + 1), List.length_cons]
    have e : ((n + 1 : Nat) : Int) + (L.length : Int) + 1 = (n : Int) + ((L.length + 1 : Nat) : Int) + 1 := by omega
    rw [e]
    split <;> simp
theorem opF_get {n : Nat} {L : List RCl} {i : Nat} {x : RCl} (h : L[i]? = some x) (he : x.ended = false) : mget (opF n L) ((n : Int) + i + 1) = some (opn x) := by
  induction L generalizing n i with
  | nil => simp at h
  | cons y L ih =>
    unfold opF
    cases i with
    | zero =>
      have e : y = x := by simpa using h
      subst e
      rw [he]
      unfold mget
      rw [if_neg (by decide), List.find?_cons_of_pos (by simp)]; rfl
    | succ i =>
      have h' : L[i]? = some x := by simpa using h
      have := ih (n := n + 1) h'
      rw [show ((n + 1 : Nat) : Int) + i + 1 = (n : Int) + ((i + 1 : Nat) : Int) + 1 by omega] at this
      split
      · exact this
      · unfold mget at *
        rw [List.find?_cons_of_neg (by simp; omega)]; exact this
theorem opF_ended {n : Nat} {L : List RCl} {i : Nat} {x : RCl} (h : L[i]? = some x) (he : x.ended = true) : mget (opF n L) ((n : Int) + i + 1) = none := by
  apply mget_none
  intro p hp
  induction L generalizing n i with
  | nil => simp at h
  | cons y L ih =>
    unfold opF at hp
    cases i with
    | zero =>
      have e : y = x := by simpa using h
      subst e
      rw [he, if_pos rfl] at hp
      have := opF_key hp
      omega
    | succ i =>
      have h' : L[i]? = some x := by simpa using h
      split at hp
      · have := ih (n := n + 1) h' hp; intro e; apply this; omega
      · rcases List.mem_cons.1 hp with rfl | hp
        · show (n : Int) + 1 ≠ _; omega
        · have := ih (n := n + 1) h' hp; intro e; apply this; omega
theorem mupd_no {L : List (Int × Opn)} {k : Int} {o : Opn} (h : ∀ p ∈ L, p.1 ≠ k) : mupd L k o = L := by
  unfold mupd
  conv => rhs; rw [← List.map_id L]
  apply List.map_congr_left
  intro p hp
  rw [if_neg (h p hp)]; rfl
theorem opF_upd {n : Nat} {L : List RCl} {i : Nat} {x y : RCl} (h : L[i]? = some x) (he : x.ended = false) (hy : y.ended = false) : opF n (L.set i y) = mupd (opF n L) ((n : Int) + i + 1) (opn y) := by
  induction L generalizing n i with
  | nil => simp at h
  | cons z L ih =>
    cases i with
    | zero =>
      have e : z = x := by simpa using h
      subst e
      show opF n (y :: L) = _
      unfold opF
      rw [he, hy, if_neg (by decide), if_neg (by decide)]
      unfold mupd
      rw [List.map_cons]
      have := mupd_no (L := opF (n + 1) L) (k := (n : Int) + (0 : Nat) + 1) (o := opn y) (fun p hp => by have := opF_key hp; omega)
      unfold mupd at this
      rw [this, if_pos (by simp)]
      simp
    | succ i =>
      have h' : L[i]? = some x := by simpa using h
      have := ih (n := n + 1) h'
      rw [show ((n + 1 : Nat) : Int) + i + 1 = (n : Int) + ((i + 1 : Nat) : Int) + 1 by omega] at this
      show opF n (z :: L.set i y) = _
      unfold opF
      rw [this]
      split
      · rfl
      · unfold mupd
        rw [List.map_cons, if_neg (by show ¬ (n : Int) + 1 = _; omega)]
theorem opF_del {n : Nat} {L : List RCl} {i : Nat} {x y : RCl} (h : L[i]? = some x) (he : x.ended = false) (hy : y.ended = true) : opF n (L.set i y) = mdel (opF n L) ((n : Int) + i + 1) := by
  induction L generalizing n i with
  | nil => simp at h
  | cons z L ih =>
    cases i with
    | zero =>
      have e : z = x := by simpa using h
      subst e
      show opF n (y :: L) = _
      have e1 : opF n (y :: L) = opF (n + 1) L := by rw [opF, hy, if_pos rfl]
      have e2 : opF n (z :: L) = ((n : Int) + 1, opn z) :: opF (n + 1) L := by rw [opF, he, if_neg (by decide)]
      rw [e1, e2]
      have := mdel_no (L := opF (n + 1) L) (k := (n : Int) + (0 : Nat) + 1) (fun p hp => by have := opF_key hp; omega)
      unfold mdel at *
      rw [List.filter_cons_of_neg (by simp), this]
    | succ i =>
      have h' : L[i]? = some x := by simpa using h
      have := ih (n := n + 1) h'
      rw [show ((n + 1 : Nat) : Int) + i + 1 = (n : Int) + ((i + 1 : Nat) : Int) + 1 by omega] at this
      show opF n (z :: L.set i y) = _
      unfold opF
      rw [this]
      split
      · rfl
      · unfold mdel
        rw [List.filter_cons_of_pos (by simp; omega)]
theorem opF_no {n : Nat} {x : RCl} {L : List RCl} (h : x.ended = true) : opF n (x :: L) = opF (n + 1) L := by rw [opF, h, if_pos rfl]
theorem opF_yes {n : Nat} {x : RCl} {L : List RCl} (h : x.ended = false) : opF n (x :: L) = ((n : Int) + 1, opn x) :: opF (n + 1) L := by rw [opF, h, if_neg (by decide)]
theorem opF_len (n : Nat) (L : List RCl) : (opF n L).length = openN L := by
  induction L generalizing n with
  | nil => rfl
  | cons x L ih =>
    unfold openN at *
    cases hx : x.ended
    · rw [opF_yes hx, List.filter_cons_of_pos (by simp [hx]), List.length_cons, List.length_cons, ih]
    · rw [opF_no hx, List.filter_cons_of_neg (by simp [hx]), ih]
theorem opF_below (n : Nat) (L : List RCl) : (match opF n L with | [] => (n : Int) + L.length + 1 | p :: _ => p.1) = (n : Int) + belowR L := by
  induction L generalizing n with
  | nil => show (n : Int) + (0 : Nat) + 1 = (n : Int) + ((0 + 1 : Nat) : Int); omega
  | cons x L ih =>
    have := ih (n + 1)
    unfold belowR at *
    cases hx : x.ended
    · rw [opF_yes hx, List.takeWhile_cons, hx]
      show (n : Int) + 1 = (n : Int) + ((0 + 1 : Nat) : Int); omega
    · rw [opF_no hx, List.takeWhile_cons, hx, List.length_cons]
      simp only [if_true, List.length_cons]
      revert this
      cases opF (n + 1) L with
      | nil => simp only; intro h; omega
      | cons p l => simp only; intro h; omega
/-- They are alike. -/
structure Rel (C : Cal) (R : RCal) : Prop where
  life : C.life = R.life
  wait : C.wait = R.wait
  most : C.most = R.most
  last : C.last = (R.L.length : Int)
  op : C.op = opF 0 R.L
  out : C.out = R.out
  res : C.res = R.res
variable {C : Cal} {R : RCal}
theorem Rel.len (h : Rel C R) : C.op.length = openN R.L := by rw [h.op, opF_len]
theorem Rel.below (h : Rel C R) : belowC C = (belowR R.L : Int) := by
  have := opF_below 0 R.L
  unfold belowC
  rw [h.op, h.last]
  revert this
  cases opF 0 R.L with
  | nil => simp only; intro h; omega
  | cons p l => simp only; intro h; omega
theorem belowR_set {L : List RCl} {i : Nat} {x y : RCl} (h : L[i]? = some x) (he : y.ended = x.ended) : belowR (L.set i y) = belowR L := by
  unfold belowR
  induction L generalizing i with
  | nil => simp at h
  | cons z L ih =>
    cases i with
    | zero =>
      have e : z = x := by simpa using h
      subst e
      show (List.takeWhile _ (y :: L)).length + 1 = _
      rw [List.takeWhile_cons, List.takeWhile_cons, he]
      split <;> rfl
    | succ i =>
      have := ih (i := i) (by simpa using h)
      show (List.takeWhile _ (z :: L.set i y)).length + 1 = _
      rw [List.takeWhile_cons, List.takeWhile_cons]
      split
      · simpa using this
      · rfl
theorem Rel.get (h : Rel C R) {i : Nat} {x : RCl} (hx : R.L[i]? = some x) (he : x.ended = false) : mget C.op ((i : Int) + 1) = some (opn x) := by
  have := opF_get (n := 0) hx he
  rw [h.op]
  rwa [show ((0 : Nat) : Int) + i + 1 = (i : Int) + 1 by omega] at this
theorem Rel.with_ (h : Rel C R) {i : Nat} {x y : RCl} (hx : R.L[i]? = some x) (he : x.ended = false) (hy : y.ended = false) : Rel { C with op := mupd C.op ((i : Int) + 1) (opn y) } (withR R i y) := by
  refine ⟨h.life, h.wait, h.most, by show C.last = ((R.L.set i y).length : Int); rw [List.length_set]; exact h.last, ?_, h.out, h.res⟩
  show mupd C.op _ _ = opF 0 (R.L.set i y)
  rw [opF_upd hx he hy, h.op]
  rw [show ((0 : Nat) : Int) + i + 1 = (i : Int) + 1 by omega]
theorem Rel.ask_ (h : Rel C R) {i : Nat} {x : RCl} (hx : R.L[i]? = some x) (he : x.ended = false) : Rel (ask1 C ((i : Int) + 1) (opn x)) (askR R i x) := by
  have h1 := h.with_ (y := askX R x) hx he he
  have hb := h.below
  have e : askO (belowC C) (opn x) = opn (askX R x) := by rw [hb]; rfl
  unfold ask1
  rw [e]
  exact ⟨h1.life, h1.wait, h1.most, h1.last, h1.op, by show C.out ++ _ = R.out ++ _; rw [h.out], h1.res⟩
theorem Rel.end_ (h : Rel C R) {i : Nat} {x : RCl} (hx : R.L[i]? = some x) (he : x.ended = false) (way : Int) (body : ByteArray) : Rel (endC C ((i : Int) + 1) way body) (endR R i x way body) := by
  refine ⟨h.life, h.wait, h.most, by show C.last = ((R.L.set i _).length : Int); rw [List.length_set]; exact h.last, ?_, h.out, by show C.res ++ _ = R.res ++ _; rw [h.res]⟩
  show mdel C.op _ = opF 0 (R.L.set i (endX x))
  rw [opF_del hx he rfl, h.op]
  rw [show ((0 : Nat) : Int) + i + 1 = (i : Int) + 1 by omega]
theorem Rel.add_ (h : Rel C R) (object : Int) (method body : ByteArray) : Rel (insC C object method body) (addR R object method body) := by
  have hm : newM C object method body = newR R object method body := by
    show (⟨0, C.life, C.last + 1, 1, object, method, 0, body⟩ : Msg) = ⟨0, R.life, (R.L.length : Int) + 1, 1, object, method, 0, body⟩
    rw [h.life, h.last]
  refine ⟨h.life, h.wait, h.most, by show C.last + 1 = ((R.L ++ [_]).length : Int); rw [h.last]; simp, ?_, h.out, h.res⟩
  show C.op ++ [(C.last + 1, _)] = opF 0 (R.L ++ [_])
  rw [opF_append, hm, h.last, h.op]
  simp [opn]
theorem Rel.tick1_ (h : Rel C R) {i : Nat} {x : RCl} (hx : R.L[i]? = some x) (he : x.ended = false) : Rel (tick1 C ((i : Int) + 1)) (rtick1 R i) := by
  have hg := h.get hx he
  have hw := h.with_ (y := wx x) hx he he
  have ew : opn (wx x) = waitO (opn x) := rfl
  rw [ew] at hw
  have hx' : (withR R i (wx x)).L[i]? = some (wx x) := set_get hx
  have hwt := h.wait
  have hmo := h.most
  by_cases h1 : x.waited + 1 < R.wait
  · rw [rtick1_wait hx he h1, tick1_wait hg (by show x.waited + 1 < C.wait; omega)]
    exact hw
  · by_cases h2 : R.most ≤ x.asks
    · rw [rtick1_end hx he h1 h2, tick1_end hg (by show ¬ x.waited + 1 < C.wait; omega) (by show C.most ≤ x.asks; omega)]
      have := hw.end_ hx' he 3 { data := #[] }
      rw [end_wait] at this
      exact this
    · rw [rtick1_ask hx he h1 h2, tick1_ask hg (by show ¬ x.waited + 1 < C.wait; omega) (by show ¬ C.most ≤ x.asks; omega)]
      have := hw.ask_ hx' he
      rw [show opn (wx x) = waitO (opn x) from rfl, ask_wait] at this
      exact this
theorem opF_take_keys {L : List RCl} {i : Nat} {x : RCl} (h : L[i]? = some x) : ((opF 0 (L.take (i + 1))).map (·.1)) = ((opF 0 (L.take i)).map (·.1)) ++ (if x.ended then [] else [(i : Int) + 1]) := by
  obtain ⟨hi, e⟩ := getx h
  rw [List.take_succ_eq_append_getElem hi, opF_append, e, List.map_append, List.length_take, Nat.min_eq_left (Nat.le_of_lt hi)]
  split <;> simp
theorem Rel.tick_ (h : Rel C R) : Rel (tick C) (rtick R) := by
  have key : ∀ i, i ≤ R.L.length → Rel (((opF 0 (R.L.take i)).map (·.1)).foldl tick1 C) (rtickN R i) := by
    intro i
    induction i with
    | zero => intro _; exact h
    | succ i ih =>
      intro hi
      have hr := ih (by omega)
      have hx := List.getElem?_eq_getElem (l := R.L) (i := i) (by omega)
      obtain ⟨x, hxe⟩ : ∃ x, x = R.L[i] := ⟨_, rfl⟩
      rw [← hxe] at hx
      have hx2 : (rtickN R i).L[i]? = some x := by rw [(rtickN_facts R i).2.2.2.2.2.2 i (Nat.le_refl _)]; exact hx
      rw [opF_take_keys hx, rtickN_next]
      cases he : x.ended with
      | true => rw [if_pos rfl, List.append_nil, rtick1_ended hx2 he]; exact hr
      | false =>
        rw [if_neg (by decide), List.foldl_append]
        exact hr.tick1_ hx2 he
  have := key R.L.length (Nat.le_refl _)
  rw [List.take_length, ← h.op] at this
  exact this
theorem Rel.call_ (h : Rel C R) (object : Int) (method body : ByteArray) : Rel (callC C object method body).1 (beginR R object method body).1 ∧ (callC C object method body).2 = (beginR R object method body).2 := by
  have hm : newM C object method body = newR R object method body := by
    show (⟨0, C.life, C.last + 1, 1, object, method, 0, body⟩ : Msg) = ⟨0, R.life, (R.L.length : Int) + 1, 1, object, method, 0, body⟩
    rw [h.life, h.last]
  have hl := h.len
  by_cases h1 : 1024 ≤ openN R.L
  · rw [callC_full (by omega), show beginR R object method body = (R, 0, 150) from if_pos h1]
    exact ⟨h, rfl⟩
  · by_cases h2 : checkC (newR R object method body) = 0
    · rw [callC_ok (by omega) (by rw [hm]; exact h2), show beginR R object method body = (askR (addR R object method body) R.L.length ⟨newR R object method body, 0, 0, false⟩, (R.L.length : Int) + 1, 0) from (if_neg h1).trans (if_neg (fun k => k h2))]
      have hA := (h.add_ object method body).ask_ (i := R.L.length) (x := ⟨newR R object method body, 0, 0, false⟩) (by show (R.L ++ [_])[R.L.length]? = _; simp) rfl
      rw [← h.last] at hA
      refine ⟨?_, by rw [h.last]⟩
      rw [hm]
      exact hA
    · rw [callC_bad (by omega) (by rw [hm]; exact h2), show beginR R object method body = (R, 0, checkC (newR R object method body)) from (if_neg h1).trans (if_pos h2)]
      exact ⟨h, by rw [hm]⟩
theorem Rel.recv_ (h : Rel C R) {m : Msg} {R' : RCal} {ok : Bool} (hr : RecvR R m R' ok) : Rel (recvC C m).1 R' ∧ (recvC C m).2 = ok := by
  rcases hr with ⟨rfl, rfl, hr⟩ | ⟨rfl, h1, h2, h3, k, x, hk, hx, he, rfl⟩
  · have : recvC C m = (C, false) := by
      apply recv_no
      rcases hr with k | k | k | k | ⟨k, x, hk, hx, he⟩
      · exact .inr (.inl k)
      · exact .inr (.inr (.inl (by rw [h.life]; exact k)))
      · exact .inr (.inr (.inr k))
      · left
        rw [h.op]
        apply mget_none
        intro p hp e
        have := opF_key hp; omega
      · left
        have := opF_ended (n := 0) hx he
        rw [h.op, hk]
        rwa [show ((0 : Nat) : Int) + k + 1 = (k : Int) + 1 by omega] at this
    rw [this]
    exact ⟨h, rfl⟩
  · have hg := h.get hx he
    have : recvC C m = (endC C m.seq m.way m.body, true) := recv_yes (by
      rintro (k | k | k | k)
      · rw [hk, hg] at k; simp at k
      · exact k h1
      · exact k (by rw [h.life]; exact h2)
      · exact k h3)
    rw [this]
    have := h.end_ hx he m.way m.body
    rw [← hk] at this
    exact ⟨this, rfl⟩
end Go.Proofs.Ytjjddbicggfgnaa

