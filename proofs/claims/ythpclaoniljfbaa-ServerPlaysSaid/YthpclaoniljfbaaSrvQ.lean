/- The server's state and the document's, plainly: what either answers is the same. -/
import Derived.Test.YthpclaoniljfbaaRef16d
import Derived.Test.YthpclaoniljfbaaSrvB
namespace Go.Proofs.Ythpclaoniljfbaa
open Go Go.RowKit
set_option linter.unusedVariables false
set_option linter.unusedSimpArgs false
def valOf (c : RCall) : Msg := if c.done then c.reply else Msg.zero
def keptOf (L : List RCall) : List (Int × Msg) := (L.filter (·.kept)).map fun c => (c.seq, valOf c)
structure Rel (S : Srv) (R : RSrv) : Prop where
  most : S.most = R.most
  life : S.life = R.life
  floor : S.floor = R.floor
  st : S.st = R.L.map fun c => (c.life, c.seq)
  kept : S.kept = keptOf R.L
  fl : ∀ c ∈ R.L, c.kept = true → c.done = true → R.floor ≤ c.seq
  rep : ∀ c ∈ R.L, c.done = true → c.reply ≠ Msg.zero
theorem keptOf_append (L K : List RCall) : keptOf (L ++ K) = keptOf L ++ keptOf K := by simp [keptOf]
theorem keptOf_len (L : List RCall) : (keptOf L).length = keptN L := by simp [keptOf, keptN]
theorem keptOf_mem {L : List RCall} {c : RCall} (h : c ∈ L) (hk : c.kept = true) : (c.seq, valOf c) ∈ keptOf L := List.mem_map.2 ⟨c, List.mem_filter.2 ⟨h, hk⟩, rfl⟩
theorem mem_keptOf {L : List RCall} {p : Int × Msg} (h : p ∈ keptOf L) : ∃ c ∈ L, c.kept = true ∧ p = (c.seq, valOf c) := by
  obtain ⟨c, hc, rfl⟩ := List.mem_map.1 h
  obtain ⟨h1, h2⟩ := List.mem_filter.1 hc
  exact ⟨c, h1, h2, rfl⟩
theorem keptOf_unk0 (L : List RCall) : keptOf (L.map unk0) = [] := by
  unfold keptOf
  rw [List.map_eq_nil_iff, List.filter_eq_nil_iff]
  intro c hc
  obtain ⟨d, _, rfl⟩ := List.mem_map.1 hc
  simp [unk0]
theorem gone_unk (fl : Int) (c : RCall) (h : c.done = true → c.reply ≠ Msg.zero) : gone1 fl (c.seq, valOf c) = decide (c.done = true ∧ c.seq < fl) := by
  unfold gone1 valOf
  cases hd : c.done with
  | true => simp [h hd]
  | false => simp
theorem keptOf_unk (fl : Int) : ∀ (L : List RCall), (∀ c ∈ L, c.done = true → c.reply ≠ Msg.zero) → keptOf (L.map (unk fl)) = (keptOf L).filter (fun p => !gone1 fl p)
  | [], _ => rfl
  | c :: L, h => by
    have ih := keptOf_unk fl L (fun d hd => h d (List.mem_cons_of_mem _ hd))
    have hg := gone_unk fl c (h c List.mem_cons_self)
    unfold keptOf at ih ⊢
    rw [List.map_cons]
    cases hk : c.kept with
    | false =>
      have e : (unk fl c).kept = false := by unfold unk; split; rfl; exact hk
      rw [List.filter_cons_of_neg (by rw [e]; decide), List.filter_cons_of_neg (by rw [hk]; decide), ih]
    | true =>
      rw [List.filter_cons_of_pos (a := c) (by exact hk), List.map_cons]
      by_cases hu : c.done = true ∧ c.seq < fl
      · have e : unk fl c = { c with kept := false } := by unfold unk; rw [if_pos hu]
        rw [e, List.filter_cons_of_neg (by simp), List.filter_cons_of_neg (by rw [hg, decide_eq_true hu]; decide), ih]
      · have e : unk fl c = c := by unfold unk; rw [if_neg hu]
        rw [e, List.filter_cons_of_pos (by exact hk), List.map_cons, List.filter_cons_of_pos (by rw [hg, decide_eq_false hu]; rfl), ih]
theorem unk_same (fl : Int) (c : RCall) : (unk fl c).life = c.life ∧ (unk fl c).seq = c.seq ∧ (unk fl c).done = c.done ∧ (unk fl c).reply = c.reply := by unfold unk; split <;> exact ⟨rfl, rfl, rfl, rfl⟩
theorem unk_kept {fl : Int} {c : RCall} (h : (unk fl c).kept = true) : c.kept = true ∧ (c.done = true → fl ≤ c.seq) := by
  unfold unk at h
  split at h
  · cases h
  · rename_i hn
    exact ⟨h, fun hd => by apply Classical.byContradiction; intro hl; exact hn ⟨hd, by omega⟩⟩
/-- Behind the first steps. -/
theorem rel_pre {S : Srv} {R : RSrv} (m : Msg) (h : Rel S R) : Rel (recv2 (recv1 S m) m) (rr3 (rr2 (rr1 R m) m)) := by
  have h1 : Rel (recv1 S m) (rr1 R m) := by
    by_cases hl : S.life < m.life
    · have e1 : recv1 S m = { S with life := m.life, floor := 1, kept := [] } := if_pos hl
      have e2 : rr1 R m = { R with life := m.life, floor := 1, L := R.L.map unk0 } := if_pos (by rw [← h.life]; exact hl)
      rw [e1, e2]
      refine ⟨h.most, rfl, rfl, ?_, (keptOf_unk0 R.L).symm, ?_, ?_⟩
      · show S.st = (R.L.map unk0).map _
        rw [List.map_map, h.st]; rfl
      · intro c hc hk
        obtain ⟨d, _, rfl⟩ := List.mem_map.1 hc
        cases hk
      · intro c hc hd
        obtain ⟨d, hd', rfl⟩ := List.mem_map.1 hc
        exact h.rep d hd' hd
    · rw [show recv1 S m = S from if_neg hl, show rr1 R m = R from if_neg (by rw [← h.life]; exact hl)]
      exact h
  generalize recv1 S m = S at h1
  generalize rr1 R m = R at h1
  have hst : ∀ fl, (R.L.map (unk fl)).map (fun c => (c.life, c.seq)) = R.L.map fun c => (c.life, c.seq) := by
    intro fl
    rw [List.map_map]
    apply List.map_congr_left
    intro c _
    show ((unk fl c).life, (unk fl c).seq) = _
    rw [(unk_same fl c).1, (unk_same fl c).2.1]
  have hfl : ∀ fl, ∀ c ∈ R.L.map (unk fl), c.kept = true → c.done = true → fl ≤ c.seq := by
    intro fl c hc hk hd
    obtain ⟨d, hd', rfl⟩ := List.mem_map.1 hc
    rw [(unk_same fl d).2.2.1] at hd
    rw [(unk_same fl d).2.1]
    exact (unk_kept hk).2 hd
  have hrp : ∀ fl, ∀ c ∈ R.L.map (unk fl), c.done = true → c.reply ≠ Msg.zero := by
    intro fl c hc hd
    obtain ⟨d, hd', rfl⟩ := List.mem_map.1 hc
    rw [(unk_same fl d).2.2.1] at hd
    rw [(unk_same fl d).2.2.2]
    exact h1.rep d hd' hd
  by_cases hb : S.floor < m.below
  · have e1 : recv2 S m = { S with floor := m.below, kept := S.kept.filter (fun p => !gone1 m.below p) } := if_pos hb
    have e2 : rr2 R m = { R with floor := m.below } := if_pos (by rw [← h1.floor]; exact hb)
    rw [e1, e2]
    exact ⟨h1.most, h1.life, rfl, by show S.st = _; rw [h1.st]; exact (hst _).symm, by show S.kept.filter _ = keptOf (R.L.map (unk m.below)); rw [keptOf_unk _ _ h1.rep, h1.kept], hfl _, hrp _⟩
  · rw [show recv2 S m = S from if_neg hb, show rr2 R m = R from if_neg (by rw [← h1.floor]; exact hb)]
    refine ⟨h1.most, h1.life, h1.floor, by rw [h1.st]; exact (hst _).symm, ?_, hfl _, hrp _⟩
    show S.kept = keptOf (R.L.map (unk R.floor))
    rw [keptOf_unk _ _ h1.rep, h1.kept]
    symm
    rw [List.filter_eq_self]
    intro p hp
    obtain ⟨c, hc, hk, rfl⟩ := mem_keptOf hp
    rw [gone_unk _ _ (h1.rep c hc)]
    rw [decide_eq_false (by rintro ⟨k1, k2⟩; have := h1.fl c hc hk k1; omega)]; rfl
theorem rel_at {S : Srv} {R : RSrv} {q : Int} {c : RCall} (h : Rel S R) (hn : (S.kept.map (·.1)).Nodup) (hc : isAt R.L q c) : mget S.kept q = some (valOf c) := by
  obtain ⟨h1, h2, h3⟩ := hc
  have := keptOf_mem h1 h2
  rw [← h.kept, h3] at this
  exact mget_mem hn this
theorem rel_no {S : Srv} {R : RSrv} {q : Int} (h : Rel S R) (hc : ∀ c, ¬ isAt R.L q c) : mget S.kept q = none := by
  refine mget_none fun p hp e => ?_
  rw [h.kept] at hp
  obtain ⟨c, h1, h2, rfl⟩ := mem_keptOf hp
  exact hc c ⟨h1, h2, e⟩
theorem nodup_pre (S : Srv) (m : Msg) (h : (S.kept.map (·.1)).Nodup) : ((recv2 (recv1 S m) m).kept.map (·.1)).Nodup := by
  have h1 : ((recv1 S m).kept.map (·.1)).Nodup := by
    unfold recv1; split
    · exact List.nodup_nil
    · exact h
  generalize recv1 S m = S at h1
  unfold recv2; split
  · exact h1.sublist ((List.filter_sublist).map _)
  · exact h1
theorem rel_recv {S : Srv} {R R' : RSrv} {m r : Msg} {k : Int} (h : Rel S R) (hn : (S.kept.map (·.1)).Nodup) (hr : RecvR R m R' k r) : (recv S m).2.1 = k ∧ (recv S m).2.2 = r ∧ Rel (recv S m).1 R' := by
  rcases hr with ⟨hg, rfl, rfl, rfl⟩ | ⟨hg, hs⟩
  · rw [← h.life] at hg
    have e : recv S m = (S, 0, Msg.zero) := if_pos hg
    rw [e]; exact ⟨rfl, rfl, h⟩
  · rw [← h.life] at hg
    have e : recv S m = recv3 (recv2 (recv1 S m) m) m := if_neg hg
    rw [e]
    have h2 := rel_pre m h
    have hn2 := nodup_pre S m hn
    generalize recv2 (recv1 S m) m = S2 at h2 hn2
    generalize rr3 (rr2 (rr1 R m) m) = R2 at h2 hs
    rcases hs with ⟨hl, rfl, rfl, rfl⟩ | ⟨hl, ⟨c, hc, hq⟩, rfl⟩ | ⟨hl, hno, hm, rfl, rfl, rfl⟩ | ⟨hl, hno, hm, rfl, rfl, rfl⟩
    · rw [recv3_low (by rw [h2.floor]; exact hl)]
      exact ⟨rfl, rfl, h2⟩
    · have hg2 := rel_at h2 hn2 hc
      rcases hq with ⟨hd, rfl, rfl⟩ | ⟨hd, rfl, rfl⟩
      · have hv : valOf c = Msg.zero := by unfold valOf; rw [hd]; rfl
        rw [hv] at hg2
        rw [recv3_run (by rw [hg2]; rfl) (by rw [hg2]; exact decide_eq_true rfl)]
        exact ⟨rfl, rfl, h2⟩
      · have hv : valOf c = c.reply := by unfold valOf; rw [hd]; rfl
        rw [hv] at hg2
        rw [recv3_old (by rw [h2.floor]; exact hl) (by rw [hg2]; rfl) (by rw [hg2]; exact decide_eq_false (h2.rep c hc.1 hd))]
        exact ⟨rfl, by rw [hg2]; rfl, h2⟩
    · have hg2 := rel_no h2 hno
      rw [recv3_full (by rw [h2.floor]; exact hl) (by rw [hg2]; rfl) (by rw [h2.most, h2.kept, keptOf_len]; exact hm)]
      exact ⟨rfl, rfl, h2⟩
    · have hg2 := rel_no h2 hno
      rw [recv3_new (by rw [h2.floor]; exact hl) (by rw [hg2]; rfl) (by rw [h2.most, h2.kept, keptOf_len]; exact hm)]
      refine ⟨rfl, rfl, h2.most, h2.life, h2.floor, ?_, ?_, ?_, ?_⟩
      · show S2.st ++ [(m.life, m.seq)] = (R2.L ++ [_]).map _
        rw [List.map_append, h2.st]; rfl
      · show mset S2.kept m.seq Msg.zero = keptOf (R2.L ++ [_])
        unfold mset
        rw [hg2, keptOf_append, ← h2.kept]
        exact (if_neg (by decide)).trans rfl
      · intro c hc hk hd
        rcases List.mem_append.1 hc with hc | hc
        · exact h2.fl c hc hk hd
        · rw [List.mem_singleton.1 hc] at hd; cases hd
      · intro c hc hd
        rcases List.mem_append.1 hc with hc | hc
        · exact h2.rep c hc hd
        · rw [List.mem_singleton.1 hc] at hd; cases hd
theorem keptOf_cons (c : RCall) (L : List RCall) : keptOf (c :: L) = (if c.kept = true then [(c.seq, valOf c)] else []) ++ keptOf L := by
  unfold keptOf
  by_cases h : c.kept = true
  · rw [List.filter_cons_of_pos h, if_pos h]; rfl
  · rw [List.filter_cons_of_neg h, if_neg h]; rfl
theorem mset_mid (P Q : List (Int × Msg)) (q : Int) (v : Msg) (fl : Int) (hn : ((P ++ (q, Msg.zero) :: Q).map (·.1)).Nodup) :
    (mset (P ++ (q, Msg.zero) :: Q) q v).filter (fun p => !gone2 q fl p) = P ++ ((if fl ≤ q then [(q, v)] else []) ++ Q) := by
  have hg : mget (P ++ (q, Msg.zero) :: Q) q = some Msg.zero := mget_mem hn (by simp)
  rw [List.map_append, List.map_cons, List.nodup_append, List.nodup_cons] at hn
  obtain ⟨_, ⟨hq, _⟩, hpq⟩ := hn
  have h1 : ∀ p ∈ P, p.1 ≠ q := fun p hp e => hpq p.1 (List.mem_map.2 ⟨p, hp, rfl⟩) q List.mem_cons_self e
  have h2 : ∀ p ∈ Q, p.1 ≠ q := fun p hp e => hq (by show q ∈ _; rw [← e]; exact List.mem_map.2 ⟨p, hp, rfl⟩)
  have hm : ∀ X : List (Int × Msg), (∀ p ∈ X, p.1 ≠ q) → X.map (fun p => if p.1 = q then (q, v) else p) = X := by
    intro X hX
    refine (List.map_congr_left (g := id) fun p hp => ?_).trans (List.map_id _)
    exact if_neg (hX p hp)
  have hf : ∀ X : List (Int × Msg), (∀ p ∈ X, p.1 ≠ q) → X.filter (fun p => !gone2 q fl p) = X := by
    intro X hX
    rw [List.filter_eq_self]
    intro p hp
    unfold gone2
    rw [decide_eq_false (by rintro ⟨k, _⟩; exact hX p hp k)]; rfl
  unfold mset
  rw [hg]
  refine (congrArg (List.filter _) (if_pos rfl)).trans ?_
  rw [List.map_append, List.map_cons, hm P h1, hm Q h2, List.filter_append, hf P h1]
  congr 1
  by_cases hl : fl ≤ q
  · rw [if_pos hl, List.filter_cons_of_pos (by unfold gone2; simp; omega), hf Q h2]; simp
  · rw [if_neg hl, List.filter_cons_of_neg (by unfold gone2; simp; omega), hf Q h2]; rfl
theorem rel_fin {S : Srv} {R R' : RSrv} {life seq way e : Int} {body : ByteArray} {r : Msg} (h : Rel S R) (hn : (S.kept.map (·.1)).Nodup) (hr : FinR R life seq way body R' r e) : (fin S life seq way body).2.1 = r ∧ (fin S life seq way body).2.2 = e ∧ Rel (fin S life seq way body).1 R' := by
  rcases hr with ⟨hq, rfl, rfl, rfl⟩ | ⟨hl, k, hk, hat, hd, hq⟩
  · have hc : life ≠ S.life ∨ mget S.kept seq ≠ some Msg.zero := by
      rcases hq with hq | hq | ⟨c, hc, hd⟩
      · exact .inl (by rw [h.life]; exact hq)
      · exact .inr (by rw [rel_no h hq]; intro h; cases h)
      · refine .inr ?_
        rw [rel_at h hn hc]
        have hv : valOf c = c.reply := by unfold valOf; rw [hd]; rfl
        rw [hv]
        intro e
        exact h.rep c hc.1 hd (Option.some.inj e)
    have e : fin S life seq way body = (S, Msg.zero, 160) := if_pos hc
    rw [e]; exact ⟨rfl, rfl, h⟩
  · have hg := rel_at h hn hat
    have hv : valOf R.L[k] = Msg.zero := by unfold valOf; rw [hd]; rfl
    rw [hv] at hg
    have hc : ¬ (life ≠ S.life ∨ mget S.kept seq ≠ some Msg.zero) := by
      rintro (k | k)
      · rw [h.life] at k; exact k hl
      · exact k hg
    have e1 : fin S life seq way body = if checkC (repM life seq way body) ≠ 0 then (S, Msg.zero, checkC (repM life seq way body)) else ({ S with kept := (mset S.kept seq (repM life seq way body)).filter (fun p => !gone2 seq S.floor p) }, repM life seq way body, 0) := if_neg hc
    rcases hq with ⟨hch, rfl, rfl, rfl⟩ | ⟨hch, rfl, rfl, rfl⟩
    · rw [e1, if_pos (show checkC (repM life seq way body) ≠ 0 from hch)]; exact ⟨rfl, rfl, h⟩
    · rw [e1, if_neg (show ¬ checkC (repM life seq way body) ≠ 0 from fun hne => hne hch)]
      refine ⟨rfl, rfl, h.most, h.life, h.floor, ?_, ?_, ?_, ?_⟩
      · show S.st = (R.L.set k _).map _
        rw [List.map_set, h.st]
        have hk' : k < (R.L.map fun c => (c.life, c.seq)).length := by simpa using hk
        have e : (R.L[k].life, R.L[k].seq) = (R.L.map fun c => (c.life, c.seq))[k] := by simp
        show _ = (R.L.map fun c => (c.life, c.seq)).set k (R.L[k].life, R.L[k].seq)
        rw [e, List.set_getElem_self]
      · show (mset S.kept seq (repM life seq way body)).filter (fun p => !gone2 seq S.floor p) = keptOf (R.L.set k _)
        have hL : keptOf R.L = keptOf (R.L.take k) ++ (seq, Msg.zero) :: keptOf (R.L.drop (k + 1)) := by
          conv => lhs; rw [← List.take_append_drop k R.L, List.drop_eq_getElem_cons hk]
          rw [keptOf_append, keptOf_cons, if_pos hat.2.1, hat.2.2, hv]; rfl
        have hS : keptOf (R.L.set k ⟨R.L[k].life, R.L[k].seq, true, decide (R.floor ≤ seq), rpM life seq way body⟩) = keptOf (R.L.take k) ++ ((if R.floor ≤ seq then [(seq, repM life seq way body)] else []) ++ keptOf (R.L.drop (k + 1))) := by
          rw [List.set_eq_take_append_cons_drop, if_pos hk, keptOf_append, keptOf_cons]
          congr 2
          by_cases hf : R.floor ≤ seq
          · rw [if_pos hf]; exact (if_pos (decide_eq_true hf)).trans (by show [(R.L[k].seq, _)] = _; rw [hat.2.2]; rfl)
          · rw [if_neg hf]; exact if_neg (by show ¬ decide (R.floor ≤ seq) = true; rw [decide_eq_false hf]; decide)
        rw [hS]
        have hk2 := h.kept
        rw [hL] at hk2
        rw [hk2] at hn hg
        rw [hk2, h.floor]
        exact mset_mid _ _ _ _ _ hn
      · intro c hc hkk hdd
        rcases List.mem_or_eq_of_mem_set hc with hc | rfl
        · exact h.fl c hc hkk hdd
        · have := of_decide_eq_true (show decide (R.floor ≤ seq) = true from hkk)
          show R.floor ≤ R.L[k].seq
          rw [hat.2.2]; exact this
      · intro c hc hdd
        rcases List.mem_or_eq_of_mem_set hc with hc | rfl
        · exact h.rep c hc hdd
        · intro e; have := congrArg Msg.kind e; exact absurd (show (1 : Int) = 0 from this) (by decide)
end Go.Proofs.Ythpclaoniljfbaa

