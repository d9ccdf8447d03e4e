/- A caller, plainly: each call ends once; what is below has ended. -/
import Derived.Test.YtjjddbicggfgnaaCalY
namespace Go.Proofs.Ytjjddbicggfgnaa
open Go Go.RowKit
set_option linter.unusedVariables false
set_option linter.unusedSimpArgs false
variable {C D : Cal} {k : Int} {o : Opn}
/-- What always holds. -/
structure Cal.Inv (C : Cal) : Prop where
  ids : ∀ n, 1 ≤ n → n ≤ C.last → (∃ p ∈ C.op, p.1 = n) ∨ (∃ r ∈ C.res, r.seq = n)
  rin : ∀ r ∈ C.res, (1 ≤ r.seq ∧ r.seq ≤ C.last) ∧ 0 ≤ r.way ∧ r.way ≤ 3
  rnd : (C.res.map (·.seq)).Nodup
  dis : ∀ r ∈ C.res, ∀ p ∈ C.op, r.seq ≠ p.1
  cnt : (C.res.length : Int) + C.op.length = C.last
  out : ∀ m ∈ C.out, ∀ n, 1 ≤ n → n < m.below → ∃ r ∈ C.res, r.seq = n
theorem Cal.Inv.zero (life wait most : Int) : (cal0 life wait most).Inv :=
  ⟨fun n h1 h2 => by have h2' : n ≤ 0 := h2; omega, fun r hr => absurd hr (by simp), List.Pairwise.nil, fun r hr => absurd hr (by simp), rfl, fun m hm => absurd hm (by simp)⟩
theorem Cal.Inv.out0 (h : C.Inv) : ({ C with out := [] } : Cal).Inv := ⟨h.ids, h.rin, h.rnd, h.dis, h.cnt, fun m hm => absurd hm (by simp)⟩
theorem mdel_len {L : List (Int × Opn)} {k : Int} {o : Opn} (hn : (L.map (·.1)).Nodup) (h : mget L k = some o) : (mdel L k).length + 1 = L.length := by
  induction L with
  | nil => simp [mget] at h
  | cons p L ih =>
    rw [List.map_cons, List.nodup_cons] at hn
    unfold mget mdel at *
    by_cases e : p.1 = k
    · rw [List.filter_cons_of_neg (by simpa using e), List.length_cons]
      have : mdel L k = L := mdel_no (fun q hq e2 => hn.1 (by rw [e, ← e2]; exact List.mem_map.2 ⟨q, hq, rfl⟩))
      unfold mdel at this
      rw [this]
    · rw [List.filter_cons_of_pos (by simpa using e), List.length_cons, List.length_cons]
      rw [List.find?_cons_of_neg (by simpa using e)] at h
      rw [ih hn.2 h]
theorem Cal.Inv.upd (h : C.Inv) (hk : mget C.op k = some o) (o' : Opn) : ({ C with op := mupd C.op k o' } : Cal).Inv := by
  have hkm := mget_some hk
  have f : ∀ p ∈ mupd C.op k o', ∃ q ∈ C.op, q.1 = p.1 := fun p hp => by
    rcases mupd_mem hp with rfl | ⟨hp, _⟩
    · exact ⟨_, hkm, rfl⟩
    · exact ⟨_, hp, rfl⟩
  refine ⟨fun n h1 h2 => ?_, h.rin, h.rnd, fun r hr p hp => ?_, by show (C.res.length : Int) + (mupd C.op k o').length = _; rw [mupd_len]; exact h.cnt, h.out⟩
  · rcases h.ids n h1 h2 with ⟨p, hp, e⟩ | g
    · left
      have : n ∈ (mupd C.op k o').map (·.1) := by rw [mupd_keys]; exact List.mem_map.2 ⟨p, hp, e⟩
      obtain ⟨q, hq, e2⟩ := List.mem_map.1 this
      exact ⟨q, hq, e2⟩
    · exact .inr g
  · obtain ⟨q, hq, e⟩ := f p hp
    rw [← e]; exact h.dis r hr q hq
theorem Cal.Inv.end_ (h : C.Inv) (hA : C.Asc) (hk : mget C.op k = some o) {way : Int} (hw : 0 ≤ way ∧ way ≤ 3) (body : ByteArray) : (endC C k way body).Inv := by
  have hkm := mget_some hk
  have hr := hA.rng _ hkm
  have hl := mdel_len hA.nd hk
  refine ⟨fun n h1 h2 => ?_, fun r hr' => ?_, ?_, fun r hr' p hp => ?_, ?_, fun m hm n h1 h2 => ?_⟩
  · by_cases e : n = k
    · right; exact ⟨_, List.mem_append_right _ (List.mem_singleton.2 rfl), e.symm⟩
    · rcases h.ids n h1 h2 with ⟨p, hp, e2⟩ | ⟨r, hr', e2⟩
      · left; exact ⟨p, mdel_mem.2 ⟨hp, by omega⟩, e2⟩
      · right; exact ⟨r, List.mem_append_left _ hr', e2⟩
  · rcases List.mem_append.1 hr' with hr' | hr'
    · exact h.rin r hr'
    · rw [List.mem_singleton] at hr'; subst hr'; exact ⟨hr, hw⟩
  · show ((C.res ++ [_]).map _).Nodup
    rw [List.map_append, List.nodup_append]
    refine ⟨h.rnd, by simp, fun a ha b hb e => ?_⟩
    obtain ⟨r, hr', rfl⟩ := List.mem_map.1 ha
    have hb' : b = k := by simpa using hb
    exact h.dis r hr' _ hkm (e.trans hb')
  · have hp' := mdel_mem.1 hp
    rcases List.mem_append.1 hr' with hr' | hr'
    · exact h.dis r hr' p hp'.1
    · rw [List.mem_singleton] at hr'; subst hr'; exact fun e => hp'.2 e.symm
  · have := h.cnt
    show ((C.res ++ [_]).length : Int) + (mdel C.op k).length = C.last
    rw [List.length_append]; simp; omega
  · obtain ⟨r, hr', e⟩ := h.out m hm n h1 h2
    exact ⟨r, List.mem_append_left _ hr', e⟩
theorem Cal.Inv.ask_ (h : C.Inv) (hA : C.Asc) (hk : mget C.op k = some o) : (ask1 C k o).Inv := by
  have h1 := h.upd hk (askO (belowC C) o)
  have hb := hA.bel
  refine ⟨h1.ids, h1.rin, h1.rnd, h1.dis, h1.cnt, fun m hm n hn1 hn2 => ?_⟩
  rcases List.mem_append.1 hm with hm | hm
  · exact h.out m hm n hn1 hn2
  · rw [List.mem_singleton] at hm; subst hm
    have hn2' : n < belowC C := hn2
    rcases h.ids n hn1 (by omega) with ⟨p, hp, e⟩ | g
    · have := hb.1 p hp; omega
    · exact g
theorem Cal.Inv.tick1_ (h : C.Inv) (hG : C.Good) (k : Int) : (tick1 C k).Inv := by
  unfold tick1
  cases ho : mget C.op k with
  | none => exact h
  | some o =>
    simp only
    split
    · exact h.upd ho _
    · split
      · exact h.end_ hG.toAsc ho (by decide) _
      · exact h.ask_ hG.toAsc ho
theorem Cal.Inv.ticks (l : List Int) : ∀ {C : Cal}, C.Inv → C.Good → (l.foldl tick1 C).Inv := by
  induction l with
  | nil => exact fun h _ => h
  | cons k l ih => exact fun h hG => ih (h.tick1_ hG k) (hG.tick1_ k)
theorem Cal.Inv.tick_ (h : C.Inv) (hG : C.Good) : (tick C).Inv := Cal.Inv.ticks _ h hG
theorem Cal.Inv.call_ (h : C.Inv) (hG : C.Good) (hl : C.last + 1 ≤ 1000000) (object : Int) (method body : ByteArray) : (callC C object method body).1.Inv := by
  unfold callC
  split
  · exact h
  · split
    · exact h
    · have hI : (insC C object method body).Inv := by
        refine ⟨fun n h1 h2 => ?_, fun r hr => ?_, h.rnd, fun r hr p hp => ?_, ?_, h.out⟩
        · have h2' : n ≤ C.last + 1 := h2
          by_cases e : n = C.last + 1
          · left; exact ⟨_, List.mem_append_right _ (List.mem_singleton.2 rfl), e.symm⟩
          · rcases h.ids n h1 (by omega) with ⟨p, hp, e2⟩ | g
            · left; exact ⟨p, List.mem_append_left _ hp, e2⟩
            · exact .inr g
        · have := h.rin r hr
          refine ⟨⟨this.1.1, ?_⟩, this.2⟩
          show r.seq ≤ C.last + 1; omega
        · rcases List.mem_append.1 hp with hp | hp
          · exact h.dis r hr p hp
          · rw [List.mem_singleton] at hp; subst hp
            have := (h.rin r hr).1.2
            show r.seq ≠ C.last + 1; omega
        · have := h.cnt
          show (C.res.length : Int) + (C.op ++ [_]).length = C.last + 1
          rw [List.length_append]; simp; omega
      exact hI.ask_ (hG.new_ hl object method body).toAsc (new_get hG.toAsc _)
theorem check_way {m : Msg} (h : checkC m = 0) (hk : m.kind = 1) : 0 ≤ m.way ∧ m.way ≤ 3 := by
  unfold checkC at h
  split at h
  · exact absurd h (by decide)
  · split at h
    · rename_i hr
      rcases hr.2.2 with q | q
      · have := q.1; omega
      · have := q.2.2.2.2; omega
    · exact absurd h (by decide)
theorem Cal.Inv.recv_ (h : C.Inv) (hG : C.Good) (m : Msg) : (recvC C m).1.Inv := by
  unfold recvC
  split
  · exact h
  · rename_i hn
    have h1 : mget C.op m.seq ≠ none := fun e => hn (.inl e)
    obtain ⟨o, ho⟩ := Option.ne_none_iff_exists'.1 h1
    have h2 : m.kind = 1 := by omega
    have h3 : checkC m = 0 := by omega
    exact h.end_ hG.toAsc ho (check_way h3 h2) _
/-! how long it takes at most -/
def rem (C : Cal) (o : Opn) : Int := (C.most - o.asks) * C.wait + (C.wait - o.waited)
theorem tick1_same (C : Cal) (k : Int) : (tick1 C k).wait = C.wait ∧ (tick1 C k).most = C.most ∧ (tick1 C k).last = C.last ∧ (tick1 C k).life = C.life := by
  unfold tick1
  split
  · exact ⟨rfl, rfl, rfl, rfl⟩
  · split
    · exact ⟨rfl, rfl, rfl, rfl⟩
    · split <;> exact ⟨rfl, rfl, rfl, rfl⟩
theorem ticks_same (l : List Int) : ∀ (C : Cal), (l.foldl tick1 C).wait = C.wait ∧ (l.foldl tick1 C).most = C.most ∧ (l.foldl tick1 C).last = C.last ∧ (l.foldl tick1 C).life = C.life := by
  induction l with
  | nil => exact fun C => ⟨rfl, rfl, rfl, rfl⟩
  | cons k l ih =>
    intro C
    obtain ⟨a1, a2, a3, a4⟩ := ih (tick1 C k)
    obtain ⟨b1, b2, b3, b4⟩ := tick1_same C k
    exact ⟨a1.trans b1, a2.trans b2, a3.trans b3, a4.trans b4⟩
theorem ticks_at (l : List Int) (k : Int) : ∀ (C : Cal), l.Nodup → k ∈ l → ∃ D : Cal, D.wait = C.wait ∧ D.most = C.most ∧ mget D.op k = mget C.op k ∧ mget (l.foldl tick1 C).op k = mget (tick1 D k).op k := by
  induction l with
  | nil => intro C _ h; simp at h
  | cons x l ih =>
    intro C hn hk
    rw [List.nodup_cons] at hn
    by_cases e : k = x
    · subst e
      exact ⟨C, rfl, rfl, rfl, by rw [List.foldl_cons, ticks_other _ _ _ hn.1]⟩
    · obtain ⟨D, d1, d2, d3, d4⟩ := ih (tick1 C x) hn.2 ((List.mem_cons.1 hk).resolve_left e)
      obtain ⟨b1, b2, b3, b4⟩ := tick1_same C x
      exact ⟨D, d1.trans b1, d2.trans b2, d3.trans (tick1_other e), d4⟩
theorem tick1_rem {D : Cal} {o o' : Opn} (h : mget D.op k = some o) (h' : mget (tick1 D k).op k = some o') (hw : o.waited < D.wait) : rem D o' + 1 = rem D o := by
  by_cases h1 : o.waited + 1 < D.wait
  · rw [tick1_wait h h1] at h'
    have h2 : mget (mupd D.op k (waitO o)) k = some o' := h'
    rw [mget_mupd, if_pos rfl, h] at h2
    have e : waitO o = o' := by simpa using h2
    subst e
    show (D.most - o.asks) * D.wait + (D.wait - (o.waited + 1)) + 1 = _
    unfold rem; omega
  · by_cases h2 : D.most ≤ o.asks
    · rw [tick1_end h h1 h2] at h'
      have h3 : mget (mdel D.op k) k = some o' := h'
      rw [mget_mdel, if_pos rfl] at h3
      cases h3
    · rw [tick1_ask h h1 h2] at h'
      have h3 : mget (mupd D.op k (askO (belowC D) o)) k = some o' := h'
      rw [mget_mupd, if_pos rfl, h] at h3
      have e : askO (belowC D) o = o' := by simpa using h3
      subst e
      show (D.most - (o.asks + 1)) * D.wait + (D.wait - 0) + 1 = _
      unfold rem
      have : (D.most - (o.asks + 1)) * D.wait = (D.most - o.asks) * D.wait - D.wait := by
        rw [show D.most - (o.asks + 1) = (D.most - o.asks) - 1 by omega, Int.sub_mul, Int.one_mul]
      rw [this]; omega
theorem tick_old (hG : C.Good) {p : Int × Opn} (hp : p ∈ (tick C).op) : ∃ o, (p.1, o) ∈ C.op ∧ rem C p.2 + 1 = rem C o := by
  have hT := hG.tick_
  have hg : mget (tick C).op p.1 = some p.2 := hT.toAsc.get hp
  have hnd : (C.op.map (·.1)).Nodup := hG.toAsc.nd
  by_cases hk : p.1 ∈ C.op.map (·.1)
  · obtain ⟨D, d1, d2, d3, d4⟩ := ticks_at _ _ C hnd hk
    obtain ⟨q, hq, e⟩ := List.mem_map.1 hk
    have hq2 := hG.toAsc.get hq
    rw [e] at hq2
    have hgD : mget D.op p.1 = some q.2 := d3.trans hq2
    have h' : mget (tick1 D p.1).op p.1 = some p.2 := d4.symm.trans hg
    have hc : 0 ≤ q.2.waited ∧ q.2.waited < C.wait ∧ 0 ≤ q.2.asks ∧ q.2.asks ≤ C.most := hG.cnt q hq
    have := tick1_rem hgD h' (by omega)
    unfold rem at *
    rw [d1, d2] at this
    exact ⟨q.2, by rw [← e]; exact hq, this⟩
  · have h2 : mget (tick C).op p.1 = mget C.op p.1 := ticks_other _ _ _ hk
    rw [hg] at h2
    exact absurd (List.mem_map.2 ⟨_, mget_some h2.symm, rfl⟩) hk
theorem rem_pos (hG : C.Good) {p : Int × Opn} (hp : p ∈ C.op) : 1 ≤ rem C p.2 := by
  have hc : 0 ≤ p.2.waited ∧ p.2.waited < C.wait ∧ 0 ≤ p.2.asks ∧ p.2.asks ≤ C.most := hG.cnt p hp
  have hw := hG.wt
  unfold rem
  have : 0 ≤ (C.most - p.2.asks) * C.wait := Int.mul_nonneg (by omega) (by omega)
  omega
/-- All open calls end within so many ticks. -/
def Within (C : Cal) (n : Int) : Prop := ∀ p ∈ C.op, rem C p.2 ≤ n
theorem Within.tick {n : Int} (h : Within C (n + 1)) (hG : C.Good) : Within (tick C) n := by
  intro p hp
  obtain ⟨o, ho, e⟩ := tick_old hG hp
  have := h _ ho
  obtain ⟨a1, a2, _, _⟩ := ticks_same (C.op.map (·.1)) C
  have e2 : rem (Go.Proofs.Ytjjddbicggfgnaa.tick C) p.2 = rem C p.2 := by unfold rem; rw [show (Go.Proofs.Ytjjddbicggfgnaa.tick C).most = C.most from a2, show (Go.Proofs.Ytjjddbicggfgnaa.tick C).wait = C.wait from a1]
  have t : rem C o ≤ n + 1 := this
  rw [e2]; omega
theorem Within.done (h : Within C 0) (hG : C.Good) : C.op = [] := by
  cases hop : C.op with
  | nil => rfl
  | cons p L =>
    have hm : p ∈ C.op := by rw [hop]; exact List.mem_cons_self
    have h1 := h p hm
    have h2 := rem_pos hG hm
    omega
/-- Each has been asked at least once. -/
def Cal.Ask (C : Cal) : Prop := ∀ p ∈ C.op, 1 ≤ p.2.asks
theorem Cal.Ask.within (h : C.Ask) (hG : C.Good) : Within C (C.wait * C.most) := by
  intro p hp
  have h1 := h p hp
  have hc : 0 ≤ p.2.waited ∧ p.2.waited < C.wait ∧ 0 ≤ p.2.asks ∧ p.2.asks ≤ C.most := hG.cnt p hp
  have hw := hG.wt
  unfold rem
  have h2 : (C.most - p.2.asks) * C.wait ≤ (C.most - 1) * C.wait := Int.mul_le_mul_of_nonneg_right (by omega) (by omega)
  have h3 : (C.most - 1) * C.wait = C.wait * C.most - C.wait := by rw [Int.sub_mul, Int.one_mul, Int.mul_comm]
  omega
theorem Cal.Ask.upd (h : C.Ask) {o' : Opn} (ho : 1 ≤ o'.asks) : ({ C with op := mupd C.op k o' } : Cal).Ask := by
  intro p hp
  rcases mupd_mem hp with rfl | ⟨hp, _⟩
  · exact ho
  · exact h p hp
theorem Cal.Ask.del (h : C.Ask) (way : Int) (body : ByteArray) : (endC C k way body).Ask := fun p hp => h p (mdel_mem.1 hp).1
theorem Cal.Ask.tick1_ (h : C.Ask) (k : Int) : (tick1 C k).Ask := by
  unfold tick1
  cases ho : mget C.op k with
  | none => exact h
  | some o =>
    have h1 := h _ (mget_some ho)
    simp only
    split
    · exact h.upd (o' := waitO o) h1
    · split
      · exact h.del _ _
      · exact h.upd (o' := askO (belowC C) o) (by show 1 ≤ o.asks + 1; have h1' : 1 ≤ o.asks := h1; omega)
theorem Cal.Ask.ticks (l : List Int) : ∀ {C : Cal}, C.Ask → (l.foldl tick1 C).Ask := by
  induction l with
  | nil => exact fun h => h
  | cons k l ih => exact fun h => ih (h.tick1_ k)
theorem Cal.Ask.tick_ (h : C.Ask) : (tick C).Ask := Cal.Ask.ticks _ h
theorem Cal.Ask.call_ (h : C.Ask) (object : Int) (method body : ByteArray) : (callC C object method body).1.Ask := by
  unfold callC
  split
  · exact h
  · split
    · exact h
    · intro p hp
      rcases mupd_mem hp with rfl | ⟨hp, hne⟩
      · show (1 : Int) ≤ 0 + 1; decide
      · rcases List.mem_append.1 hp with hp | hp
        · exact h p hp
        · rw [List.mem_singleton] at hp; subst hp; exact absurd rfl hne
theorem Cal.Ask.recv_ (h : C.Ask) (m : Msg) : (recvC C m).1.Ask := by
  unfold recvC
  split
  · exact h
  · exact h.del _ _
/-! what is below -/
theorem below_mono (hA : C.Asc) (hD : D.Asc) (hl : C.last ≤ D.last) (hk : ∀ p ∈ D.op, (∃ q ∈ C.op, q.1 = p.1) ∨ C.last < p.1) : belowC C ≤ belowC D := by
  have h1 := hA.bel
  have h2 := hD.bel
  rcases h2.2.2.2 with e | ⟨p, hp, e⟩
  · omega
  · rcases hk p hp with ⟨q, hq, e2⟩ | e2
    · have := h1.1 q hq; omega
    · omega
theorem below_tick (hG : C.Good) : belowC C ≤ belowC (tick C) :=
  below_mono hG.toAsc hG.tick_.toAsc (by have := (ticks_same (C.op.map (·.1)) C).2.2.1; show C.last ≤ (tick C).last; unfold tick; omega) fun p hp => by
    obtain ⟨o, ho, _⟩ := tick_old hG hp
    exact .inl ⟨_, ho, rfl⟩
theorem below_call (hG : C.Good) (hl : C.last + 1 ≤ 1000000) (object : Int) (method body : ByteArray) : belowC C ≤ belowC (callC C object method body).1 := by
  refine below_mono hG.toAsc (hG.call_ hl object method body).toAsc ?_ ?_
  · unfold callC
    split
    · exact Int.le_refl _
    · split
      · exact Int.le_refl _
      · show C.last ≤ C.last + 1; omega
  · unfold callC
    split
    · exact fun p hp => .inl ⟨p, hp, rfl⟩
    · split
      · exact fun p hp => .inl ⟨p, hp, rfl⟩
      · intro p hp
        rcases mupd_mem hp with rfl | ⟨hp, _⟩
        · right; show C.last < C.last + 1; omega
        · rcases List.mem_append.1 hp with hp | hp
          · exact .inl ⟨p, hp, rfl⟩
          · rw [List.mem_singleton] at hp; subst hp
            right; show C.last < C.last + 1; omega
theorem below_recv (hG : C.Good) (m : Msg) : belowC C ≤ belowC (recvC C m).1 := by
  refine below_mono hG.toAsc (hG.recv_ m).toAsc ?_ ?_
  · unfold recvC
    split <;> exact Int.le_refl _
  · unfold recvC
    split
    · exact fun p hp => .inl ⟨p, hp, rfl⟩
    · exact fun p hp => .inl ⟨p, (mdel_mem.1 hp).1, rfl⟩
/-! what a call answers -/
theorem call_ans (C : Cal) (object : Int) (method body : ByteArray) : ((callC C object method body).2.2 = 0 ∧ (callC C object method body).2.1 = C.last + 1 ∧ (callC C object method body).1.last = C.last + 1) ∨ ((callC C object method body).2.2 ≠ 0 ∧ (callC C object method body).1 = C) := by
  unfold callC
  split
  · exact .inr ⟨by show (150 : Int) ≠ 0; decide, rfl⟩
  · split
    · rename_i h; exact .inr ⟨h, rfl⟩
    · exact .inl ⟨rfl, rfl, rfl⟩
theorem recv_last (C : Cal) (m : Msg) : (recvC C m).1.last = C.last ∧ (recvC C m).1.wait = C.wait ∧ (recvC C m).1.most = C.most := by
  unfold recvC
  split <;> exact ⟨rfl, rfl, rfl⟩
theorem tick_last (C : Cal) : (tick C).last = C.last ∧ (tick C).wait = C.wait ∧ (tick C).most = C.most := by
  obtain ⟨a1, a2, a3, _⟩ := ticks_same (C.op.map (·.1)) C
  exact ⟨a3, a1, a2⟩
theorem call_same (C : Cal) (object : Int) (method body : ByteArray) : (callC C object method body).1.wait = C.wait ∧ (callC C object method body).1.most = C.most ∧ (callC C object method body).1.life = C.life := by
  unfold callC
  split
  · exact ⟨rfl, rfl, rfl⟩
  · split <;> exact ⟨rfl, rfl, rfl⟩
end Go.Proofs.Ytjjddbicggfgnaa

