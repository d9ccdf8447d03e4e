/- What was put is taken again; what is shown is read again. -/
import Derived.Test.YtioonbfinnigpaaGreatDoorRef04e
import Derived.Test.YtioonbfinnigpaaGreatDoorTxt04
import Derived.Test.YtioonbfinnigpaaGreatDoorCode10
namespace Go.Proofs.YtioonbfinnigpaaGreatDoor
open Go Go.RowKit
set_option linter.unusedVariables false
set_option linter.unusedSimpArgs false
set_option maxRecDepth 100000
theorem zag_zig (n : Int) : zagI (zigI n) = n := by
  unfold zagI zigI
  split <;> split <;> omega
/-- What an instruction that may be has. -/
theorem ok_parts {x : Ins} (h : checkI x = 0) : ∃ k o, k < 42 ∧ opIx x.op = some k ∧ opT.getD k default = o ∧ o.1 = x.op ∧ takesF x.op = (o.2.1, o.2.2, true) ∧ ¬ (o.2.1 = true ∧ o.2.2 = true) ∧ (o.2.1 = false → x.n = 0) ∧ (o.2.2 = false → x.s = { data := #[] }) ∧ (o.2.2 = true → textP x.op x.s) := by
  obtain ⟨k, hk⟩ := check_op h
  have hk42 := opIx_lt hk
  have ht : takesF x.op = ((opT.getD k default).2.1, (opT.getD k default).2.2, true) := by unfold takesF; rw [hk]
  have hone := List.all_eq_true.1 tk_oneB k (List.mem_range.2 hk42)
  have hn : (opT.getD k default).1 = x.op := by
    obtain ⟨hkl, hks⟩ := opIx_some hk
    rw [List.getD_eq_getElem?_getD, List.getElem?_eq_getElem hkl]; exact hks
  unfold checkI at h
  rw [ht] at h
  refine ⟨k, _, hk42, hk, rfl, hn, ht, ?_, ?_, ?_, ?_⟩
  · rintro ⟨h1, h2⟩
    rw [h1, h2] at hone; exact absurd hone (by decide)
  · intro h1
    unfold checkT at h
    simp only [h1] at h
    apply Classical.byContradiction
    intro hc
    rw [if_neg (by decide), if_pos (.inl ⟨trivial, hc⟩)] at h
    exact absurd h (by decide)
  · intro h1
    unfold checkT at h
    simp only [h1] at h
    apply Classical.byContradiction
    intro hc
    rw [if_neg (by decide), if_pos (.inr (.inl ⟨trivial, hc⟩))] at h
    exact absurd h (by decide)
  · intro h1
    unfold checkT at h
    simp only [h1] at h
    apply Classical.byContradiction
    intro hc
    rw [if_neg (by decide), if_pos (.inr (.inr ⟨trivial, hc⟩))] at h
    exact absurd h (by decide)
theorem item_put {x : Ins} (h : checkI x = 0) (hn : -9223372036854775808 ≤ x.n ∧ x.n ≤ 9223372036854775807) (hs : x.s.size ≤ 4096) (rest : List UInt8) : rItem (insB x ++ rest) = some (x, rest) := by
  obtain ⟨k, o, hk, hko, ho, hon, _, hone, h1, h2, h3⟩ := ok_parts h
  rw [insB_of hko]
  unfold insT
  rw [List.append_assoc]
  have e := numL_v k ((if (opT.getD k default).2.1 = true then varL (zigI x.n).toNat else []) ++ (if (opT.getD k default).2.2 = true then textL x.s else []) ++ rest) (by omega)
  rw [rItem_on (by rw [e]; intro hh; rcases hh with hh | hh; exact hh rfl; have : 42 ≤ k := hh; omega), e]
  simp only
  rw [List.drop_left, ho]
  have hx : ∀ m, rChk (some (x, m)) = some (x, m) := fun m => if_neg (by rw [h]; decide)
  unfold rRest
  obtain ⟨on, oa, ob⟩ := o
  simp only at hon h1 h2 h3 hone ⊢
  subst hon
  cases oa with
  | true =>
    cases ob with
    | true => exact absurd ⟨rfl, rfl⟩ hone
    | false =>
      rw [if_pos (show rtI (true, false, true) = 1 from rfl)]
      simp only [if_true, Bool.false_eq_true, if_false, List.append_nil]
      have e2 := numL_v (zigI x.n).toNat rest (zig_le hn)
      have e3 := rd1 (varL (zigI x.n).toNat ++ rest)
      rw [e2] at e3
      rw [e3, if_neg (fun hh => hh rfl)]
      simp only
      rw [List.drop_left]
      have e4 : zagI (((zigI x.n).toNat : Nat) : Int) = x.n := by
        have : 0 ≤ zigI x.n := by unfold zigI; split <;> omega
        rw [Int.toNat_of_nonneg this, zag_zig]
      have e5 : (⟨x.op, zagI (((zigI x.n).toNat : Nat) : Int), { data := #[] }⟩ : Ins) = x := by rw [e4, ← h2 rfl]
      rw [← hx rest]
      exact congrArg (fun y => rChk (some (y, rest))) e5
  | false =>
    cases ob with
    | true =>
      rw [if_neg (show ¬ rtI (false, true, true) = 1 by decide), if_pos (show rtI (false, true, true) = 2 from rfl)]
      simp only [if_true, Bool.false_eq_true, if_false, List.nil_append]
      have e3 := rd4 (textL x.s ++ rest)
      rw [textR_of x.s rest (by omega), if_neg (by omega), if_pos (text_good (h3 rfl)).1] at e3
      rw [e3, if_neg (fun hh => hh rfl)]
      simp only
      rw [List.drop_left]
      have e5 : (⟨x.op, 0, sb (bs x.s)⟩ : Ins) = x := by rw [sb_bs, ← h1 rfl]
      rw [← hx rest]
      exact congrArg (fun y => rChk (some (y, rest))) e5
    | false =>
      rw [if_neg (show ¬ rtI (false, false, true) = 1 by decide), if_neg (show ¬ rtI (false, false, true) = 2 by decide)]
      simp only [Bool.false_eq_true, if_false, List.nil_append]
      have e5 : (⟨x.op, 0, { data := #[] }⟩ : Ins) = x := by rw [← h1 rfl, ← h2 rfl]
      rw [← hx rest]
      exact congrArg (fun y => rChk (some (y, rest))) e5
theorem items_put : ∀ (z : List Ins) (rest : List UInt8) (out : List Ins), allI z = 0 → (∀ x ∈ z, (-9223372036854775808 ≤ x.n ∧ x.n ≤ 9223372036854775807) ∧ x.s.size ≤ 1000) → rItems z.length (z.flatMap insB ++ rest) out = some (out ++ z, rest)
  | [], rest, out, _, _ => by simp [rItems]
  | x :: z, rest, out, ha, hs => by
    have hx : checkI x = 0 := all_ok ha x List.mem_cons_self
    have hz : allI z = 0 := by
      have : (if checkI x ≠ 0 then checkI x else allI z) = 0 := ha
      rw [if_neg (by rw [hx]; decide)] at this; exact this
    have h1 := hs x List.mem_cons_self
    rw [List.flatMap_cons, List.append_assoc, List.length_cons]
    unfold rItems
    rw [item_put hx h1.1 (by have := h1.2; omega)]
    simp only
    rw [items_put z rest _ hz fun y hy => hs y (List.mem_cons_of_mem _ hy)]
    simp
theorem insB_pos {x : Ins} (h : checkI x = 0) : 0 < (insB x).length := by
  obtain ⟨k, hk⟩ := check_op h
  rw [insB_of hk]
  unfold insT
  have := varL_pos k
  rw [List.length_append]; omega
theorem put_min : ∀ (z : List Ins), allI z = 0 → z.length ≤ (z.flatMap insB).length
  | [], _ => Nat.le_refl _
  | x :: z, ha => by
    have hx : checkI x = 0 := all_ok ha x List.mem_cons_self
    have hz : allI z = 0 := by
      have : (if checkI x ≠ 0 then checkI x else allI z) = 0 := ha
      rw [if_neg (by rw [hx]; decide)] at this; exact this
    have := put_min z hz
    have := insB_pos hx
    rw [List.flatMap_cons, List.length_append, List.length_cons]; omega
theorem take_put {z : List Ins} (ha : allI z = 0) (hs : ∀ x ∈ z, (-9223372036854775808 ≤ x.n ∧ x.n ≤ 9223372036854775807) ∧ x.s.size ≤ 1000) (hl : z.length ≤ 200) (rest : List UInt8) : rTake (putL z ++ rest) = some (z, rest) := by
  unfold putL
  rw [List.append_assoc]
  have e := numL_v z.length (z.flatMap insB ++ rest) (by omega)
  have hm := put_min z ha
  have hc : countR 200 (varL z.length ++ (z.flatMap insB ++ rest)) = (0, z.length, (varL z.length).length) := by
    unfold countR
    rw [e, if_neg]
    rintro ⟨_, h | h | h⟩
    · exact absurd h (by decide)
    · have : (200 : Int) < (z.length : Nat) := h; omega
    · have h' : (varL z.length ++ (z.flatMap insB ++ rest)).length - (varL z.length).length < z.length := h
      rw [List.length_append, List.length_append] at h'; omega
  unfold rTake
  rw [hc, if_neg (fun hh => hh rfl)]
  simp only
  rw [List.drop_left]
  exact items_put z rest [] ha hs
theorem take_many {z : List Ins} (hl : 200 < z.length) (h2 : z.length ≤ 1000000) (rest : List UInt8) : rTake (putL z ++ rest) = none := by
  unfold putL
  rw [List.append_assoc]
  have e := numL_v z.length (z.flatMap insB ++ rest) (by omega)
  have hc : (countR 200 (varL z.length ++ (z.flatMap insB ++ rest))).1 = 12 := by
    unfold countR
    rw [e, if_pos ⟨rfl, .inr (.inl (by show (200 : Int) < (z.length : Nat); omega))⟩]
  unfold rTake
  rw [if_pos (by rw [hc]; decide)]
/-- The names of the operators have no spaces. -/
theorem op_spB : ((List.range 42).all fun k => (bs (opT.getD k default).1).all fun c => decide (c ≠ 32 ∧ c ≠ 10)) = true := by decide +kernel
theorem op_sp {k : Nat} (hk : k < 42) : ∀ c ∈ bs (opT.getD k default).1, c ≠ (32 : UInt8) ∧ c ≠ (10 : UInt8) := fun c hc =>
  of_decide_eq_true (List.all_eq_true.1 (List.all_eq_true.1 op_spB k (List.mem_range.2 hk)) c hc)
theorem digits_nl (u : Nat) : ∀ c ∈ Lib.decDigits u, c ≠ (10 : UInt8) := by
  induction u using Nat.strongRecOn with
  | ind u ih =>
    intro c hc
    have key : ∀ v : Nat, v < 10 → UInt8.ofNat (48 + v) ≠ 10 := by
      intro v hv e
      have := congrArg UInt8.toNat e
      rw [UInt8.toNat_ofNat'] at this
      have h2 : (10 : UInt8).toNat = 10 := rfl
      omega
    by_cases h : u < 10
    · rw [Lib.decDigits, dif_pos h, List.mem_singleton] at hc
      rw [hc]; exact key u h
    · rw [Lib.decDigits, dif_neg h, List.mem_append, List.mem_singleton] at hc
      rcases hc with hc | hc
      · exact ih (u / 10) (by omega) c hc
      · rw [hc]; exact key (u % 10) (by omega)
theorem itoa_nl (n : Int) : ∀ c ∈ Lib.itoa n, c ≠ (10 : UInt8) := by
  unfold Lib.itoa
  split
  · intro c hc
    rcases List.mem_cons.1 hc with h | h
    · rw [h]; decide
    · exact digits_nl _ c h
  · exact digits_nl _
/-- A line, without what ends it, is read as its instruction. -/
theorem line_ins {x : Ins} (h : checkI x = 0) (hn : -9223372036854775808 ≤ x.n ∧ x.n ≤ 9223372036854775807) : ∃ p, bs (linF x) = p ++ [10] ∧ (∀ c ∈ p, c ≠ (10 : UInt8)) ∧ insL (sb p) = x := by
  obtain ⟨k, o, hk, hko, ho, hon, ht, hone, h1, h2, h3⟩ := ok_parts h
  have hsp := op_sp hk
  rw [ho, hon] at hsp
  have hop : ∀ c ∈ bs x.op, c ≠ (32 : UInt8) := fun c hc => (hsp c hc).1
  unfold linF
  obtain ⟨on, oa, ob⟩ := o
  simp only at hon h1 h2 h3 hone ht
  rw [ht]
  unfold linT
  have fin : ∀ (arg : List UInt8) (f : Bool) (p : List UInt8), Lib.cut p [32] = (bs x.op, arg, f) → insT' (oa, ob, true) x.op (sb arg) = x → insL (sb p) = x := by
    intro arg f p hc hi
    unfold insL
    rw [bs_sb, hc]
    simp only
    rw [sb_bs, ht]; exact hi
  cases oa with
  | true =>
    cases ob with
    | true => exact absurd ⟨rfl, rfl⟩ hone
    | false =>
      refine ⟨bs x.op ++ 32 :: Lib.itoa x.n, ?_, fun c hc => ?_, fin (Lib.itoa x.n) true _ (cut_at hop) ?_⟩
      · rw [if_pos rfl, bs_append, bs_append, bs_append, bs_sb]; simp; rfl
      · rcases List.mem_append.1 hc with h' | h'
        · exact (hsp c h').2
        · rcases List.mem_cons.1 h' with h' | h'
          · rw [h']; decide
          · exact itoa_nl _ c h'
      · unfold insT'
        simp only [if_true]
        rw [bs_sb, parse_itoa hn, ← h2 rfl]
  | false =>
    cases ob with
    | true =>
      refine ⟨bs x.op ++ 32 :: bs x.s, ?_, fun c hc => ?_, fin (bs x.s) true _ (cut_at hop) ?_⟩
      · rw [if_neg (by decide), if_pos rfl, bs_append, bs_append, bs_append]; simp; rfl
      · rcases List.mem_append.1 hc with h' | h'
        · exact (hsp c h').2
        · rcases List.mem_cons.1 h' with h' | h'
          · rw [h']; decide
          · exact (text_good (h3 rfl)).2 c h'
      · unfold insT'
        simp only [if_true, Bool.false_eq_true, if_false]
        rw [sb_bs, ← h1 rfl]
    | false =>
      refine ⟨bs x.op, ?_, fun c hc => (hsp c hc).2, fin [] false _ (cut_no hop) ?_⟩
      · rw [if_neg (by decide), if_neg (by decide), bs_append]; rfl
      · unfold insT'
        simp only [Bool.false_eq_true, if_false]
        rw [← h1 rfl, ← h2 rfl]
theorem showB_cons (x : Ins) (z : List Ins) : showB (x :: z) { data := #[] } = linF x ++ showB z { data := #[] } := by
  have he : ({ data := #[] } : ByteArray) ++ linF x = linF x ++ { data := #[] } := by rw [← bs_inj, bs_append, bs_append]; simp [bs]
  show showB z ({ data := #[] } ++ linF x) = _
  rw [he, showB_app]
theorem readN_show : ∀ (z : List Ins) (k : Nat) (acc : List Ins), allI z = 0 → (∀ x ∈ z, -9223372036854775808 ≤ x.n ∧ x.n ≤ 9223372036854775807) → (showB z { data := #[] }).size < k → readN k (showB z { data := #[] }) acc = some (acc ++ z)
  | [], k, acc, _, _, hk => by
    rw [List.append_nil]
    exact readN_end hk rfl
  | x :: z, k, acc, ha, hs, hk => by
    have hx : checkI x = 0 := all_ok ha x List.mem_cons_self
    have hz : allI z = 0 := by
      have : (if checkI x ≠ 0 then checkI x else allI z) = 0 := ha
      rw [if_neg (by rw [hx]; decide)] at this; exact this
    obtain ⟨p, h1, h2, h3⟩ := line_ins hx (hs x List.mem_cons_self)
    obtain ⟨s, hse⟩ : ∃ s, s = showB (x :: z) { data := #[] } := ⟨_, rfl⟩
    have hsb : bs s = p ++ 10 :: bs (showB z { data := #[] }) := by rw [hse, showB_cons, bs_append, h1]; simp
    have hcut := cut_at (t := bs (showB z { data := #[] })) h2
    rw [← hsb] at hcut
    have ho : oneL s = sb p := by unfold oneL; rw [hcut]
    have hr : restL s = showB z { data := #[] } := by unfold restL; rw [hcut]; exact sb_bs _
    have hin : insL (oneL s) = x := by rw [ho]; exact h3
    have hne : ¬ s = { data := #[] } := by
      intro e
      rw [e] at hsb
      have := congrArg List.length hsb
      simp [bs] at this
    have hsz : (showB z { data := #[] }).size < s.size := by rw [← hr]; exact restL_less hne
    rw [← hse] at hk ⊢
    rw [readN_on hk hne (by rw [hin, hx]; decide) (by
      rw [hin]
      refine List.isPrefixOf_iff_prefix.2 ⟨bs (showB z { data := #[] }), ?_⟩
      rw [h1, hsb]; simp), hr, hin, readN_show z (k - 1) _ hz (fun y hy => hs y (List.mem_cons_of_mem _ hy)) (by omega)]
    simp
theorem read_show {z : List Ins} (ha : allI z = 0) (hs : ∀ x ∈ z, -9223372036854775808 ≤ x.n ∧ x.n ≤ 9223372036854775807) : readL (showB z { data := #[] }) = some z := readN_show z _ [] ha hs (Nat.lt_succ_self _)
end Go.Proofs.YtioonbfinnigpaaGreatDoor

