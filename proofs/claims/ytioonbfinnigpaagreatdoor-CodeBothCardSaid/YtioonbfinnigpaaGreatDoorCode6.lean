/- Instructions read out of bytes; walked. -/
import Derived.Test.YtioonbfinnigpaaGreatDoorCode5
namespace Go.Proofs.YtioonbfinnigpaaGreatDoor
open Go Go.RowKit
set_option linter.unusedVariables false
set_option linter.unusedSimpArgs false
set_option maxRecDepth 100000
/-- What has been read: where the reader stands, whether all was right, what was read. -/
structure Tk where
  st : Nat × Int
  ok : Bool
  out : List Ins
def takeO (l : List UInt8) (o : ByteArray × Bool × Bool) (t : Tk) : Tk :=
  let st1 := ns l t.st
  let n : Int := if o.2.1 then zagI (nm l st1 : Nat) else 0
  let st2 := if o.2.1 then ns l st1 else st1
  let s : List UInt8 := if o.2.2 then tx l st2 else []
  let st3 := if o.2.2 then ts l st2 else st2
  { st := st3, ok := t.ok, out := t.out ++ [⟨o.1, n, sb s⟩] }
def take1 (l : List UInt8) (t : Tk) : Tk := if 42 ≤ nm l t.st then { t with st := ns l t.st, ok := false } else takeO l (opT.getD (nm l t.st) default) t
def takeN (l : List UInt8) : Nat → Tk → Tk
  | 0, t => t
  | n + 1, t => take1 l (takeN l n t)
def cn (l : List UInt8) (st : Nat × Int) : Nat := got st (countR 200 (l.drop st.1)).1 (countR 200 (l.drop st.1)).2.1 0
def cs (l : List UInt8) (st : Nat × Int) : Nat × Int := nxt st (countR 200 (l.drop st.1)).1 (countR 200 (l.drop st.1)).2.2
def takeA (l : List UInt8) (st : Nat × Int) : Tk := takeN l (cn l st) ⟨cs l st, true, []⟩
/-- What Take hands out. -/
def takeL (l : List UInt8) (st : Nat × Int) : List Ins := if (takeA l st).st.2 ≠ 0 ∨ (takeA l st).ok = false ∨ allI (takeA l st).out ≠ 0 then [] else (takeA l st).out
theorem cn_le (l : List UInt8) (st : Nat × Int) : cn l st ≤ 200 := by
  unfold cn got
  split
  · rename_i h
    have h2 := h.2
    unfold countR at h2 ⊢
    split at h2
    · exact absurd h2 (by decide)
    · rename_i hn
      rw [if_neg hn]
      show _ ≤ 200
      omega
  · exact Nat.zero_le _
theorem takeO_len (l : List UInt8) (o : ByteArray × Bool × Bool) (t : Tk) : (takeO l o t).out.length = t.out.length + 1 := by unfold takeO; simp
theorem take1_len (l : List UInt8) (t : Tk) : (take1 l t).out.length ≤ t.out.length + 1 := by
  unfold take1
  split
  · exact Nat.le_succ _
  · rw [takeO_len]; exact Nat.le_refl _
theorem takeN_len (l : List UInt8) (t : Tk) : ∀ n, (takeN l n t).out.length ≤ t.out.length + n
  | 0 => Nat.le_refl _
  | n + 1 => by have := takeN_len l t n; have := take1_len l (takeN l n t); show (take1 l _).out.length ≤ _; omega
theorem ins_info : (Tryz.prog.info? 47).map (fun i => (i.zero, i.size, i.bytes)) = some (some (.agg #[.string ByteArray.empty, .int .i64 0, .string ByteArray.empty]), 3, 40) := rfl
theorem rd_num (base b : Nat) (v : Value) (l : List UInt8) (st : Nat × Int) (w0 : World) (hR : RdAt base w0 b v l st.1 st.2) (hb : base ≤ w0.heap.size) : Does Tryz.prog 13 #[.pointer (some ⟨b, 0, none⟩)] w0 (fun r w' => r = .int .u64 (nm l st : Int) ∧ RdAt base w' b v l (ns l st).1 (ns l st).2 ∧ Ch (fun j => j = b) w0 w') := rdnum_walk base b v l st.1 st.2 w0 hR hb
theorem rd_int (base b : Nat) (v : Value) (l : List UInt8) (st : Nat × Int) (w0 : World) (hR : RdAt base w0 b v l st.1 st.2) (hb : base ≤ w0.heap.size) : Does Tryz.prog 28 #[.pointer (some ⟨b, 0, none⟩)] w0 (fun r w' => r = .int .i64 (zagI (nm l st : Nat)) ∧ RdAt base w' b v l (ns l st).1 (ns l st).2 ∧ Ch (fun j => j = b) w0 w') := rdint_walk base b v l st.1 st.2 w0 hR hb
theorem rd_text (base b : Nat) (v : Value) (l : List UInt8) (st : Nat × Int) (w0 : World) (hR : RdAt base w0 b v l st.1 st.2) (hT : Tabs base w0) (hb : base ≤ w0.heap.size) : Does Tryz.prog 29 #[.pointer (some ⟨b, 0, none⟩)] w0 (fun r w' => r = .string (sb (tx l st)) ∧ RdAt base w' b v l (ts l st).1 (ts l st).2 ∧ Ch (fun j => j = b) w0 w') := rdtext_walk base b v l st.1 st.2 w0 hR hT hb
theorem rd_count (base b : Nat) (v : Value) (l : List UInt8) (st : Nat × Int) (w0 : World) (hR : RdAt base w0 b v l st.1 st.2) (hb : base ≤ w0.heap.size) : Does Tryz.prog 27 #[.pointer (some ⟨b, 0, none⟩), .int .i64 200] w0 (fun r w' => r = .int .i64 (cn l st : Int) ∧ RdAt base w' b v l (cs l st).1 (cs l st).2 ∧ Ch (fun j => j = b) w0 w') := rdcount_walk base b v l st.1 st.2 200 w0 hR (by decide) hb
theorem textR_le (m : List UInt8) : (textR m).2.1.length ≤ 4096 := by
  unfold textR
  split
  · exact Nat.zero_le _
  · split
    · exact Nat.zero_le _
    · split
      · exact Nat.zero_le _
      · split
        · show (List.take _ _).length ≤ _
          rw [List.length_take]; omega
        · exact Nat.zero_le _
theorem tx_le (l : List UInt8) (st : Nat × Int) : (tx l st).length ≤ 4096 := by
  unfold tx got
  split
  · exact textR_le _
  · exact Nat.zero_le _
theorem takeN_sz (l : List UInt8) (t : Tk) (h : ∀ x ∈ t.out, x.s.size ≤ 4096) : ∀ n, ∀ x ∈ (takeN l n t).out, x.s.size ≤ 4096
  | 0 => h
  | n + 1 => by
    have ih := takeN_sz l t h n
    intro x hx
    have hx' : x ∈ (take1 l (takeN l n t)).out := hx
    unfold take1 at hx'
    split at hx'
    · exact ih x hx'
    · unfold takeO at hx'
      rcases List.mem_append.1 hx' with hx' | hx'
      · exact ih x hx'
      · rw [List.mem_singleton] at hx'
        rw [hx']
        show (sb _).size ≤ _
        rw [sb_size]
        split
        · exact tx_le _ _
        · exact Nat.zero_le _
end Go.Proofs.YtioonbfinnigpaaGreatDoor

