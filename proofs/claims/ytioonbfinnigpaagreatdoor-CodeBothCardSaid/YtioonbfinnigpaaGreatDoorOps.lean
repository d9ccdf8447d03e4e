/- What each kind of operation does, as facts on its run: numbers, bools, strings, blocks, slices; over any program. -/
import Derived.Test.YtioonbfinnigpaaGreatDoorBase
namespace Go.Proofs.YtioonbfinnigpaaGreatDoor
open Go Go.RowKit
set_option linter.unusedVariables false
set_option linter.unusedSimpArgs false
/-- A string's bytes, and bytes as a string. -/
def bs (s : ByteArray) : List UInt8 := s.data.toList
def sb (l : List UInt8) : ByteArray := ⟨l.toArray⟩
def bat (s : ByteArray) (i : Nat) : UInt8 := (bs s).getD i 0
section pure_ops
variable {P : Program} {w : World} {f : Fr} {dst : Option Tmp} {ty : TypeId} {pos : String} {af : Array Edge} {g : Option (Nat × Bool)}
theorem r_move {x : Operand} {v : Value} (h : ev f x = v) : (execOp (ev f) ⟨dst, .move x, ty, pos, af, g⟩).run P w = .ok (.value v) w := by subst h; rfl
theorem r_assign {x : Operand} {v : Value} (h : ev f x = v) : (execOp (ev f) ⟨dst, .assign x, ty, pos, af, g⟩).run P w = .ok (.value v) w := by subst h; rfl
theorem r_pick_t {c x y : Operand} {v : Value} (hc : ev f c = .bool true) (h : ev f x = v) : (execOp (ev f) ⟨dst, .pick c x y, ty, pos, af, g⟩).run P w = .ok (.value v) w := by
  subst h; simp [execOp, hc, asBool]
theorem r_pick_f {c x y : Operand} {v : Value} (hc : ev f c = .bool false) (h : ev f y = v) : (execOp (ev f) ⟨dst, .pick c x y, ty, pos, af, g⟩).run P w = .ok (.value v) w := by
  subst h; simp [execOp, hc, asBool]
section bin
variable {x y : Operand} {k k' : IntKind} {m n z : Int} {xt yt : TypeId}
theorem r_lss (hx : ev f x = .int k m) (hy : ev f y = .int k n) : (execOp (ev f) ⟨dst, .binOp .lss xt x y yt, ty, pos, af, g⟩).run P w = .ok (.value (.bool (decide (m < n)))) w := by
  simp [execOp, hx, hy, eqGuard, binOp, Op.intCmp]
theorem r_leq (hx : ev f x = .int k m) (hy : ev f y = .int k n) : (execOp (ev f) ⟨dst, .binOp .leq xt x y yt, ty, pos, af, g⟩).run P w = .ok (.value (.bool (decide (m ≤ n)))) w := by
  simp [execOp, hx, hy, eqGuard, binOp, Op.intCmp]
theorem r_gtr (hx : ev f x = .int k m) (hy : ev f y = .int k n) : (execOp (ev f) ⟨dst, .binOp .gtr xt x y yt, ty, pos, af, g⟩).run P w = .ok (.value (.bool (decide (n < m)))) w := by
  simp [execOp, hx, hy, eqGuard, binOp, Op.intCmp]
theorem r_geq (hx : ev f x = .int k m) (hy : ev f y = .int k n) : (execOp (ev f) ⟨dst, .binOp .geq xt x y yt, ty, pos, af, g⟩).run P w = .ok (.value (.bool (decide (n ≤ m)))) w := by
  simp [execOp, hx, hy, eqGuard, binOp, Op.intCmp]
theorem r_eql (hx : ev f x = .int k m) (hy : ev f y = .int k n) : (execOp (ev f) ⟨dst, .binOp .eql xt x y yt, ty, pos, af, g⟩).run P w = .ok (.value (.bool (decide (m = n)))) w := by
  simp [execOp, hx, hy, eqGuard, binOp, Op.intCmp]; rfl
theorem r_neq (hx : ev f x = .int k m) (hy : ev f y = .int k n) : (execOp (ev f) ⟨dst, .binOp .neq xt x y yt, ty, pos, af, g⟩).run P w = .ok (.value (.bool (decide (m ≠ n)))) w := by
  simp [execOp, hx, hy, eqGuard, binOp, Op.intCmp, bne]; rfl
theorem r_add (hx : ev f x = .int k m) (hy : ev f y = .int k n) (hz : k.wrap (m + n) = z) : (execOp (ev f) ⟨dst, .binOp .add xt x y yt, ty, pos, af, g⟩).run P w = .ok (.value (.int k z)) w := by
  subst hz; simp [execOp, hx, hy, eqGuard, binOp, Op.intArith]
theorem r_sub (hx : ev f x = .int k m) (hy : ev f y = .int k n) (hz : k.wrap (m - n) = z) : (execOp (ev f) ⟨dst, .binOp .sub xt x y yt, ty, pos, af, g⟩).run P w = .ok (.value (.int k z)) w := by
  subst hz; simp [execOp, hx, hy, eqGuard, binOp, Op.intArith]
theorem r_mul (hx : ev f x = .int k m) (hy : ev f y = .int k n) (hz : k.wrap (m * n) = z) : (execOp (ev f) ⟨dst, .binOp .mul xt x y yt, ty, pos, af, g⟩).run P w = .ok (.value (.int k z)) w := by
  subst hz; simp [execOp, hx, hy, eqGuard, binOp, Op.intArith]
theorem r_quo (hx : ev f x = .int k m) (hy : ev f y = .int k n) (h0 : n ≠ 0) (hz : k.wrap (m.tdiv n) = z) : (execOp (ev f) ⟨dst, .binOp .quo xt x y yt, ty, pos, af, g⟩).run P w = .ok (.value (.int k z)) w := by
  subst hz; simp [execOp, hx, hy, eqGuard, binOp, Op.intDiv, h0]
theorem r_rem (hx : ev f x = .int k m) (hy : ev f y = .int k n) (h0 : n ≠ 0) (hz : m.tmod n = z) : (execOp (ev f) ⟨dst, .binOp .rem xt x y yt, ty, pos, af, g⟩).run P w = .ok (.value (.int k z)) w := by
  subst hz; simp [execOp, hx, hy, eqGuard, binOp, Op.intDiv, h0]
theorem r_and (hx : ev f x = .int k m) (hy : ev f y = .int k n) : (execOp (ev f) ⟨dst, .binOp .and xt x y yt, ty, pos, af, g⟩).run P w = .ok (.value (.int k (bits .and k m n))) w := by
  simp [execOp, hx, hy, eqGuard, binOp]; rfl
theorem r_or (hx : ev f x = .int k m) (hy : ev f y = .int k n) : (execOp (ev f) ⟨dst, .binOp .or xt x y yt, ty, pos, af, g⟩).run P w = .ok (.value (.int k (bits .or k m n))) w := by
  simp [execOp, hx, hy, eqGuard, binOp]; rfl
theorem r_xor (hx : ev f x = .int k m) (hy : ev f y = .int k n) : (execOp (ev f) ⟨dst, .binOp .xor xt x y yt, ty, pos, af, g⟩).run P w = .ok (.value (.int k (bits .xor k m n))) w := by
  simp [execOp, hx, hy, eqGuard, binOp]; rfl
theorem r_shl (hx : ev f x = .int k m) (hy : ev f y = .int k' n) (h0 : 0 ≤ n) (hz : k.wrap (m * 2 ^ min n.toNat k.bits) = z) : (execOp (ev f) ⟨dst, .binOp .shl xt x y yt, ty, pos, af, g⟩).run P w = .ok (.value (.int k z)) w := by
  subst hz; simp [execOp, hx, hy, eqGuard, binOp, shift_shl_any _ _ _ _ h0]
theorem r_shr (hx : ev f x = .int k m) (hy : ev f y = .int k' n) (h0 : 0 ≤ n) (hz : m / 2 ^ min n.toNat k.bits = z) : (execOp (ev f) ⟨dst, .binOp .shr xt x y yt, ty, pos, af, g⟩).run P w = .ok (.value (.int k z)) w := by
  subst hz; simp [execOp, hx, hy, eqGuard, binOp, shift_shr_any _ _ _ _ h0]
theorem r_not {b : Bool} (hx : ev f x = .bool b) : (execOp (ev f) ⟨dst, .unOp .not xt x, ty, pos, af, g⟩).run P w = .ok (.value (.bool (!b))) w := by
  simp [execOp, hx, unary_not]
theorem r_notp {p : Prop} [Decidable p] (hx : ev f x = .bool (decide p)) : (execOp (ev f) ⟨dst, .unOp .not xt x, ty, pos, af, g⟩).run P w = .ok (.value (.bool (decide (¬ p)))) w := by
  rw [r_not hx]; simp
theorem r_neg (hx : ev f x = .int k m) (hz : k.wrap (0 - m) = z) : (execOp (ev f) ⟨dst, .unOp .neg xt x, ty, pos, af, g⟩).run P w = .ok (.value (.int k z)) w := by
  subst hz; simp [execOp, hx, unary_neg, Op.intArith]
theorem r_com (hx : ev f x = .int k m) : (execOp (ev f) ⟨dst, .unOp .xor xt x, ty, pos, af, g⟩).run P w = .ok (.value (.int k (bits .xor k (if k.signed then -1 else k.max) m))) w := by
  simp [execOp, hx, unary_xor]; rfl
theorem r_adds {a b : ByteArray} (hx : ev f x = .string a) (hy : ev f y = .string b) (hl : a.size + b.size ≤ 9223372036854775807) : (execOp (ev f) ⟨dst, .binOp .add xt x y yt, ty, pos, af, g⟩).run P w = .ok (.value (.string (a ++ b))) w := by
  simp [execOp, hx, hy, eqGuard, binOp_string_add, run_string_add_sum w a b hl]
theorem toList_inj {a b : ByteArray} : (a.toList == b.toList) = decide (a = b) := by
  rw [ByteArray.toList_eq, ByteArray.toList_eq, Bool.eq_iff_iff, beq_iff_eq, decide_eq_true_eq]
  exact ⟨fun h => ByteArray.ext (Array.toList_inj.1 h), fun h => by rw [h]⟩
theorem r_eqls {a b : ByteArray} (hx : ev f x = .string a) (hy : ev f y = .string b) : (execOp (ev f) ⟨dst, .binOp .eql xt x y yt, ty, pos, af, g⟩).run P w = .ok (.value (.bool (decide (a = b)))) w := by
  simp only [← toList_inj]
  simp [execOp, hx, hy, eqGuard, binOp_string_eql]
theorem r_neqs {a b : ByteArray} (hx : ev f x = .string a) (hy : ev f y = .string b) : (execOp (ev f) ⟨dst, .binOp .neq xt x y yt, ty, pos, af, g⟩).run P w = .ok (.value (.bool (decide (a ≠ b)))) w := by
  have : decide (a ≠ b) = !(a.toList == b.toList) := by rw [toList_inj]; simp
  rw [this]
  simp [execOp, hx, hy, eqGuard, binOp_string_neq]
theorem r_eqlb {a b : Bool} (hu : P.underlying xt = some .bool) (hx : ev f x = .bool a) (hy : ev f y = .bool b) : (execOp (ev f) ⟨dst, .binOp .eql xt x y yt, ty, pos, af, g⟩).run P w = .ok (.value (.bool (decide (a = b)))) w := by
  have e : (a == b) = decide (a = b) := by cases a <;> cases b <;> rfl
  rw [← e]
  simp [execOp, hx, hy, eqGuard, run_eql_bool w xt a b hu]
theorem r_neqb {a b : Bool} (hu : P.underlying xt = some .bool) (hx : ev f x = .bool a) (hy : ev f y = .bool b) : (execOp (ev f) ⟨dst, .binOp .neq xt x y yt, ty, pos, af, g⟩).run P w = .ok (.value (.bool (decide (a ≠ b)))) w := by
  have e : (!(a == b)) = decide (a ≠ b) := by cases a <;> cases b <;> rfl
  rw [← e]
  simp [execOp, hx, hy, eqGuard, run_neq_bool w xt a b hu]
theorem r_conv {s d : TypeId} {dd : TypeDesc} (hs : P.underlying s = some dd) (hd : P.underlying d = some (.int k')) (hx : ev f x = .int k m) (hz : k'.wrap m = z) : (execOp (ev f) ⟨dst, .convert s d x, ty, pos, af, g⟩).run P w = .ok (.value (.int k' z)) w := by
  subst hz
  have : P.intKind d = k' := by simp [Program.intKind, hd]
  simp [execOp, hx, convert, run_underlying hs, run_underlying hd, Conv.intToInt]
end bin
theorem r_lens {x : Operand} {t : TypeId} {s : ByteArray} (hu : P.underlying t = some .string) (hx : ev f x = .string s) : (execOp (ev f) ⟨dst, .call { callee := .builtin .len, args := #[x], argTypes := #[t] }, ty, pos, af, g⟩).run P w = .ok (.value (.int .i64 s.size)) w := by
  simp [execOp, resolve, invoke, builtin, hx, run_len_string w t _ s hu, goInt]
theorem r_len {x : Operand} {t e : TypeId} {A : Option Addr} {l c : Nat} (hu : P.underlying t = some (.slice e)) (hx : ev f x = .slice A l c) : (execOp (ev f) ⟨dst, .call { callee := .builtin .len, args := #[x], argTypes := #[t] }, ty, pos, af, g⟩).run P w = .ok (.value (.int .i64 l)) w := by
  have he : P.elem t = e := by simp [Program.elem, hu]
  simp [execOp, resolve, invoke, builtin, hx, run_len_slice w t _ A l c (by rw [he]; exact hu), goInt]
theorem r_indexs {x y : Operand} {t : TypeId} {s : ByteArray} {k : IntKind} {i : Int} (hu : P.underlying t = some .string) (hx : ev f x = .string s) (hy : ev f y = .int k i) (h0 : 0 ≤ i) (h : i.toNat < s.size) {j : Nat} (hj : i.toNat = j) :
    (execOp (ev f) ⟨dst, .index t x y, ty, pos, af, g⟩).run P w = .ok (.value (.int .u8 ((bat s j).toNat : Int))) w := by
  subst hj
  have h' : i < (s.size : Int) := by omega
  have h2 : i.toNat < s.data.size := h
  have e : bat s i.toNat = s[i.toNat]'h := by
    simp only [bat, bs, List.getD_eq_getElem?_getD, Array.getElem?_toList, Array.getElem?_eq_getElem h2, Option.getD_some]; rfl
  simp [execOp, hx, hy, run_index_string w t s k i hu, h0, h', e]
theorem r_slices {kl kh : IntKind} {x : Operand} {lo hi : Option Operand} {t : TypeId} {s : ByteArray} {l h : Int} (hu : P.underlying t = some .string) (hx : ev f x = .string s)
    (hlo : lo.map (ev f) = some (.int kl l)) (hhi : hi.map (ev f) = some (.int kh h)) (h0 : 0 ≤ l) (h1 : l ≤ h) (h2 : h ≤ s.size) :
    (execOp (ev f) ⟨dst, .slice t x lo hi none, ty, pos, af, g⟩).run P w = .ok (.value (.string (s.extract l.toNat h.toNat))) w := by
  have h3 : h ≤ (s.size : Int) := h2
  simp [execOp, hx, hlo, hhi, run_sliceAt_string w t _ _ _ _ hu, run_slice_string w t s kl kh l h hu, h0, h1, h3]
theorem r_slices_h {kh : IntKind} {x : Operand} {hi : Option Operand} {t : TypeId} {s : ByteArray} {h : Int} (hu : P.underlying t = some .string) (hx : ev f x = .string s)
    (hhi : hi.map (ev f) = some (.int kh h)) (h1 : 0 ≤ h) (h2 : h ≤ s.size) :
    (execOp (ev f) ⟨dst, .slice t x none hi none, ty, pos, af, g⟩).run P w = .ok (.value (.string (s.extract 0 h.toNat))) w := by
  simp [execOp, hx, hhi, run_sliceAt_string w t _ _ _ _ hu, run_slice_string_h w t s hu kh h h1 h2]
theorem r_slices_l {kl : IntKind} {x : Operand} {lo : Option Operand} {t : TypeId} {s : ByteArray} {l : Int} (hu : P.underlying t = some .string) (hx : ev f x = .string s)
    (hlo : lo.map (ev f) = some (.int kl l)) (h0 : 0 ≤ l) (h1 : l ≤ s.size) :
    (execOp (ev f) ⟨dst, .slice t x lo none none, ty, pos, af, g⟩).run P w = .ok (.value (.string (s.extract l.toNat s.size))) w := by
  simp [execOp, hx, hlo, run_sliceAt_string w t _ _ _ _ hu, run_slice_string_l w t s hu kl l h0 h1]
theorem r_func {fn : Go.Fn} {first cap : Array Operand} {c1 c2 : Array Value} (h1 : first.map (ev f) = c1) (h2 : cap.map (ev f) = c2) : (execOp (ev f) ⟨dst, .makeFunc fn first cap, ty, pos, af, g⟩).run P w = .ok (.value (.func fn c1 c2)) w := by
  subst h1 h2; rfl
theorem r_extract {x : Operand} {i : Nat} {vs : Array Value} {v : Value} (hx : ev f x = .tuple vs) (hv : vs[i]? = some v) : (execOp (ev f) ⟨dst, .extract x i, ty, pos, af, g⟩).run P w = .ok (.value v) w := by
  simp [execOp, hx, Instr.extract, hv]
theorem r_ext2_0 {x : Operand} {a b : Value} (hx : ev f x = .tuple #[a, b]) : (execOp (ev f) ⟨dst, .extract x 0, ty, pos, af, g⟩).run P w = .ok (.value a) w := r_extract hx rfl
theorem r_ext2_1 {x : Operand} {a b : Value} (hx : ev f x = .tuple #[a, b]) : (execOp (ev f) ⟨dst, .extract x 1, ty, pos, af, g⟩).run P w = .ok (.value b) w := r_extract hx rfl
theorem r_ext3_0 {x : Operand} {a b c : Value} (hx : ev f x = .tuple #[a, b, c]) : (execOp (ev f) ⟨dst, .extract x 0, ty, pos, af, g⟩).run P w = .ok (.value a) w := r_extract hx rfl
theorem r_ext3_1 {x : Operand} {a b c : Value} (hx : ev f x = .tuple #[a, b, c]) : (execOp (ev f) ⟨dst, .extract x 1, ty, pos, af, g⟩).run P w = .ok (.value b) w := r_extract hx rfl
theorem r_ext3_2 {x : Operand} {a b c : Value} (hx : ev f x = .tuple #[a, b, c]) : (execOp (ev f) ⟨dst, .extract x 2, ty, pos, af, g⟩).run P w = .ok (.value c) w := r_extract hx rfl
theorem r_ext4_0 {x : Operand} {a b c d : Value} (hx : ev f x = .tuple #[a, b, c, d]) : (execOp (ev f) ⟨dst, .extract x 0, ty, pos, af, g⟩).run P w = .ok (.value a) w := r_extract hx rfl
theorem r_ext4_1 {x : Operand} {a b c d : Value} (hx : ev f x = .tuple #[a, b, c, d]) : (execOp (ev f) ⟨dst, .extract x 1, ty, pos, af, g⟩).run P w = .ok (.value b) w := r_extract hx rfl
theorem r_ext4_2 {x : Operand} {a b c d : Value} (hx : ev f x = .tuple #[a, b, c, d]) : (execOp (ev f) ⟨dst, .extract x 2, ty, pos, af, g⟩).run P w = .ok (.value c) w := r_extract hx rfl
theorem r_ext4_3 {x : Operand} {a b c d : Value} (hx : ev f x = .tuple #[a, b, c, d]) : (execOp (ev f) ⟨dst, .extract x 3, ty, pos, af, g⟩).run P w = .ok (.value d) w := r_extract hx rfl
theorem r_ext5_0 {x : Operand} {a b c d e : Value} (hx : ev f x = .tuple #[a, b, c, d, e]) : (execOp (ev f) ⟨dst, .extract x 0, ty, pos, af, g⟩).run P w = .ok (.value a) w := r_extract hx rfl
theorem r_ext5_1 {x : Operand} {a b c d e : Value} (hx : ev f x = .tuple #[a, b, c, d, e]) : (execOp (ev f) ⟨dst, .extract x 1, ty, pos, af, g⟩).run P w = .ok (.value b) w := r_extract hx rfl
theorem r_ext5_2 {x : Operand} {a b c d e : Value} (hx : ev f x = .tuple #[a, b, c, d, e]) : (execOp (ev f) ⟨dst, .extract x 2, ty, pos, af, g⟩).run P w = .ok (.value c) w := r_extract hx rfl
theorem r_ext5_3 {x : Operand} {a b c d e : Value} (hx : ev f x = .tuple #[a, b, c, d, e]) : (execOp (ev f) ⟨dst, .extract x 3, ty, pos, af, g⟩).run P w = .ok (.value d) w := r_extract hx rfl
theorem r_ext5_4 {x : Operand} {a b c d e : Value} (hx : ev f x = .tuple #[a, b, c, d, e]) : (execOp (ev f) ⟨dst, .extract x 4, ty, pos, af, g⟩).run P w = .ok (.value e) w := r_extract hx rfl
theorem r_nilCheck {x : Operand} {ad : Addr} (hx : ev f x = .pointer (some ad)) : (execOp (ev f) ⟨dst, .nilCheck x, ty, pos, af, g⟩).run P w = .ok (.value (.pointer (some ad))) w := by
  simp [execOp, hx]
/-- A call of a function by its name, or of a function value. -/
theorem r_call {c : Operand} {args : Array Operand} {ts : Array TypeId} {fid : FuncId} {cap first : Array Value} {l : List Value} {fn : Func} {bd : Code} (hf : P.funcs[fid]? = some fn) (hn : (fn.name == "runtime.NumGoroutine") = false) (hb : fn.body = some bd)
    (hc : ev f c = .func (.func fid) first cap) (ha : first.toList ++ args.toList.map (ev f) ++ cap.toList = l) :
    (execOp (ev f) ⟨dst, .call { callee := .value c, args := args, argTypes := ts }, ty, pos, af, g⟩).run P w = .ok (.enter fid l.toArray) w := by
  have hn' : ¬ fn.name = "runtime.NumGoroutine" := by simpa using hn
  have hl : l.toArray = first ++ args.map (ev f) ++ cap := by rw [← ha]; simp
  simp [execOp, resolve, hc, Deferred.ofValue, invoke, callFunc, hf, hn', hb, hl]
theorem r_shrc {x y : Operand} {k k' : IntKind} {m n q : Int} {xt yt : TypeId} (hx : ev f x = .int k m) (hy : ev f y = .int k' n) (h0 : 0 ≤ n) (hq : (2 : Int) ^ min n.toNat k.bits = q) : (execOp (ev f) ⟨dst, .binOp .shr xt x y yt, ty, pos, af, g⟩).run P w = .ok (.value (.int k (m / q))) w :=
  r_shr hx hy h0 (by rw [hq])
theorem r_shlc {x y : Operand} {k k' : IntKind} {m n q z : Int} {xt yt : TypeId} (hx : ev f x = .int k m) (hy : ev f y = .int k' n) (h0 : 0 ≤ n) (hq : (2 : Int) ^ min n.toNat k.bits = q) (hz : k.wrap (m * q) = z) : (execOp (ev f) ⟨dst, .binOp .shl xt x y yt, ty, pos, af, g⟩).run P w = .ok (.value (.int k z)) w :=
  r_shl hx hy h0 (by rw [hq, hz])
theorem r_quon {x y : Operand} {k : IntKind} {m n z : Int} {xt yt : TypeId} (hx : ev f x = .int k m) (hy : ev f y = .int k n) (h0 : 0 ≤ m) (h1 : 0 < n) (hz : k.wrap (m / n) = z) : (execOp (ev f) ⟨dst, .binOp .quo xt x y yt, ty, pos, af, g⟩).run P w = .ok (.value (.int k z)) w :=
  r_quo hx hy (by omega) (by rw [Int.tdiv_eq_ediv_of_nonneg h0, hz])
theorem r_remn {x y : Operand} {k : IntKind} {m n : Int} {xt yt : TypeId} (hx : ev f x = .int k m) (hy : ev f y = .int k n) (h0 : 0 ≤ m) (h1 : 0 < n) : (execOp (ev f) ⟨dst, .binOp .rem xt x y yt, ty, pos, af, g⟩).run P w = .ok (.value (.int k (m % n))) w :=
  r_rem hx hy (by omega) (Int.tmod_eq_emod_of_nonneg h0)
end pure_ops
/-! ### the world's blocks -/
/-- Of the blocks that stood, only those of S may have turned. -/
structure Ch (S : Nat → Prop) (w w' : World) : Prop where
  os : w'.os = w.os
  tape : w'.tape = w.tape
  output : w'.output = w.output
  size : w.heap.size ≤ w'.heap.size
  blk : ∀ i, i < w.heap.size → ¬ S i → w'.heap[i]? = w.heap[i]?
def no : Nat → Prop := fun _ => False
abbrev Nw := Ch no
theorem not_no {i : Nat} : ¬ no i := fun h => h
theorem Ch.refl {S : Nat → Prop} (w : World) : Ch S w w := ⟨rfl, rfl, rfl, Nat.le_refl _, fun _ _ _ => rfl⟩
theorem Ch.trans {S : Nat → Prop} {a b c : World} (h : Ch S a b) (k : Ch S b c) : Ch S a c :=
  ⟨k.os.trans h.os, k.tape.trans h.tape, k.output.trans h.output, Nat.le_trans h.size k.size, fun i hi hn => (k.blk i (Nat.lt_of_lt_of_le hi h.size) hn).trans (h.blk i hi hn)⟩
theorem Ch.mono {S T : Nat → Prop} {a b : World} (h : Ch S a b) (hs : ∀ i, i < a.heap.size → S i → T i) : Ch T a b := ⟨h.os, h.tape, h.output, h.size, fun i hi hn => h.blk i hi fun x => hn (hs i hi x)⟩
theorem Ch.nw {T : Nat → Prop} {a b : World} (h : Nw a b) : Ch T a b := h.mono fun _ _ x => x.elim
/-- Changes to blocks that weren't there are none. -/
theorem Ch.fresh {S T : Nat → Prop} {a b c : World} (h : Ch T a b) (k : Ch S b c) (hs : ∀ i, i < a.heap.size → S i → T i) : Ch T a c :=
  ⟨k.os.trans h.os, k.tape.trans h.tape, k.output.trans h.output, Nat.le_trans h.size k.size, fun i hi hn => (k.blk i (Nat.lt_of_lt_of_le hi h.size) (fun x => hn (hs i hi x))).trans (h.blk i hi hn)⟩
theorem Ch.get {S : Nat → Prop} {w w' : World} {i : Nat} {o : Obj} (c : Ch S w w') (hS : ¬ S i) (hb : w.heap[i]? = some o) : w'.heap[i]? = some o := (c.blk i (lt_of_block hb) hS).trans hb
theorem Ch.below {w w' : World} (c : Nw w w') : Below w.heap.size w w' := ⟨c.os, c.tape, c.output, c.size, fun i hi => c.blk i hi (fun x => x)⟩
theorem Ch.of_below {w w' : World} (c : Below w.heap.size w w') : Nw w w' := ⟨c.os, c.tape, c.output, c.size, fun i hi _ => c.block i hi⟩
theorem Ch.of_grown {w w' : World} {row : Option Nat} (h : w.grownBy w' row) : Ch (fun i => row = some i) w w' := ⟨h.os, h.tape, h.output, h.size, fun i hi hn => h.block i hi (fun e => hn e.symm)⟩
theorem Ch.drew (w : World) : Nw w w.drew := ⟨rfl, rfl, rfl, Nat.le_refl _, fun _ _ _ => rfl⟩
theorem Ch.alloc (w : World) (o : Obj) : Nw w (w.alloc o) := ⟨rfl, rfl, rfl, by simp, fun i hi _ => Below.heap_alloc w o i hi⟩
theorem Ch.set (w : World) (a : Addr) (v : Value) : Ch (fun i => i = a.block) w (w.setCell a v) := ⟨rfl, rfl, rfl, by simp [World.setCell], fun i _ hn => Below.heap_setCell w a v i hn⟩
theorem Ch.setRow (w : World) (b : Nat) (cs : Array Value) : Ch (fun i => i = b) w (w.setRow b cs) := ⟨rfl, rfl, rfl, by simp [World.setRow], fun i _ hn => by simp [World.setRow, Array.getElem?_modify, Ne.symm hn]⟩
theorem add_lit (b o m : Nat) : (⟨b, o, none⟩ : Addr).add m = ⟨b, o + m, none⟩ := by
  unfold Addr.add
  split
  · rename_i h; subst h; rfl
  · rfl
/-- A block that may be written: what it holds, of which type. -/
def Bk (w : World) (b : Nat) (cs : Array Value) (t : TypeId) : Prop := ∃ fr : Nat × Nat, w.heap[b]? = some (.cells cs t fr) ∧ (fr = (0, 0) ∨ cs.size ≤ fr.1)
theorem Bk.of {w : World} {b : Nat} {cs : Array Value} {t : TypeId} (h : w.heap[b]? = some (.cells cs t (0, 0))) : Bk w b cs t := ⟨_, h, .inl rfl⟩
theorem Bk.lt {w : World} {b : Nat} {cs : Array Value} {t : TypeId} (h : Bk w b cs t) : b < w.heap.size := by obtain ⟨_, h, _⟩ := h; exact lt_of_block h
theorem Bk.ch {S : Nat → Prop} {w w' : World} {b : Nat} {cs : Array Value} {t : TypeId} (c : Ch S w w') (hS : ¬ S b) (h : Bk w b cs t) : Bk w' b cs t := by
  obtain ⟨fr, h, k⟩ := h; exact ⟨fr, c.get hS h, k⟩
theorem Bk.cell {w : World} {b i : Nat} {cs : Array Value} {t : TypeId} (h : Bk w b cs t) : w.cell? ⟨b, i, none⟩ = cs[i]? := by obtain ⟨fr, h, _⟩ := h; exact cell_of_row w b i cs t fr h
theorem Bk.free {w : World} {b i : Nat} {cs : Array Value} {t : TypeId} (h : Bk w b cs t) (hi : i < cs.size) : w.frozen? ⟨b, i, none⟩ = false := by
  obtain ⟨fr, h, k⟩ := h
  simp only [World.frozen?, h]
  rcases k with rfl | k
  · simp
  · have : ¬ fr.1 ≤ i := by omega
    simp [this]
theorem Bk.set {w : World} {b i : Nat} {cs : Array Value} {t : TypeId} {v : Value} (h : Bk w b cs t) : Bk (w.setCell ⟨b, i, none⟩ v) b (cs.setIfInBounds i v) t := by
  obtain ⟨fr, h, k⟩ := h
  refine ⟨fr, ?_, by simpa using k⟩
  simp [World.setCell, Array.getElem?_modify, h]
theorem Bk.new (w : World) (cs : Array Value) (t : TypeId) : Bk (w.alloc (.cells cs t)) w.heap.size cs t := .of (heap_alloc_new w _)
theorem Bk.ne {w : World} {b b' : Nat} {cs cs' : Array Value} {t t' : TypeId} (h : Bk w b cs t) (h' : Bk w b' cs' t') (hne : t ≠ t') : b ≠ b' := by
  rintro rfl
  obtain ⟨_, h, _⟩ := h
  obtain ⟨_, h', _⟩ := h'
  rw [h] at h'
  injection h' with h'
  injection h' with _ h'
  exact hne h'
/-- Block i of w stands in w'. -/
def Sm (w w' : World) (i : Nat) : Prop := w.heap.size ≤ w'.heap.size ∧ (i < w.heap.size → w'.heap[i]? = w.heap[i]?)
theorem Sm.refl (w : World) (i : Nat) : Sm w w i := ⟨Nat.le_refl _, fun _ => rfl⟩
theorem Sm.step {S : Nat → Prop} {w w1 w2 : World} {i : Nat} (c : Ch S w1 w2) (hS : i < w.heap.size → ¬ S i) (h : Sm w w1 i) : Sm w w2 i :=
  ⟨Nat.le_trans h.1 c.size, fun hi => (c.blk i (Nat.lt_of_lt_of_le hi h.1) (hS hi)).trans (h.2 hi)⟩
theorem Bk.to {w w' : World} {b : Nat} {cs : Array Value} {t : TypeId} (h : Bk w b cs t) (c : Sm w w' b) : Bk w' b cs t := by
  have hl := h.lt
  obtain ⟨fr, h, k⟩ := h
  exact ⟨fr, (c.2 hl).trans h, k⟩
/-- A block that may be read: what it holds, of which type. -/
def Rk (w : World) (b : Nat) (cs : Array Value) (t : TypeId) : Prop := ∃ fr : Nat × Nat, w.heap[b]? = some (.cells cs t fr)
theorem Bk.rk {w : World} {b : Nat} {cs : Array Value} {t : TypeId} (h : Bk w b cs t) : Rk w b cs t := by obtain ⟨fr, h, _⟩ := h; exact ⟨fr, h⟩
theorem Rk.lt {w : World} {b : Nat} {cs : Array Value} {t : TypeId} (h : Rk w b cs t) : b < w.heap.size := by obtain ⟨_, h⟩ := h; exact lt_of_block h
theorem Rk.ch {S : Nat → Prop} {w w' : World} {b : Nat} {cs : Array Value} {t : TypeId} (c : Ch S w w') (hS : ¬ S b) (h : Rk w b cs t) : Rk w' b cs t := by
  obtain ⟨fr, h⟩ := h; exact ⟨fr, c.get hS h⟩
theorem Rk.cell {w : World} {b i : Nat} {cs : Array Value} {t : TypeId} (h : Rk w b cs t) : w.cell? ⟨b, i, none⟩ = cs[i]? := by obtain ⟨fr, h⟩ := h; exact cell_of_row w b i cs t fr h
theorem Rk.to {w w' : World} {b : Nat} {cs : Array Value} {t : TypeId} (h : Rk w b cs t) (c : Sm w w' b) : Rk w' b cs t := by
  have hl := h.lt
  obtain ⟨fr, h⟩ := h
  exact ⟨fr, (c.2 hl).trans h⟩
section mem_ops
variable {P : Program} {n : Nat} {ops : Array Oper} {rest : List Oper} {N : Cn} {w : World} {f : Fr} {d : Tmp} {ty : TypeId} {pos : String} {af : Array Edge} {g : Option (Nat × Bool)}
/-- A new block: its number, what it holds. -/
theorem L_new {o : Oper} {cs : Array Value} {t : TypeId} (hw : Wants ops f o) (hd : o.dst = some d) (hn : Nat.blt d n = true) (hr : (execOp (ev f) o).run P w = .ok (.value (.pointer (some ⟨w.heap.size, 0, none⟩))) (w.alloc (.cells cs t)))
    (h : ∀ w1 b, Bk w1 b cs t → b = w.heap.size → w1.heap.size = b + 1 → Nw w w1 → Wl P n ops rest N (upd f d (.pointer (some ⟨b, 0, none⟩))) w1) : Wl P n ops (o :: rest) N f w :=
  L_run hw hd hn hr (h _ _ (Bk.new w _ _) rfl (by simp) (Ch.alloc w _))
/-- A store into a block. -/
theorem L_set {o : Oper} {b i : Nat} {v : Value} {cs : Array Value} {t : TypeId} (hw : Wants ops f o) (hd : o.dst = none) (hb : Bk w b cs t) (hr : (execOp (ev f) o).run P w = .ok .skip (w.setCell ⟨b, i, none⟩ v))
    (h : ∀ w1, Bk w1 b (cs.setIfInBounds i v) t → w1.heap.size = w.heap.size → Ch (fun j => j = b) w w1 → Wl P n ops rest N f w1) : Wl P n ops (o :: rest) N f w :=
  L_do hw hd hr (h _ hb.set (by simp [World.setCell]) (Ch.set w ⟨b, i, none⟩ v))
variable {dst : Option Tmp}
theorem r_box {x : Operand} {e : TypeId} {v : Value} (hx : ev f x = v) : (execOp (ev f) ⟨dst, .box e x, ty, pos, af, g⟩).run P w = .ok (.value (.pointer (some ⟨w.heap.size, 0, none⟩))) (w.alloc (.cells v.cells e)) := by
  subst hx; rfl
theorem r_boxa {x : Operand} {e : TypeId} {cs : Array Value} (hx : ev f x = .agg cs) : (execOp (ev f) ⟨dst, .box e x, ty, pos, af, g⟩).run P w = .ok (.value (.pointer (some ⟨w.heap.size, 0, none⟩))) (w.alloc (.cells cs e)) := r_box hx
theorem r_box1 {x : Operand} {e : TypeId} {v : Value} (hx : ev f x = v) (h1 : v.oneCell' = true) : (execOp (ev f) ⟨dst, .box e x, ty, pos, af, g⟩).run P w = .ok (.value (.pointer (some ⟨w.heap.size, 0, none⟩))) (w.alloc (.cells #[v] e)) := by
  have : v.cells = #[v] := by cases v <;> first | rfl | (simp [Value.oneCell'] at h1)
  rw [r_box hx, this]
theorem r_alloc {e : TypeId} {z : Value} (hz : (P.info? e).bind (·.zero) = some z) : (execOp (ev f) ⟨dst, .alloc e, ty, pos, af, g⟩).run P w = .ok (.value (.pointer (some ⟨w.heap.size, 0, none⟩))) (w.alloc (.cells z.cells e)) := by
  cases hi : P.info? e with
  | none => rw [hi] at hz; cases hz
  | some i =>
    rw [hi] at hz
    simp only [Option.bind_some] at hz
    simp [execOp, Instr.alloc, zeroValue, typeInfo, hi, hz, newVar, newRow]
theorem r_alloca {e : TypeId} {cs : Array Value} (hz : (P.info? e).bind (·.zero) = some (.agg cs)) : (execOp (ev f) ⟨dst, .alloc e, ty, pos, af, g⟩).run P w = .ok (.value (.pointer (some ⟨w.heap.size, 0, none⟩))) (w.alloc (.cells cs e)) := r_alloc hz
theorem r_alloc1 {e : TypeId} {z : Value} (hz : (P.info? e).bind (·.zero) = some z) (h1 : z.oneCell' = true) : (execOp (ev f) ⟨dst, .alloc e, ty, pos, af, g⟩).run P w = .ok (.value (.pointer (some ⟨w.heap.size, 0, none⟩))) (w.alloc (.cells #[z] e)) := by
  have : z.cells = #[z] := by cases z <;> first | rfl | (simp [Value.oneCell'] at h1)
  rw [r_alloc hz, this]
/-- A type of one cell. -/
def flat (P : Program) (t : TypeId) : Bool := match P.underlying t with
  | some (.struct _) | some (.array _ _) | none => false
  | _ => true
theorem isAgg_flat {t : TypeId} (h : flat P t = true) (w : World) : (isAgg t).run P w = .ok false w := by
  unfold flat at h
  cases hu : P.underlying t with
  | none => rw [hu] at h; cases h
  | some d =>
    rw [hu] at h
    unfold isAgg
    rw [Sem.run_bind, run_underlying hu w]
    cases d <;> simp_all
theorem r_load {x : Operand} {t : TypeId} {a : Addr} {v : Value} (ht : flat P t = true) (hx : ev f x = .pointer (some a)) (hv : w.cell? a = some v) : (execOp (ev f) ⟨dst, .load t x, ty, pos, af, g⟩).run P w = .ok (.value v) w := by
  simp [execOp, hx, Instr.loadAt, Instr.sureAddr, loadVar, Sem.run_bind, isAgg_flat ht, run_load, hv]
theorem r_loadb {x : Operand} {t : TypeId} {b i : Nat} {cs : Array Value} {e : TypeId} {v : Value} (ht : flat P t = true) (hx : ev f x = .pointer (some ⟨b, i, none⟩)) (hb : Bk w b cs e) (hv : cs[i]? = some v) : (execOp (ev f) ⟨dst, .load t x, ty, pos, af, g⟩).run P w = .ok (.value v) w :=
  r_load ht hx (hb.cell.trans hv)
theorem r_loadrow {x : Operand} {t : TypeId} {b : Nat} {cs : Array Value} {e : TypeId} {dd : TypeDesc} (hu : P.underlying t = some dd) (hd : (match dd with | .struct _ | .array _ _ => true | _ => false) = true)
    (hx : ev f x = .pointer (some ⟨b, 0, none⟩)) (hb : Bk w b cs e) (hi : (P.info? t).map (·.size) = some cs.size) : (execOp (ev f) ⟨dst, .load t x, ty, pos, af, g⟩).run P w = .ok (.value (.agg cs)) w := by
  obtain ⟨fr, hb, _⟩ := hb
  unfold execOp
  simp only [hx, Instr.loadAt, Instr.sureAddr, Sem.run_bind, Sem.run_pure, Result.andThen_ok, run_loadVar_row w b e t cs fr dd hb hu hd hi]
theorem r_store {x y : Operand} {t : TypeId} {b i : Nat} {v : Value} {cs : Array Value} {e : TypeId} (ht : (P.info? t).map (·.size) = some 1) (hx : ev f x = .pointer (some ⟨b, i, none⟩)) (hy : ev f y = v) (h1 : v.oneCell' = true) (hb : Bk w b cs e) (hi : i < cs.size) :
    (execOp (ev f) ⟨dst, .store t x y, ty, pos, af, g⟩).run P w = .ok .skip (w.setCell ⟨b, i, none⟩ v) := by
  have hc : w.cell? ⟨b, i, none⟩ = some cs[i] := by rw [hb.cell]; simp [hi]
  have hf := hb.free hi
  have hs : (storeVar t ⟨b, i, none⟩ v).run P w = .ok () (w.setCell ⟨b, i, none⟩ v) := by
    obtain ⟨inf, hi1, hi2⟩ := Option.map_eq_some_iff.1 ht
    have hcl : v.cells = #[v] := by cases v <;> first | rfl | (simp [Value.oneCell'] at h1)
    simp [storeVar, sizeOf, typeInfo, hi1, hi2, hcl, storeCells, run_store P w ⟨b, i, none⟩ v .plain h1, hc, hf, Addr.add]
  simp [execOp, hx, hy, Instr.storeAt, Instr.sureAddr, Sem.run_bind, hs]
/-- A whole struct or array into a block. -/
theorem r_storerow {x y : Operand} {t : TypeId} {b : Nat} {cs old : Array Value} {e : TypeId} (hx : ev f x = .pointer (some ⟨b, 0, none⟩)) (hy : ev f y = .agg cs) (hb : Bk w b old e) (hz : old.size = cs.size) (hi : (P.info? t).map (·.size) = some cs.size) (h1 : cs.all (·.oneCell') = true) :
    ∃ w', (execOp (ev f) ⟨dst, .store t x y, ty, pos, af, g⟩).run P w = .ok .skip w' ∧ Bk w' b cs e ∧ w'.heap.size = w.heap.size ∧ Ch (fun j => j = b) w w' := by
  have key : ∀ (vs : List Value) (i : Nat) (cur : Array Value) (w : World), Bk w b cur e → i + vs.length = cur.size → (∀ v ∈ vs, v.oneCell' = true) →
      ∃ w', (storeCells ⟨b, 0, none⟩ vs i).run P w = .ok () w' ∧ Bk w' b (cur.extract 0 i ++ vs.toArray) e ∧ w'.heap.size = w.heap.size ∧ Ch (fun j => j = b) w w' := by
    intro vs
    induction vs with
    | nil =>
      intro i cur w hc hl _
      refine ⟨w, by simp [storeCells], ?_, rfl, Ch.refl w⟩
      have : i = cur.size := by simpa using hl
      subst this
      simpa using hc
    | cons v vs ih =>
      intro i cur w hc hl hv
      have hlt : i < cur.size := by simp only [List.length_cons] at hl; omega
      have hcell : w.cell? ⟨b, i, none⟩ = some cur[i] := by rw [hc.cell]; simp [hlt]
      obtain ⟨w', h1, h2, h3, h4⟩ := ih (i + 1) (cur.setIfInBounds i v) (w.setCell ⟨b, i, none⟩ v) hc.set (by simp only [List.length_cons] at hl; simp; omega) (fun u hu => hv u (List.mem_cons_of_mem _ hu))
      refine ⟨w', ?_, ?_, by rw [h3]; simp [World.setCell], (Ch.set w ⟨b, i, none⟩ v).trans h4⟩
      · have ha : (⟨b, 0, none⟩ : Addr).add i = ⟨b, i, none⟩ := by rw [add_lit]; simp
        simp [storeCells, Sem.run_bind, ha, run_store P w ⟨b, i, none⟩ v .plain (hv v List.mem_cons_self), hcell, hc.free hlt, h1]
      · have : (cur.setIfInBounds i v).extract 0 (i + 1) ++ vs.toArray = cur.extract 0 i ++ (v :: vs).toArray := by
          apply Array.ext
          · simp only [List.length_cons] at hl; simp; omega
          · intro k k1 k2
            simp only [List.length_cons] at hl
            simp only [Array.getElem_append, Array.size_extract, Array.size_setIfInBounds, Array.getElem_extract, Array.getElem_setIfInBounds, List.getElem_toArray]
            by_cases e1 : k < i
            · rw [dif_pos (by omega), dif_pos (by omega)]
              simp only [Nat.zero_add]
              exact Array.getElem_setIfInBounds_ne (by omega) (by omega)
            · by_cases e2 : k = i
              · subst e2
                rw [dif_pos (by omega), dif_neg (by omega)]
                simp [show min k cur.size = k by omega]
              · rw [dif_neg (by omega), dif_neg (by omega)]
                simp [show min (i + 1) cur.size = i + 1 by omega, show min i cur.size = i by omega, show k - i = (k - (i + 1)) + 1 by omega]
        rw [this] at h2
        exact h2
  obtain ⟨w', h2, h3, h4, h5⟩ := key cs.toList 0 old w hb (by simp; omega) (fun v hv => (Array.all_eq_true_iff_forall_mem.1 h1) v (by simpa using hv))
  obtain ⟨inf, hi1, hi2⟩ := Option.map_eq_some_iff.1 hi
  refine ⟨w', ?_, by simpa using h3, h4, h5⟩
  simp [execOp, hx, hy, Instr.storeAt, Instr.sureAddr, Sem.run_bind, storeVar, sizeOf, typeInfo, hi1, hi2, Value.cells, h2]
theorem L_storerow {n : Nat} {x y : Operand} {t : TypeId} {b : Nat} {cs old : Array Value} {e : TypeId} {ops : Array Oper} (hw : Wants ops f ⟨none, .store t x y, ty, pos, af, g⟩) (hx : ev f x = .pointer (some ⟨b, 0, none⟩)) (hy : ev f y = .agg cs) (hb : Bk w b old e) (hz : old.size = cs.size) (hi : (P.info? t).map (·.size) = some cs.size) (h1 : cs.all (·.oneCell') = true)
    (h : ∀ w1, Bk w1 b cs e → w1.heap.size = w.heap.size → Ch (fun j => j = b) w w1 → Wl P n ops rest N f w1) : Wl P n ops (⟨none, .store t x y, ty, pos, af, g⟩ :: rest) N f w := by
  obtain ⟨w', h2, h3, h4, h5⟩ := r_storerow (P := P) (ty := ty) (pos := pos) (af := af) (g := g) (dst := none) hx hy hb hz hi h1
  exact L_do hw rfl h2 (h w' h3 h4 h5)
/-! places -/
theorem r_idxarr {x y : Operand} {t e : TypeId} {m sz b o : Nat} {k : IntKind} {i : Int} (hu : P.underlying t = some (.array m e)) (hz : (P.info? e).map (·.size) = some sz) (hx : ev f x = .pointer (some ⟨b, o, none⟩)) (hy : ev f y = .int k i) (h0 : 0 ≤ i) (h1 : i < m) {j : Nat} (hj : o + i.toNat * sz = j) :
    (execOp (ev f) ⟨dst, .indexAddr t x y, ty, pos, af, g⟩).run P w = .ok (.value (.pointer (some ⟨b, j, none⟩))) w := by
  subst hj
  obtain ⟨inf, hi1, hi2⟩ := Option.map_eq_some_iff.1 hz
  have he : P.elem t = e := by simp [Program.elem, hu]
  have hl : P.arrayLen t = m := by simp [Program.arrayLen, hu]
  simp [execOp, hx, hy, run_indexAt_array w t _ k i (by rw [he, hl]; exact hu), he, hl, h0, h1, sizeOf, typeInfo, hi1, hi2, add_lit]
theorem r_ret_row {fn : Func} {T : Value → World → Prop} {p : Nat} {t e : TypeId} {b : Nat} {cs : Array Value} {dd : TypeDesc} (hr : fn.results = #[.cell p t]) (hp : f p = .pointer (some ⟨b, 0, none⟩)) (hu : P.underlying t = some dd) (hd : (match dd with | .struct _ | .array _ _ => true | _ => false) = true) (hb : Bk w b cs e) (hi : (P.info? t).map (·.size) = some cs.size) (h : T (.agg cs) w) : Rt P fn T f w := fun tm ht => by
  obtain ⟨fr, hb, _⟩ := hb
  exact ⟨_, results_cell_row hr tm w b e cs fr dd (by rw [ht]; exact hp) hb hu hd hi, h⟩
end mem_ops
end Go.Proofs.YtioonbfinnigpaaGreatDoor
