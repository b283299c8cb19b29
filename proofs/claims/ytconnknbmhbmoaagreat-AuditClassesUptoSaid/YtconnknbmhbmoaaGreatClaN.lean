/- A part of the proof: the reference's cost of a list is the writer's. Condition: the numbers are of 32 bits, the list is not long. -/
import Derived.Test.YtconnknbmhbmoaaGreatClaF
import Derived.Test.YtconnknbmhbmoaaGreatClaM
namespace Go.Proofs.YtconnknbmhbmoaaGreat.classes
open Go.RowKit Go.Proofs.YtconnknbmhbmoaaGreatW.PrintWords Go.Proofs.YtconnknbmhbmoaaGreatW.PrintMore Go.Proofs.YtconnknbmhbmoaaGreat.PCla
set_option linter.unusedVariables false
set_option linter.unusedSimpArgs false

theorem xor_ones (y : Nat) (h : y < 4294967296) : y ^^^ 4294967295 = 4294967295 - y := by
  have h1 := congrArg BitVec.toNat (BitVec.xor_allOnes (x := BitVec.ofNat 32 y))
  simp [BitVec.toNat_xor, BitVec.toNat_not, BitVec.toNat_allOnes, Nat.mod_eq_of_lt h] at h1
  exact h1
theorem fold_g {x : Int} (h : U32 x) : halideref17_Fold.f x = some (fd x) := by
  obtain ⟨h1, h2⟩ := h
  unfold halideref17_Fold.f fd
  by_cases c : x < 2147483648
  · rw [if_pos c]
    have e1 : wrap32 x / 2147483648 % 4294967296 = ((0 : Nat) : Int) := by unfold wrap32; omega
    obtain ⟨y, hy⟩ : ∃ y : Nat, x * 2 % 4294967296 = (y : Int) := ⟨(x * 2 % 4294967296).toNat, by omega⟩
    rw [e1, hy, u32_xor_nat y 0 (by omega) (by omega), Nat.xor_zero, ← hy, Int.mul_comm]
  · rw [if_neg c]
    have e1 : wrap32 x / 2147483648 % 4294967296 = ((4294967295 : Nat) : Int) := by unfold wrap32; omega
    obtain ⟨y, hy⟩ : ∃ y : Nat, x * 2 % 4294967296 = (y : Int) := ⟨(x * 2 % 4294967296).toNat, by omega⟩
    rw [e1, hy, u32_xor_nat y 4294967295 (by omega) (by omega), xor_ones y (by omega)]
    have i1 : wrap64 x = x := wrap_id (by omega) (by omega)
    have i2 : wrap64 (4294967296 - x) = 4294967296 - x := wrap_id (by omega) (by omega)
    have i3 : wrap64 (2 * (4294967296 - x)) = 2 * (4294967296 - x) := wrap_id (by omega) (by omega)
    have i4 : wrap64 (2 * (4294967296 - x) - 1) = 2 * (4294967296 - x) - 1 := wrap_id (by omega) (by omega)
    rw [i1, i2, i3, i4]
    congr 1
    omega

theorem k_g {sum cnt : Int} (h : StOK sum cnt) : ∀ (d i e : Nat), i + d = 31 → halideref17_state_k.l0 (e + d + 1) i sum cnt = some (kq sum cnt d i : Int)
  | 0, i, e, hi => by
    simp only [halideref17_state_k.l0, kq]
    rw [if_neg (by omega)]
  | d + 1, i, e, hi => by
    rw [show e + (d + 1) + 1 = (e + d + 1) + 1 by omega]
    simp only [halideref17_state_k.l0, kq]
    rw [if_pos (by omega), if_pos (by omega)]
    have hs := shl_id (k := i) (by omega) (show 0 < cnt by have := h.c0; omega) (show cnt ≤ 64 by have := h.c1; omega)
    have e1 : shl .i64 cnt i = cnt * 2 ^ i := by
      unfold shl
      rw [Int.toNat_natCast, show min i (IntKind.bits .i64) = i from Nat.min_eq_left (by simp [IntKind.bits]; omega)]
      exact IntWalk.i64_in _ (by omega)
    rw [e1]
    by_cases c : cnt * 2 ^ i < sum
    · rw [if_pos c, if_pos c, wrap_id (x := (i : Int) + 1) (by omega) (by omega)]
      have := k_g h d (i + 1) e (by omega)
      push_cast at this
      exact this
    · rw [if_neg c, if_neg c]
theorem k_f {sum cnt : Int} (h : StOK sum cnt) (e : Nat) : halideref17_state_k.f (e + 32) sum cnt = some (kOf sum cnt : Int) := by
  have := k_g h 31 0 e (by omega)
  simpa [halideref17_state_k.f, kOf] using this

theorem l2_g (z : Int) : ∀ (m e : Nat) (acc : List Int), m ≤ 100 → acc.length + m ≤ 1000 → ∃ bs, halideref17_code.l2 (e + m + 1) z acc ((m : Int) - 1) = some bs ∧ bs.length = acc.length + m
  | 0, e, acc, h1, h2 => ⟨acc, by simp only [halideref17_code.l2]; rw [if_neg (by simp)], rfl⟩
  | m + 1, e, acc, h1, h2 => by
    rw [show e + (m + 1) + 1 = (e + m + 1) + 1 by omega]
    simp only [halideref17_code.l2]
    rw [if_pos (by omega), if_pos (by omega), if_pos (by omega), wrap_id (x := ((m + 1 : Nat) : Int) - 1 - 1) (by omega) (by omega)]
    obtain ⟨bs, h3, h4⟩ := l2_g z m e (acc ++ [(Int.tmod (shr .i64 z (((m + 1 : Nat) : Int) - 1)) 2) % 256]) (by omega) (by simp; omega)
    refine ⟨bs, ?_, by rw [h4]; simp; omega⟩
    rw [show ((m + 1 : Nat) : Int) - 1 - 1 = (m : Int) - 1 by omega]
    exact h3
theorem j2_g (z : Int) (m e : Nat) (acc : List Int) (h1 : m ≤ 100) (h2 : acc.length + m ≤ 1000) : ∃ bs, halideref17_code.j2 (e + m + 2) z m acc = some bs ∧ bs.length = acc.length + m := by
  rw [show e + m + 2 = (e + m + 1) + 1 by omega]
  simp only [halideref17_code.j2]
  rw [wrap_id (by omega) (by omega)]
  exact l2_g z m e acc h1 h2
theorem l0_g (z : Int) (m q : Nat) (hm : m ≤ 31) (hq : q ≤ 24) : ∀ (d i e : Nat) (acc : List Int), i + d = q → acc.length = i → ∃ bs, halideref17_code.l0 (e + m + 2 + d + 1) z m acc q i = some bs ∧ bs.length = q + 1 + m
  | 0, i, e, acc, h1, h2 => by
    simp only [halideref17_code.l0]
    rw [if_neg (by omega), if_pos (by omega)]
    obtain ⟨bs, h3, h4⟩ := j2_g z m e (acc ++ [0]) (by omega) (by simp; omega)
    exact ⟨bs, h3, by rw [h4]; simp; omega⟩
  | d + 1, i, e, acc, h1, h2 => by
    rw [show e + m + 2 + (d + 1) + 1 = (e + m + 2 + d + 1) + 1 by omega]
    simp only [halideref17_code.l0]
    rw [if_pos (by omega), if_pos (by omega), wrap_id (x := (i : Int) + 1) (by omega) (by omega)]
    have := l0_g z m q hm hq d (i + 1) e (acc ++ [1]) (by omega) (by simp; omega)
    push_cast at this
    exact this
theorem l1_g (z : Int) : ∀ (d i e : Nat) (acc : List Int), i + d = 24 → acc.length = i → ∃ bs, halideref17_code.l1 (e + 34 + d + 1) z acc i = some bs ∧ bs.length = 56
  | 0, i, e, acc, h1, h2 => by
    simp only [halideref17_code.l1]
    rw [if_neg (by omega)]
    obtain ⟨bs, h3, h4⟩ := j2_g z 32 e acc (by omega) (by omega)
    exact ⟨bs, h3, by omega⟩
  | d + 1, i, e, acc, h1, h2 => by
    rw [show e + 34 + (d + 1) + 1 = (e + 34 + d + 1) + 1 by omega]
    simp only [halideref17_code.l1]
    rw [if_pos (by omega), if_pos (by omega), wrap_id (x := (i : Int) + 1) (by omega) (by omega)]
    have := l1_g z d (i + 1) e (acc ++ [1]) (by omega) (by simp; omega)
    push_cast at this
    exact this
theorem code_g {z : Int} (h : U32 z) (m e : Nat) (hm : m ≤ 31) : ∃ bs, halideref17_code.f (e + 100) z m = some bs ∧ (bs.length : Int) = costOf z m := by
  obtain ⟨h1, h2⟩ := h
  have hp : (0 : Int) < 2 ^ m := Int.pow_pos (by omega)
  have q0 : 0 ≤ z / 2 ^ m := Int.ediv_nonneg h1 (by omega)
  have e1 : shr .i64 z m = z / 2 ^ m := by
    unfold shr
    rw [Int.toNat_natCast, show min m (IntKind.bits .i64) = m from Nat.min_eq_left (by simp [IntKind.bits]; omega)]
  unfold halideref17_code.f costOf
  rw [if_pos (by omega), e1]
  by_cases c : z / 2 ^ m < 24
  · rw [if_pos c, if_pos c]
    obtain ⟨q, hq⟩ : ∃ q : Nat, z / 2 ^ m = q := ⟨(z / 2 ^ m).toNat, by omega⟩
    rw [hq]
    obtain ⟨bs, h3, h4⟩ := l0_g z m q hm (by omega) q 0 (e + 100 - (m + 2 + q + 1)) [] (by omega) rfl
    rw [show e + 100 - (m + 2 + q + 1) + m + 2 + q + 1 = e + 100 by omega] at h3
    exact ⟨bs, h3, by omega⟩
  · rw [if_neg c, if_neg c]
    obtain ⟨bs, h3, h4⟩ := l1_g z 24 0 (e + 100 - 59) [] (by omega) rfl
    rw [show e + 100 - 59 + 34 + 24 + 1 = e + 100 by omega] at h3
    exact ⟨bs, h3, by omega⟩
theorem next_g {sum cnt z : Int} (h : StOK sum cnt) (hz : U32 z) : halideref17_state_next.f sum cnt z = some (nxS sum cnt z, nxC cnt) := by
  obtain ⟨a, b, c, d⟩ := h
  obtain ⟨z0, z1⟩ := hz
  unfold halideref17_state_next.f nxS nxC
  rw [wrap_id (x := cnt + 1) (by omega) (by omega), wrap_id (x := sum + z) (by omega) (by omega)]
  by_cases e : cnt + 1 = 64
  · rw [if_pos e, if_pos e, if_pos e, Int.tdiv_eq_ediv_of_nonneg (by omega), wrap_id (by omega) (by omega)]
  · rw [if_neg e, if_neg e, if_neg e]
theorem k_big {sum cnt : Int} (h : StOK sum cnt) (K : Nat) (hK : 100 ≤ K) : halideref17_state_k.f K sum cnt = some (kOf sum cnt : Int) := by
  have := k_f h (K - 32)
  rwa [Nat.sub_add_cancel (by omega)] at this
theorem code_big {z : Int} (h : U32 z) (m K : Nat) (hm : m ≤ 31) (hK : 100 ≤ K) : ∃ bs, halideref17_code.f K z m = some bs ∧ (bs.length : Int) = costOf z m := by
  have := code_g h m (K - 100) hm
  rwa [Nat.sub_add_cancel (by omega)] at this
theorem cost_end (xs : List Int) (K : Nat) (b s c : Int) : halideref17_Cost.l0 (K + 1) xs b xs.length s c = some (b, 0) := by
  rw [halideref17_Cost.l0, if_neg (by omega)]
theorem cost_step (xs : List Int) (hn : xs.length ≤ 2000) (i K : Nat) (hi : i < xs.length) (b s c z kk n1 n2 : Int) (bs : List Int) (hf : halideref17_Fold.f (rd xs i) = some z) (hw : wrap64 z = z) (hk : halideref17_state_k.f K s c = some kk) (hb : halideref17_code.f K z kk = some bs)
    (hx : halideref17_state_next.f s c z = some (n1, n2)) (b0 : 0 ≤ b) (b1 : b ≤ 1000000) (hl : bs.length ≤ 1000) :
    halideref17_Cost.l0 (K + 1) xs b i s c = halideref17_Cost.l0 K xs (b + (bs.length : Int)) ((i : Int) + 1) n1 n2 := by
  rw [halideref17_Cost.l0, if_pos (by omega), if_pos (by omega), hf, Option.bind_some, hk, Option.bind_some, hw, hb, Option.bind_some, hx, Option.bind_some, wrap_id (x := b + (bs.length : Int)) (by omega) (by omega), wrap_id (x := (i : Int) + 1) (by omega) (by omega)]
theorem cost_next {xs : List Int} (hx : AllU xs) (hn : xs.length ≤ 2000) (i K : Nat) (hi : i < xs.length) (hK : 100 ≤ K) (b s c : Int) (hS : StOK s c) (b0 : 0 ≤ b) (b1 : b ≤ 1000000) :
    halideref17_Cost.l0 (K + 1) xs b i s c = halideref17_Cost.l0 K xs (b + costOf (fd (rd xs i)) (kOf s c)) ((i : Int) + 1) (nxS s c (fd (rd xs i))) (nxC c) := by
  have hf := fold_g (rd_u hx (i : Int))
  have z0 := fd_lo (rd xs i)
  have z1 := fd_hi (rd xs i)
  generalize fd (rd xs i) = z at *
  obtain ⟨bs, hb1, hb2⟩ := code_big (z := z) ⟨z0, z1⟩ (kOf s c) K (kOf_le _ _) hK
  have hc := costOf_le (z := z) (kOf_le s c) z0
  have h := cost_step xs hn i K hi b s c z (kOf s c) _ _ bs hf (wrap_id (by omega) (by omega)) (k_big hS K hK) hb1 (next_g hS ⟨z0, z1⟩) b0 b1 (by omega)
  rw [hb2] at h
  exact h
theorem cost_all {xs : List Int} (hx : AllU xs) (hn : xs.length ≤ 2000) : ∀ (d i K : Nat), i + d = xs.length → d + 100 ≤ K → halideref17_Cost.l0 (K + 1) xs (stS xs i).2.2 i (stS xs i).1 (stS xs i).2.1 = some ((stS xs xs.length).2.2, 0) := by
  intro d
  induction d with
  | zero =>
    intro i K hi hK
    obtain rfl : i = xs.length := by omega
    exact cost_end _ _ _ _ _
  | succ d ih =>
    intro i K hi hK
    obtain ⟨hS, b0, b1⟩ := stS_ok xs i
    have h1 := cost_next hx hn i K (by omega) (by omega) _ _ _ hS b0 (by omega)
    obtain ⟨K', rfl⟩ : ∃ K', K = K' + 1 := ⟨K - 1, by omega⟩
    have h2 := ih (i + 1) K' (by omega) (by omega)
    rw [Int.natCast_add, Int.natCast_one] at h2
    exact h1.trans h2
theorem cost_g {xs : List Int} (hx : AllU xs) (hn : xs.length ≤ 2000) (K : Nat) (hK : 2200 ≤ K) : halideref17_Cost.f K xs = some ((stS xs xs.length).2.2, 0) := by
  obtain ⟨K', rfl⟩ : ∃ K', K = K' + 1 := ⟨K - 1, by omega⟩
  unfold halideref17_Cost.f halideref17_begin.f
  rw [if_neg (by omega)]
  exact cost_all hx hn xs.length 0 K' (by omega) (by omega)
end Go.Proofs.YtconnknbmhbmoaaGreat.classes
