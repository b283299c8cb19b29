/- A part of the proof. The quick machine: operations. No condition. -/
import Derived.Test.YtpmbkfiicbipoaaGreatEngX
/-! The quick machine: operations. -/
namespace Go.Ab
set_option linter.unusedVariables false

noncomputable def storeNK (h : FH) (a : Addr) (vs : List Value) (k : FH → R) : R := atAddr h a fun c g b off => bif' (allB oneCellB vs) (vOpt (putR vs c off) fun c => k (setF h b (.cells c g))) (.fail "store")
theorem storeNK_yes {h : FH} {a : Addr} {vs : List Value} {k : FH → R} (hy : storeNK h a vs k = .yes) : ∃ h', (hOf h).storeN a vs = some (hOf h') ∧ k h' = .yes := by
  obtain ⟨c, g, h1, h2⟩ := atAddr_yes hy
  obtain ⟨h3, h4⟩ := bif'_fail h2
  obtain ⟨c', h5, h6⟩ := vOpt_yes h4
  rw [putR_eq] at h5
  exact ⟨_, by simp only [Heap.storeN, h1, h3, h5, cond_true, setF_eq], h6⟩

noncomputable def store1K (h : FH) (a : Addr) (v : Value) (k : FH → R) : R := atAddr h a fun c g b off => vOpt (put1R v c off) fun c => k (setF h b (.cells c g))
theorem store1K_yes {h : FH} {a : Addr} {v : Value} {k : FH → R} (ho : oneCellB v = true) (hy : store1K h a v k = .yes) : ∃ h', (hOf h).storeN a [v] = some (hOf h') ∧ k h' = .yes := by
  obtain ⟨c, g, h1, h2⟩ := atAddr_yes hy
  obtain ⟨c', h5, h6⟩ := vOpt_yes h2
  rw [put1R_eq] at h5
  exact ⟨_, by simp only [Heap.storeN, h1, allB, ho, h5, cond_true, setF_eq], h6⟩

noncomputable def vInt (v : Value) (k : IntKind → Int → R) : R := match v with | .int a b => k a b | _ => .fail "int"
theorem vInt_yes {v : Value} {k : IntKind → Int → R} (h : vInt v k = .yes) : ∃ a b, v = .int a b ∧ k a b = .yes := by
  unfold vInt at h
  split at h
  · exact ⟨_, _, rfl, h⟩
  · simp at h

noncomputable def vNat (v : Value) (k : Nat → R) : R := vInt v fun _ n => Int.rec (motive := fun _ => R) (fun n => k n) (fun _ => .fail "nat") n
theorem vNat_yes {v : Value} {k : Nat → R} (h : vNat v k = .yes) : ∃ n, natOf v = some n ∧ k n = .yes := by
  obtain ⟨a, b, rfl, h2⟩ := vInt_yes h
  cases b with
  | ofNat n => exact ⟨n, rfl, h2⟩
  | negSucc n => simp at h2

noncomputable def vBool (v : Value) (k : Bool → R) : R := match v with | .bool b => k b | _ => .fail "bool"
theorem vBool_yes {v : Value} {k : Bool → R} (h : vBool v k = .yes) : ∃ b, v = .bool b ∧ k b = .yes := by
  unfold vBool at h
  split at h
  · exact ⟨_, rfl, h⟩
  · simp at h

noncomputable def vPtr (v : Value) (k : Addr → R) : R := match v with | .pointer (some a) => k a | _ => .fail "pointer"
theorem vPtr_yes {v : Value} {k : Addr → R} (h : vPtr v k = .yes) : ∃ a, v = .pointer (some a) ∧ k a = .yes := by
  unfold vPtr at h
  split at h
  · exact ⟨_, rfl, h⟩
  · simp at h

noncomputable def vSlice (v : Value) (k : Option Addr → Nat → Nat → R) : R := match v with | .slice a l c => k a l c | _ => .fail "slice"
theorem vSlice_yes {v : Value} {k : Option Addr → Nat → Nat → R} (h : vSlice v k = .yes) : ∃ a l c, v = .slice a l c ∧ k a l c = .yes := by
  unfold vSlice at h
  split at h
  · exact ⟨_, _, _, rfl, h⟩
  · simp at h

noncomputable def addF (a : Addr) (n : Nat) : Addr := Nat.rec (motive := fun _ => Addr) a (fun n _ => Addr.rec (motive := fun _ => Addr) (fun b off s => ⟨b, Nat.add off (Nat.succ n), s⟩) a) n
theorem addF_eq (a : Addr) (n : Nat) : addF a n = addA a n := by
  cases n with
  | zero => rfl
  | succ n => cases a; rfl

noncomputable def lenVF (v : Value) (k : Nat → R) : R := match v with | .slice _ n _ => k n | .string s => k s.size | _ => .fail "len"
theorem lenVF_yes {v : Value} {k : Nat → R} (h : lenVF v k = .yes) : ∃ n, lenV v = some n ∧ k n = .yes := by
  unfold lenVF at h
  split at h
  · exact ⟨_, rfl, h⟩
  · exact ⟨_, rfl, h⟩
  · simp at h

noncomputable def firstK (h : FH) (esz n : Nat) (v : Value) (k : List Value → R) : R := match v with
  | .slice none _ _ => bif' (Nat.beq n 0) (k []) (.fail "first")
  | .slice (some a) _ _ => loadNK h a (Nat.mul n esz) k
  | .string s => bif' (Nat.beq esz 1 && Nat.ble n s.size) (k ((s.data.toList.take n).map fun b => .int .u8 (.ofNat b.toNat))) (.fail "first")
  | _ => .fail "first"
theorem firstK_yes {h : FH} {esz n : Nat} {v : Value} {k : List Value → R} (hy : firstK h esz n v k = .yes) : ∃ l, firstV (hOf h) esz n v = some l ∧ k l = .yes := by
  unfold firstK at hy
  split at hy
  · obtain ⟨h1, h2⟩ := bif'_fail hy
    exact ⟨[], by simp only [firstV, h1, cond_true], h2⟩
  · obtain ⟨l, h1, h2⟩ := loadNK_yes hy
    exact ⟨l, by simp only [firstV]; exact h1, h2⟩
  · obtain ⟨h1, h2⟩ := bif'_fail hy
    exact ⟨_, by simp only [firstV, h1, cond_true], h2⟩
  · simp at hy

noncomputable def appendK (h : FH) (x : Value) (n : Nat) (new : List Value) (esz ebytes : Nat) (kk : Value → FH → R) : R :=
  vSlice x fun base sLen sCap =>
    bif' (Nat.ble (Nat.add sLen n) sCap)
        (match base with
         | none => kk (.slice none (Nat.add sLen n) sCap) h
         | some a => storeNK h (addF a (Nat.mul sLen esz)) new fun h' => kk (.slice (some a) (Nat.add sLen n) sCap) h')
      (bif' (Nat.ble (Nat.mul (Nat.add sLen n) ebytes) 70368744177664)
        (match base with
         | none => bif' (Nat.beq sLen 0) (withNext h fun nx => kk (.slice (some ⟨nx, 0, some esz⟩) (Nat.add sLen n) (Nat.add sLen n)) (pushF h (.cells new (some esz)))) (.fail "append")
         | some a => atAddr h a fun c g b off => vOpt (takeR (Nat.mul sLen esz) (dropR off c)) fun old =>
             (match a.spot with
              | none => withNext h fun nx => kk (.slice (some ⟨nx, 0, some esz⟩) (Nat.add sLen n) (Nat.add sLen n)) (pushF h (.cells (old ++ new) (some esz)))
              | some z => bif' (and3 (Nat.beq z esz) (Nat.beq off 0) (Nat.beq (Nat.mul sLen esz) c.length && allB oneCellB new))
                 (withNext h fun nx => kk (.slice (some ⟨nx, 0, some esz⟩) (Nat.add sLen n) (Nat.add sLen n)) (pushF (setF h b .gone) (.cells (old ++ new) (some esz))))
                 (.fail "append: inside a block that has grown")))
        (.fail "append: too much"))
theorem appendK_yes {h : FH} {x : Value} {n : Nat} {new : List Value} {esz ebytes : Nat} {kk : Value → FH → R} (hy : appendK h x n new esz ebytes kk = .yes) :
    ∃ v h', appendV (hOf h) x n new esz ebytes = some (v, hOf h') ∧ kk v h' = .yes := by
  obtain ⟨base, sLen, sCap, rfl, h1⟩ := vSlice_yes hy
  simp only [appendV]
  cases hc : Nat.ble (Nat.add sLen n) sCap with
  | true =>
    rw [hc] at h1
    simp only [cond_true]
    cases base with
    | none => exact ⟨_, h, rfl, h1⟩
    | some a =>
      obtain ⟨h', h2, h3⟩ := storeNK_yes (show storeNK h (addF a (Nat.mul sLen esz)) new _ = .yes from h1)
      rw [addF_eq] at h2
      have h2' : (hOf h).storeN (addA a (sLen * esz)) new = some (hOf h') := h2
      refine ⟨.slice (some a) (sLen + n) sCap, h', ?_, h3⟩
      simp only [h2']
  | false =>
    rw [hc, bif'_false] at h1
    simp only [cond_false]
    obtain ⟨h2, h3⟩ := bif'_fail h1
    rw [show Nat.ble ((sLen + n) * ebytes) 70368744177664 = true from h2]
    simp only [cond_true]
    cases base with
    | none =>
      obtain ⟨h4, h5⟩ := bif'_fail h3
      rw [withNext_eq] at h5
      exact ⟨_, _, by simp only [h4, cond_true, pushF_eq]; rfl, h5⟩
    | some a =>
      obtain ⟨c, g, h4, h5⟩ := atAddr_yes h3
      obtain ⟨old, h6, h7⟩ := vOpt_yes h5
      rw [takeR_eq, dropR_eq] at h6
      have h8 : (hOf h).loadN a (sLen * esz) = some old := by simp only [Heap.loadN, h4]; exact h6
      simp only [h4, h8]
      split at h7
      · rename_i hs
        rw [withNext_eq] at h7
        exact ⟨_, _, by simp only [hs, pushF_eq]; rfl, h7⟩
      · rename_i z hs
        obtain ⟨h9, h10⟩ := bif'_fail h7
        rw [withNext_eq] at h10
        have h9' : and3 (Nat.beq z esz) (Nat.beq a.off 0) (Nat.beq (sLen * esz) c.length && allB oneCellB new) = true := h9
        exact ⟨_, _, by simp only [hs, h9', cond_true, pushF_eq, setF_eq]; rfl, h10⟩

/-! ### Integers -/
noncomputable def addRI (a b : Int) : Int := Int.rec (motive := fun _ => Int) (fun m => Int.rec (motive := fun _ => Int) (fun n => .ofNat (Nat.add m n)) (fun _ => Int.add a b) b) (fun _ => Int.add a b) a
theorem addRI_eq (a b : Int) : addRI a b = Int.add a b := by cases a <;> cases b <;> rfl

abbrev KV := Value → FH → R
abbrev CallT := Nat → List Value → FH → KV → R

structure FO where
  f : CallT → Fr → FH → List FH → KV → R

noncomputable def wX (o : Operand) (k : (Fr → Value) → FO) : FO := X.rec (motive := fun _ => FO) k (opX o)
theorem wX_eq (o : Operand) (k : (Fr → Value) → FO) : wX o k = k (fun s => evalO (tOf s) o) := by
  rw [← opX_f o]; rfl

structure Xs where
  f : Fr → List Value
noncomputable def opXs : List Operand → Xs
  | [] => ⟨fun _ => []⟩
  | o :: l => X.rec (motive := fun _ => Xs) (fun x => Xs.rec (motive := fun _ => Xs) (fun xs => ⟨fun t => x t :: xs t⟩) (opXs l)) (opX o)
theorem opXs_f : ∀ l : List Operand, (opXs l).f = fun s => l.map (evalO (tOf s))
  | [] => rfl
  | o :: l => by
    have h1 : (opXs (o :: l)).f = fun t => (opX o).f t :: (opXs l).f t := rfl
    rw [h1, opX_f, opXs_f l]; rfl
noncomputable def wXs (l : List Operand) (k : (Fr → List Value) → FO) : FO := Xs.rec (motive := fun _ => FO) k (opXs l)
theorem wXs_eq (l : List Operand) (k : (Fr → List Value) → FO) : wXs l k = k (fun s => l.map (evalO (tOf s))) := by
  rw [← opXs_f l]; rfl

/-- the value of two integers, quickly; of all else by the long way -/
noncomputable def binF (op : BinOp) (d : TypeDesc) (cst : Bool) (x y : Fr → Value) : FO := match op with
  | .add => ⟨fun _ t h _ kk => vOpt (binVal .add d cst (x t) (y t)) fun v => kk v h⟩
  | op => ⟨fun _ t h _ kk => vOpt (binVal op d cst (x t) (y t)) fun v => kk v h⟩

def IOp.tag : IOp → String
  | .nilc _ => "nilc" | .fieldv .. => "fieldv" | .indexA .. => "indexA" | .indexS .. => "indexS" | .sliceS .. => "sliceS" | .sliceT .. => "sliceT" | .sliceP .. => "sliceP"
  | .extr .. => "extr" | .lent _ => "lent" | .capv _ => "capv" | .minmax .. => "minmax" | .build .. => "build" | .s2ap .. => "s2ap" | .tassert .. => "tassert" | .eqs .. => "eqs" | _ => "pure"

/-- the pure ones, the long way -/
noncomputable def slowF (io : IOp) : FO := ⟨fun _ t h _ kk => vOpt (pureV (tOf t) io) (fun v => kk v h) io.tag⟩

noncomputable def bnd (o : Option Operand) : Option X := match o with | none => none | some o => some (opX o)
noncomputable def bndK (o : Option X) (s : Fr) (d : Nat) (k : Nat → R) : R := Option.rec (motive := fun _ => R) (k d) (fun x => X.rec (motive := fun _ => R) (fun x => vNat (x s) k) x) o
theorem bndK_yes {o : Option Operand} {s : Fr} {d : Nat} {k : Nat → R} (h : bndK (bnd o) s d k = .yes) : ∃ n, boundOf (tOf s) o d = some n ∧ k n = .yes := by
  cases o with
  | none => exact ⟨d, rfl, h⟩
  | some x =>
    have h1 : vNat ((opX x).f s) k = .yes := h
    rw [opX_f] at h1
    exact vNat_yes h1

mutual
def vsame : Nat → Value → Value → Bool
  | 0, _, _ => false
  | d + 1, a, b => match a, b with
    | .bool x, .bool y => x == y
    | .int j x, .int k y => bif sameKind j k then ieq x y else false
    | .float j x, .float k y => bif sameF j k then Nat.beq x y else false
    | .string x, .string y => beqBytes x y
    | .pointer none, .pointer none => true
    | .pointer (some x), .pointer (some y) => sameA x y
    | .slice none l c, .slice none l' c' => Nat.beq l l' && Nat.beq c c'
    | .slice (some x) l c, .slice (some y) l' c' => sameA x y && (Nat.beq l l' && Nat.beq c c')
    | .map none, .map none => true
    | .map (some x), .map (some y) => Nat.beq x y
    | .nilFunc, .nilFunc => true
    | .nilIface, .nilIface => true
    | .iface s x, .iface t y => bif Nat.beq s t then vsame d x y else false
    | .agg x, .agg y => vsames d x.toList y.toList
    | .func (.func f) x u, .func (.func g) y w => bif Nat.beq f g then (bif vsames d x.toList y.toList then vsames d u.toList w.toList else false) else false
    | _, _ => false
def vsames : Nat → List Value → List Value → Bool
  | 0, _, _ => false
  | d + 1, a, b => match a, b with
    | [], [] => true
    | x :: l, y :: m => bif vsame d x y then vsames d l m else false
    | _, _ => false
def sameA : Addr → Addr → Bool
  | ⟨b, o, s⟩, ⟨b', o', s'⟩ => Nat.beq b b' && (Nat.beq o o' && (match s, s' with | none, none => true | some x, some y => Nat.beq x y | _, _ => false))
end

theorem sameA_eq {a b : Addr} (h : sameA a b = true) : a = b := by
  obtain ⟨b1, o1, s1⟩ := a
  obtain ⟨b2, o2, s2⟩ := b
  simp only [sameA, Bool.and_eq_true] at h
  obtain ⟨h1, h2, h3⟩ := h
  rw [beq_eq' h1, beq_eq' h2]
  cases s1 <;> cases s2 <;> simp at h3
  · rfl
  · first | (subst h3; rfl) | rw [beq_eq' h3]

theorem beqBytes_ok {a b : ByteArray} (h : beqBytes a b = true) : a = b := by
  rw [beqBytes_eq, ByteArray.toList_eq, ByteArray.toList_eq] at h
  have h := eq_of_beq h
  obtain ⟨⟨a⟩⟩ := a; obtain ⟨⟨b⟩⟩ := b
  obtain rfl : a = b := h
  rfl

theorem vsame_both : ∀ (d : Nat), (∀ a b, vsame d a b = true → a = b) ∧ (∀ a b, vsames d a b = true → a = b)
  | 0 => ⟨fun _ _ h => by simp [vsame] at h, fun _ _ h => by simp [vsames] at h⟩
  | d + 1 => by
    obtain ⟨ih1, ih2⟩ := vsame_both d
    refine ⟨fun a b h => ?_, fun a b h => ?_⟩
    · unfold vsame at h
      split at h
      · rename_i x y; cases x <;> cases y <;> first | rfl | simp at h
      · obtain ⟨h1, h2⟩ := bif_both h; rw [sameKind_eq h1]; rw [ieq_eq] at h2; have h3 := eq_of_beq h2; rw [h3]
      · obtain ⟨h1, h2⟩ := bif_both h; rw [sameF_eq h1, beq_eq' h2]
      · rw [beqBytes_ok h]
      · rfl
      · rw [sameA_eq h]
      · simp only [Bool.and_eq_true] at h; rw [beq_eq' h.1, beq_eq' h.2]
      · simp only [Bool.and_eq_true] at h; rw [sameA_eq h.1, beq_eq' h.2.1, beq_eq' h.2.2]
      · rfl
      · rw [beq_eq' h]
      · rfl
      · rfl
      · obtain ⟨h1, h2⟩ := bif_both h; rw [beq_eq' h1, ih1 _ _ h2]
      · rename_i x y
        obtain ⟨x⟩ := x; obtain ⟨y⟩ := y
        have := ih2 x y h
        rw [this]
      · rename_i f x u g y w
        obtain ⟨x⟩ := x; obtain ⟨y⟩ := y; obtain ⟨u⟩ := u; obtain ⟨w⟩ := w
        obtain ⟨h1, h2⟩ := bif_both h
        obtain ⟨h3, h4⟩ := bif_both h2
        have e1 := ih2 x y h3
        have e2 := ih2 u w h4
        rw [beq_eq' h1, e1, e2]
      · simp at h
    · unfold vsames at h
      split at h
      · rfl
      · obtain ⟨h1, h2⟩ := bif_both h; rw [ih1 _ _ h1, ih2 _ _ h2]
      · simp at h

noncomputable def snapsK (n : Option Nat) (a : Addr) (v : Value) : Nat → List FH → R → R
  | 0, _, k => k
  | u + 1, s, k => match s with
    | [] => k
    | h :: s => (match n with
      | none => load1K h a fun w => bif' (vsame 10000 w v) (snapsK n a v u s k) (.fail "a load (1) that a call may change")
      | some n' => loadNK h a n' fun l => bif' (vsame 10000 (.agg ⟨l⟩) v) (snapsK n a v u s k) (.fail "a load that a call may change"))

theorem snapsK_yes {n : Option Nat} {a : Addr} {v : Value} {k : R} {t : Fm} {x : Operand} (hx : evalO t x = .pointer (some a)) : ∀ {u : Nat} {s : List FH}, snapsK n a v u s k = .yes →
    k = .yes ∧ ∀ h, h ∈ (s.map hOf).take u → memV t h (.load n x) = some (v, h)
  | 0, s, h => ⟨h, fun h hm => by simp at hm⟩
  | u + 1, [], h => ⟨h, fun h hm => by simp at hm⟩
  | u + 1, g :: s, h => by
    simp only [snapsK] at h
    cases n with
    | none =>
      simp only at h
      obtain ⟨w, h1, h2⟩ := load1K_yes h
      obtain ⟨h3, h4⟩ := bif'_fail h2
      obtain ⟨h5, h6⟩ := snapsK_yes hx h4
      refine ⟨h5, fun h' hm => ?_⟩
      simp only [List.map_cons, List.take_succ_cons, List.mem_cons] at hm
      rcases hm with rfl | hm
      · rw [← (vsame_both 10000).1 _ _ h3]; simp only [memV, hx, h1]
      · exact h6 h' hm
    | some n' =>
      simp only at h
      obtain ⟨w, h1, h2⟩ := loadNK_yes h
      obtain ⟨h3, h4⟩ := bif'_fail h2
      obtain ⟨h5, h6⟩ := snapsK_yes hx h4
      refine ⟨h5, fun h' hm => ?_⟩
      simp only [List.map_cons, List.take_succ_cons, List.mem_cons] at hm
      rcases hm with rfl | hm
      · rw [← (vsame_both 10000).1 _ _ h3]; simp only [memV, hx, h1]
      · exact h6 h' hm

end Go.Ab
