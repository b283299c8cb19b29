/- A part of the proof. The abstract machine: the operations that touch memory. No condition. -/
import Derived.Test.YtpmbkfiicbipoaaGreatEngH
/-! The abstract machine: the operations that touch memory. -/
namespace Go.Ab

def lenV : Value → Option Nat
  | .slice _ n _ => some n
  | .string s => some s.size
  | _ => none

def firstV (h : Heap) (esz n : Nat) : Value → Option (List Value)
  | .slice none _ _ => bif Nat.beq n 0 then some [] else none
  | .slice (some a) _ _ => h.loadN a (n * esz)
  | .string s => bif Nat.beq esz 1 && Nat.ble n s.size then some ((s.data.toList.take n).map fun b => .int .u8 (.ofNat b.toNat)) else none
  | _ => none

def keyFind (k : Value) : List (Value × Value) → Option (Option Value)
  | [] => some none
  | (j, v) :: l => match scEq k j with
    | some true => some (some v)
    | some false => keyFind k l
    | none => none

def keyPut (k v : Value) : List (Value × Value) → Option (List (Value × Value))
  | [] => some [(k, v)]
  | (j, x) :: l => match scEq k j with
    | some true => some ((k, v) :: l)
    | some false => match keyPut k v l with | some r => some ((j, x) :: r) | none => none
    | none => none

/-- operations that touch memory, and call nothing -/
def memV (t : Fm) (h : Heap) : IOp → Option (Value × Heap)
  | .load n x => match evalO t x with
    | .pointer (some a) => match n with
      | none => match h.load1 a with | some v => some (v, h) | none => none
      | some n => match h.loadN a n with | some l => some (.agg ⟨l⟩, h) | none => none
    | _ => none
  | .alloc z => some (.pointer (some ⟨h.next, 0, none⟩), h.push (.cells z none))
  | .box x => some (.pointer (some ⟨h.next, 0, none⟩), h.push (.cells (evalO t x).cells.toList none))
  | .buildSl len cells ps => match fillP t ps cells with
    | some c => some (.slice (some ⟨h.next, 0, none⟩) len len, h.push (.cells c none))
    | none => none
  | .makeSl l c _ eb z => match natOf (evalO t l), natOf (evalO t c) with
    | some l, some c => bif Nat.ble l c && Nat.ble (c * eb) 70368744177664 && Nat.ble c 70368744177664 then
        some (.slice (some ⟨h.next, 0, none⟩) l c, h.push (.cells (repeatN z c) none)) else none
    | _, _ => none
  | .store n x y => match evalO t x with
    | .pointer (some a) => bif Nat.beq (evalO t y).cells.toList.length n then
        (match h.storeN a (evalO t y).cells.toList with | some h' => some (undef, h') | none => none) else none
    | _ => none
  | .append x y esz eb => match lenV (evalO t y) with
    | some n => match firstV h esz n (evalO t y) with
      | some new => appendV h (evalO t x) n new esz eb
      | none => none
    | none => none
  | .appendZ x y esz eb z => match natOf (evalO t y) with
    | some n => bif Nat.ble (n * eb) 70368744177664 then appendV h (evalO t x) n (repeatN z n) esz eb else none
    | none => none
  | .clearS x _ z => match evalO t x with
    | .slice none _ _ => some (undef, h)
    | .slice (some a) n _ => bif Nat.beq n 0 then some (undef, h) else match h.storeN a (repeatN z n) with | some h' => some (undef, h') | none => none
    | _ => none
  | .copy x y esz => match evalO t x, lenV (evalO t y) with
    | .slice base dLen _, some sl => match firstV h esz (Nat.min sl dLen) (evalO t y) with
      | some c => match base with
        | none => some (.int .i64 (.ofNat (Nat.min sl dLen)), h)
        | some a => match h.storeN a c with | some h' => some (.int .i64 (.ofNat (Nat.min sl dLen)), h') | none => none
      | none => none
    | _, _ => none
  | .makeMap => some (.map (some h.next), h.push (.map []))
  | .insert kd m k v => match evalO t m with
    | .map (some r) => match h.blks r with
      | some (.map es) => bif fitsD kd (evalO t k) then (match keyPut (evalO t k) (evalO t v) es with
        | some es' => some (undef, h.setB r (.map es'))
        | none => none) else none
      | _ => none
    | _ => none
  | .lookup kd m k z ok => match evalO t m with
    | .map none => bif fitsD kd (evalO t k) then some (bif ok then .tuple #[z, .bool false] else z, h) else none
    | .map (some r) => match h.blks r with
      | some (.map es) => bif fitsD kd (evalO t k) then (match keyFind (evalO t k) es with
        | some (some v) => some (bif ok then .tuple #[v, .bool true] else v, h)
        | some none => some (bif ok then .tuple #[z, .bool false] else z, h)
        | none => none) else none
      | _ => none
    | _ => none
  | .lenm m => match evalO t m with
    | .map none => some (.int .i64 (.ofNat 0), h)
    | .map (some r) => match h.blks r with
      | some (.map es) => some (.int .i64 (.ofNat es.length), h)
      | _ => none
    | _ => none
  | _ => none

section
variable {P : Program} {φ : Phi} {h : Heap} {w : World}

theorem m_lenOf {y y' : Value} (hy : VRel φ y y') {n : Nat} (hn : lenV y = some n) (v : World) : (Builtin.lenOf y').run P v = .ok n v := by
  unfold lenV at hn
  split at hn
  · rename_i b k c
    simp only [Option.some.injEq] at hn; subst hn
    cases b with
    | none => rw [hy.sliceNil_inv]; rfl
    | some b => obtain ⟨im, c', q, _⟩ := hy.slice_inv; rw [q]; rfl
  · simp only [Option.some.injEq] at hn; subst hn; rw [hy.string_inv]; rfl
  · simp at hn

theorem m_first (hr : HRel φ h w) {y y' : Value} (hy : VRel φ y y') {esz n : Nat} {new : List Value} (hf : firstV h esz n y = some new) :
    ∃ new' : Array Value, (∀ v : World, v.heap = w.heap → (Builtin.firstCells esz n y').run P v = .ok new' v) ∧ LRel φ new new'.toList ∧ new.length = n * esz := by
  unfold firstV at hf
  split at hf
  · obtain ⟨h1, h2⟩ := bif_some hf
    have := beq_eq' h1; subst this
    simp only [Option.some.injEq] at h2; subst h2
    rw [hy.sliceNil_inv]
    exact ⟨#[], fun v _ => rfl, .nil, by simp⟩
  · obtain ⟨im, c', q, g1, g2, _, _⟩ := hy.slice_inv
    obtain ⟨l', m1, m2, m3⟩ := m_loadN (P := P) hr ⟨im, g1, rfl, g2⟩ hf
    rw [q]
    exact ⟨⟨l'⟩, fun v hv => m1 v hv, m2, m3⟩
  · rename_i s
    obtain ⟨h1, h2⟩ := bif_some hf
    simp only [Bool.and_eq_true] at h1
    have e1 := beq_eq' h1.1
    have e2 := ble_le h1.2
    subst e1
    simp only [Option.some.injEq] at h2; subst h2
    rw [hy.string_inv]
    refine ⟨(s.extract 0 n).data.map fun b => .int .u8 b.toNat, fun v _ => rfl, ?_, ?_⟩
    · have : ((s.extract 0 n).data.map fun b => (Value.int .u8 (b.toNat : Int))).toList = (s.data.toList.take n).map fun b => .int .u8 (.ofNat b.toNat) := by
        rw [Array.toList_map, ByteArray.data_extract, Array.toList_extract, List.extract_eq_take_drop]
        simp
      rw [this]
      exact .refl_of _ fun v hv => by
        obtain ⟨b, _, rfl⟩ := List.mem_map.1 hv
        exact .int _ _
    · simp only [List.length_map, List.length_take, Array.length_toList]
      have : s.data.size = s.size := rfl
      omega
  · simp at hf

theorem repeatN_get {α : Type} (l : List α) (hl : 0 < l.length) : ∀ (n k : Nat), (repeatN l n)[k]? = if k < n * l.length then l[k % l.length]? else none
  | 0, k => by simp [repeatN]
  | n + 1, k => by
    simp only [repeatN]
    have hm : (n + 1) * l.length = l.length + n * l.length := by rw [Nat.add_mul, Nat.one_mul, Nat.add_comm]
    by_cases hk : k < l.length
    · rw [List.getElem?_append_left hk, if_pos (by omega), Nat.mod_eq_of_lt hk]
    · rw [List.getElem?_append_right (by omega), repeatN_get l hl n]
      by_cases h2 : k - l.length < n * l.length
      · rw [if_pos h2, if_pos (by omega)]
        congr 1
        rw [← Nat.mod_eq_sub_mod (by omega)]
      · rw [if_neg h2, if_neg (by omega)]

theorem repeatN_length {α : Type} (l : List α) : ∀ n, (repeatN l n).length = n * l.length
  | 0 => by simp [repeatN]
  | n + 1 => by simp only [repeatN, List.length_append, repeatN_length l n, Nat.add_mul, Nat.one_mul]; omega

theorem repeatN_toList {z : Array Value} (hz : 0 < z.size) (n : Nat) : ((Array.range (n * z.size)).map (z[· % z.size]!)).toList = repeatN z.toList n := by
  apply List.ext_getElem?
  intro k
  rw [repeatN_get _ (by simpa using hz)]
  simp only [Array.toList_map, Array.toList_range, List.getElem?_map, Array.length_toList]
  by_cases hk : k < n * z.size
  · rw [if_pos hk, List.getElem?_range hk, Array.getElem?_toList]
    have hm : k % z.size < z.size := Nat.mod_lt _ hz
    simp [hm]
  · rw [if_neg hk]
    simp; omega

theorem repeatN_rel {l : List Value} (hl : LRel φ l l) : ∀ n, LRel φ (repeatN l n) (repeatN l n)
  | 0 => .nil
  | n + 1 => hl.append (repeatN_rel hl n)

/-- what is to be shown of an operation that touches memory -/
def MemGoal (P : Program) (φ : Phi) (h : Heap) (w : World) (a : Act) (o : Oper) (v : Value) (h' : Heap) : Prop :=
  ∃ φ' v' w' nx, (execOp a.eval o).run P w = .ok nx w' ∧ (nx = .value v' ∨ (nx = .skip ∧ v' = undef)) ∧ VRel φ' v v' ∧ HRel φ' h' w' ∧ Ext φ h w φ' h' w'

theorem MemGoal.of_val {a : Act} {o : Oper} {v v' : Value} {h' : Heap} {w' : World} {φ' : Phi} {s : Sem Value} (he : execOp a.eval o = valS s) (hrun : s.run P w = .ok v' w') (hv : VRel φ' v v')
    (hr : HRel φ' h' w') (hx : Ext φ h w φ' h' w') : MemGoal P φ h w a o v h' :=
  ⟨φ', v', w', .value v', by rw [he]; exact run_valS hrun, .inl rfl, hv, hr, hx⟩

theorem MemGoal.of_unit {a : Act} {o : Oper} {h' : Heap} {w' : World} {φ' : Phi} {s : Sem Unit} (he : execOp a.eval o = (do s; pure .skip)) (hrun : s.run P w = .ok () w')
    (hr : HRel φ' h' w') (hx : Ext φ h w φ' h' w') : MemGoal P φ h w a o undef h' :=
  ⟨φ', undef, w', .skip, by rw [he]; simp only [Sem.run_bind, hrun, Result.andThen_ok, Sem.run_pure], .inr ⟨rfl, rfl⟩, undef_rel _, hr, hx⟩

theorem new_ptr {φ' : Phi} {n b : Nat} (hn : φ' n = some ⟨b, none⟩) : VRel φ' (.pointer (some ⟨n, 0, none⟩)) (.pointer (some ⟨b, 0, none⟩)) := .ptr _ _ ⟨_, hn, rfl, rfl⟩

theorem new_slice {φ' : Phi} {n b l c : Nat} (hn : φ' n = some ⟨b, none⟩) (hlc : l ≤ c) : VRel φ' (.slice (some ⟨n, 0, none⟩) l c) (.slice (some ⟨b, 0, none⟩) l c) := .slice _ _ _ _ _ _ hn rfl rfl rfl hlc

end

def isMem : IOp → Bool
  | .load .. | .alloc _ | .box _ | .buildSl .. | .makeSl .. | .store .. | .append .. | .appendZ .. | .clearS .. | .copy .. | .makeMap | .insert .. | .lookup .. | .lenm _ => true
  | _ => false

end Go.Ab
