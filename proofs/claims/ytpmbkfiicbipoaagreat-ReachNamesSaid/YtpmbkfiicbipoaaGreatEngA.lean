/- A part of the proof. The abstract machine: its memory, how its values and its memory stand to the model's. No condition. -/
import Derived.Calls
/-! The abstract machine: its memory, how its values and its memory stand to the model's. -/
namespace Go.Ab

/-! ## A binary trie over the natural numbers -/
inductive T (α : Type) where
  | e
  | n (v : Option α) (l r : T α)

def T.get {α : Type} : T α → Nat → Option α
  | .e, _ => none
  | .n v l r, k => match k with
    | 0 => v
    | k + 1 => bif Nat.beq (Nat.mod k 2) 0 then l.get (Nat.div k 2) else r.get (Nat.div k 2)

def T.setF {α : Type} (v : α) : Nat → T α → Nat → T α
  | 0, t, _ => t
  | d + 1, t, k =>
    match k with
    | 0 => match t with
      | .e => .n (some v) .e .e
      | .n _ l r => .n (some v) l r
    | k + 1 => match t with
      | .e => bif Nat.beq (Nat.mod k 2) 0 then .n none (T.setF v d .e (Nat.div k 2)) .e else .n none .e (T.setF v d .e (Nat.div k 2))
      | .n w l r => bif Nat.beq (Nat.mod k 2) 0 then .n w (T.setF v d l (Nat.div k 2)) r else .n w l (T.setF v d r (Nat.div k 2))

def T.set {α : Type} (t : T α) (k : Nat) (v : α) : T α := T.setF v (k + 1) t k

@[simp] theorem T.get_e {α : Type} (k : Nat) : (T.e : T α).get k = none := by unfold T.get; rfl

theorem T.get_n {α : Type} (v : Option α) (l r : T α) (k : Nat) :
    (T.n v l r).get k = if k = 0 then v else if (k - 1) % 2 = 0 then l.get ((k - 1) / 2) else r.get ((k - 1) / 2) := by
  cases k with
  | zero => simp [T.get]
  | succ k =>
    simp only [T.get, Nat.add_sub_cancel, Nat.succ_ne_zero, if_false]
    by_cases hk : k % 2 = 0
    · have h1 : Nat.beq (Nat.mod k 2) 0 = true := by show Nat.beq (k % 2) 0 = true; rw [hk]; rfl
      rw [if_pos hk]
      show (bif Nat.beq (Nat.mod k 2) 0 then _ else _) = _
      rw [h1]; rfl
    · have h1 : Nat.beq (Nat.mod k 2) 0 = false := by
        show Nat.beq (k % 2) 0 = false
        cases hb : Nat.beq (k % 2) 0
        · rfl
        · exact absurd (Nat.eq_of_beq_eq_true hb) hk
      rw [if_neg hk]
      show (bif Nat.beq (Nat.mod k 2) 0 then _ else _) = _
      rw [h1]; rfl

theorem T.setF_n {α : Type} (v : α) (d : Nat) (w : Option α) (l r : T α) (k : Nat) :
    T.setF v (d + 1) (.n w l r) k = if k = 0 then .n (some v) l r else if (k - 1) % 2 = 0 then .n w (T.setF v d l ((k - 1) / 2)) r else .n w l (T.setF v d r ((k - 1) / 2)) := by
  cases k with
  | zero => simp [T.setF]
  | succ k =>
    simp only [T.setF, Nat.add_sub_cancel, Nat.succ_ne_zero, if_false]
    by_cases hk : k % 2 = 0
    · have h1 : Nat.beq (Nat.mod k 2) 0 = true := by show Nat.beq (k % 2) 0 = true; rw [hk]; rfl
      rw [if_pos hk, h1]; rfl
    · have h1 : Nat.beq (Nat.mod k 2) 0 = false := by
        show Nat.beq (k % 2) 0 = false
        cases hb : Nat.beq (k % 2) 0
        · rfl
        · exact absurd (Nat.eq_of_beq_eq_true hb) hk
      rw [if_neg hk, h1]; rfl

theorem T.setF_e {α : Type} (v : α) (d k : Nat) : T.setF v (d + 1) .e k = T.setF v (d + 1) (.n none .e .e) k := by
  cases k with
  | zero => rfl
  | succ k => simp only [T.setF]

theorem T.get_e' {α : Type} (k : Nat) : (T.n none .e .e : T α).get k = none := by
  rw [T.get_n]; simp

theorem T.get_setF {α : Type} (v : α) : ∀ (d : Nat) (t : T α) (k : Nat), k < d → ∀ j, (T.setF v d t k).get j = if j = k then some v else t.get j := by
  intro d
  induction d with
  | zero => intro t k h; omega
  | succ d ih =>
    intro t k h j
    have main : ∀ (w : Option α) (l r : T α), (T.setF v (d + 1) (.n w l r) k).get j = if j = k then some v else (T.n w l r).get j := by
      intro w l r
      rw [T.setF_n]
      by_cases hk : k = 0
      · subst hk
        rw [if_pos rfl, T.get_n, T.get_n]
        by_cases hj : j = 0
        · rw [if_pos hj, if_pos hj]
        · rw [if_neg hj, if_neg hj, if_neg hj]
      · rw [if_neg hk]
        by_cases hp : (k - 1) % 2 = 0
        · rw [if_pos hp, T.get_n, T.get_n]
          by_cases hj : j = 0
          · rw [if_pos hj, if_pos hj, if_neg (by omega)]
          · rw [if_neg hj, if_neg hj, ih l ((k - 1) / 2) (by omega)]
            by_cases hjp : (j - 1) % 2 = 0
            · rw [if_pos hjp, if_pos hjp]
              by_cases he : j = k
              · rw [if_pos he, if_pos (by omega)]
              · rw [if_neg he, if_neg (by omega)]
            · rw [if_neg hjp, if_neg hjp, if_neg (by omega)]
        · rw [if_neg hp, T.get_n, T.get_n]
          by_cases hj : j = 0
          · rw [if_pos hj, if_pos hj, if_neg (by omega)]
          · rw [if_neg hj, if_neg hj, ih r ((k - 1) / 2) (by omega)]
            by_cases hjp : (j - 1) % 2 = 0
            · rw [if_pos hjp, if_pos hjp, if_neg (by omega)]
            · rw [if_neg hjp, if_neg hjp]
              by_cases he : j = k
              · rw [if_pos he, if_pos (by omega)]
              · rw [if_neg he, if_neg (by omega)]
    cases t with
    | e => rw [T.setF_e, main, T.get_e, T.get_e']
    | n w l r => exact main w l r

theorem T.get_set {α : Type} (t : T α) (k : Nat) (v : α) (j : Nat) : (t.set k v).get j = if j = k then some v else t.get j :=
  T.get_setF v (k + 1) t k (by omega) j

theorem T.get_set_self {α : Type} (t : T α) (k : Nat) (v : α) : (t.set k v).get k = some v := by rw [T.get_set, if_pos rfl]
theorem T.get_set_ne {α : Type} (t : T α) (k : Nat) (v : α) (j : Nat) (h : j ≠ k) : (t.set k v).get j = t.get j := by rw [T.get_set, if_neg h]

def T.ofList {α : Type} : List α → Nat → T α → T α
  | [], _, t => t
  | a :: l, i, t => T.ofList l (i + 1) (t.set i a)

theorem T.get_ofList {α : Type} : ∀ (l : List α) (i : Nat) (t : T α) (j : Nat), (T.ofList l i t).get j = if i ≤ j ∧ j < i + l.length then l[j - i]? else t.get j
  | [], i, t, j => by simp [T.ofList]; omega
  | a :: l, i, t, j => by
    rw [T.ofList, T.get_ofList l (i + 1) (t.set i a) j]
    simp only [List.length_cons]
    by_cases h1 : i + 1 ≤ j ∧ j < i + 1 + l.length
    · rw [if_pos h1, if_pos (by omega)]
      rw [show j - i = (j - (i + 1)) + 1 from by omega, List.getElem?_cons_succ]
    · rw [if_neg h1, T.get_set]
      by_cases h2 : j = i
      · subst h2; rw [if_pos rfl, if_pos (by omega)]; simp
      · rw [if_neg h2, if_neg (by omega)]

/-! ## The abstract heap -/
inductive Blk where
  | cells (c : List Value) (grown : Option Nat)
  | map (es : List (Value × Value))
  | gone
  deriving Inhabited

structure Heap where
  next : Nat
  blks : Nat → Option Blk

def Heap.push (h : Heap) (b : Blk) : Heap := ⟨h.next + 1, fun j => bif Nat.beq j h.next then some b else h.blks j⟩
def Heap.setB (h : Heap) (i : Nat) (b : Blk) : Heap := ⟨h.next, fun j => bif Nat.beq j i then some b else h.blks j⟩

def Heap.live (h : Heap) (i : Nat) : Prop := ∃ b, h.blks i = some b ∧ b ≠ .gone

theorem Heap.get_push (h : Heap) (b : Blk) (j : Nat) : (h.push b).blks j = if j = h.next then some b else h.blks j := by
  show (bif Nat.beq j h.next then _ else _) = _
  by_cases e : j = h.next
  · subst e; simp
  · have : Nat.beq j h.next = false := by cases hb : Nat.beq j h.next <;> simp_all
    rw [if_neg e, this]; rfl
theorem Heap.get_setB (h : Heap) (i : Nat) (b : Blk) (j : Nat) : (h.setB i b).blks j = if j = i then some b else h.blks j := by
  show (bif Nat.beq j i then _ else _) = _
  by_cases e : j = i
  · subst e; simp
  · have : Nat.beq j i = false := by cases hb : Nat.beq j i <;> simp_all
    rw [if_neg e, this]; rfl

def nth {α : Type} : List α → Nat → Option α
  | [], _ => none
  | a :: l, i => match i with | 0 => some a | i + 1 => nth l i

theorem nth_eq {α : Type} : ∀ (l : List α) (i : Nat), nth l i = l[i]?
  | [], i => by simp [nth]
  | a :: l, 0 => by simp [nth]
  | a :: l, i + 1 => by simp [nth, nth_eq l i]

def takeN {α : Type} : Nat → List α → Option (List α)
  | 0, _ => some []
  | n + 1, l => match l with
    | [] => none
    | a :: l => match takeN n l with | some r => some (a :: r) | none => none

theorem takeN_some {α : Type} : ∀ {n : Nat} {l r : List α}, takeN n l = some r → r = l.take n ∧ n ≤ l.length
  | 0, l, r, h => by simp [takeN] at h; subst h; simp
  | n + 1, [], r, h => by simp [takeN] at h
  | n + 1, a :: l, r, h => by
    simp only [takeN] at h
    cases hr : takeN n l with
    | none => rw [hr] at h; simp at h
    | some q =>
      rw [hr] at h
      simp only [Option.some.injEq] at h
      obtain ⟨h1, h2⟩ := takeN_some hr
      subst h
      simp [h1, h2]

theorem takeN_of_le {α : Type} : ∀ {n : Nat} {l : List α}, n ≤ l.length → takeN n l = some (l.take n)
  | 0, l, _ => by simp [takeN]
  | n + 1, [], h => by simp at h
  | n + 1, a :: l, h => by
    simp only [takeN, takeN_of_le (n := n) (l := l) (by simpa using h), List.take_succ_cons]

def dropN {α : Type} : Nat → List α → List α
  | 0, l => l
  | n + 1, l => match l with | [] => [] | _ :: l => dropN n l

theorem dropN_eq {α : Type} : ∀ (n : Nat) (l : List α), dropN n l = l.drop n
  | 0, l => rfl
  | n + 1, [] => rfl
  | n + 1, a :: l => by simp [dropN, dropN_eq n l]

/-- vs written over the beginning of a list -/
def over {α : Type} : List α → List α → Option (List α)
  | [], l => some l
  | _ :: _, [] => none
  | v :: vs, _ :: l => match over vs l with | some r => some (v :: r) | none => none

/-- .. from a place on -/
def putAt {α : Type} (vs : List α) : Nat → List α → Option (List α)
  | 0, l => over vs l
  | _ + 1, [] => none
  | i + 1, a :: l => match putAt vs i l with | some r => some (a :: r) | none => none

theorem over_some {α : Type} : ∀ {vs l r : List α}, over vs l = some r → vs.length ≤ l.length ∧ r.length = l.length ∧ ∀ k, r[k]? = if k < vs.length then vs[k]? else l[k]?
  | [], l, r, h => by simp [over] at h; subst h; simp
  | v :: vs, [], r, h => by simp [over] at h
  | v :: vs, b :: l, r, h => by
    simp only [over] at h
    cases hr : over vs l with
    | none => rw [hr] at h; simp at h
    | some q =>
      rw [hr] at h
      simp only [Option.some.injEq] at h
      obtain ⟨h1, h2, h3⟩ := over_some hr
      subst h
      refine ⟨by simp [h1], by simp [h2], fun k => ?_⟩
      cases k with
      | zero => simp
      | succ k => simp [h3 k]

theorem putAt_some {α : Type} {vs : List α} : ∀ {i : Nat} {l r : List α}, putAt vs i l = some r →
    i + vs.length ≤ l.length ∧ r.length = l.length ∧ ∀ k, r[k]? = if i ≤ k ∧ k < i + vs.length then vs[k - i]? else l[k]?
  | 0, l, r, h => by
    obtain ⟨h1, h2, h3⟩ := over_some (by simpa [putAt] using h)
    exact ⟨by omega, h2, fun k => by simp [h3 k]⟩
  | i + 1, [], r, h => by simp [putAt] at h
  | i + 1, a :: l, r, h => by
    simp only [putAt] at h
    cases hr : putAt vs i l with
    | none => rw [hr] at h; simp at h
    | some q =>
      rw [hr] at h
      simp only [Option.some.injEq] at h
      obtain ⟨h1, h2, h3⟩ := putAt_some hr
      subst h
      refine ⟨by simp; omega, by simp [h2], fun k => ?_⟩
      cases k with
      | zero => simp
      | succ k =>
        simp only [List.getElem?_cons_succ, h3 k]
        by_cases hc : i ≤ k ∧ k < i + vs.length
        · rw [if_pos hc, if_pos (by omega), show k + 1 - (i + 1) = k - i from by omega]
        · rw [if_neg hc, if_neg (by omega)]

def Heap.load1 (h : Heap) (a : Addr) : Option Value :=
  match h.blks a.block with
  | some (.cells c _) => nth c a.off
  | _ => none

def Heap.loadN (h : Heap) (a : Addr) (n : Nat) : Option (List Value) :=
  match h.blks a.block with
  | some (.cells c _) => takeN n (dropN a.off c)
  | _ => none

def oneCellB : Value → Bool
  | .agg _ | .tuple _ => false
  | _ => true

def allB {α : Type} (f : α → Bool) : List α → Bool
  | [] => true
  | a :: l => bif f a then allB f l else false

theorem allB_iff {α : Type} (f : α → Bool) : ∀ l, allB f l = true ↔ ∀ a ∈ l, f a = true
  | [] => by simp [allB]
  | a :: l => by
    simp only [allB, List.mem_cons, forall_eq_or_imp]
    cases h : f a <;> simp [allB_iff f l]

def Heap.storeN (h : Heap) (a : Addr) (vs : List Value) : Option Heap :=
  match h.blks a.block with
  | some (.cells c g) => bif allB oneCellB vs then (match putAt vs a.off c with
    | some c' => some (h.setB a.block (.cells c' g))
    | none => none) else none
  | _ => none

/-! ## The relations -/
structure Img where
  blk : Nat
  /-- of a block that has grown: how many cells an element has, how many cells there are -/
  grow : Option (Nat × Nat)

abbrev Phi := Nat → Option Img

def isNaN (k : FloatKind) (b : Nat) : Prop := (k.decode b).isNaN = true

/-- the mark that an abstract address bears where its block has grown -/
def spotOf (g : Option (Nat × Nat)) : Option Nat := match g with | none => none | some (esz, _) => some esz

def ARel (φ : Phi) (a b : Addr) : Prop := ∃ im, φ a.block = some im ∧ b = ⟨im.blk, a.off, none⟩ ∧ a.spot = spotOf im.grow

def capRel (g : Option (Nat × Nat)) (off cap cap' : Nat) : Prop :=
  match g with
  | none => cap' = cap
  | some (esz, size) => cap ≤ cap' ∧ off + cap' * esz ≤ size

mutual
inductive VRel (φ : Phi) : Value → Value → Prop where
  | bool (b : Bool) : VRel φ (.bool b) (.bool b)
  | int (k : IntKind) (n : Int) : VRel φ (.int k n) (.int k n)
  | float (k : FloatKind) (b : Nat) : VRel φ (.float k b) (.float k b)
  | nan (k : FloatKind) (b c : Nat) (hb : isNaN k b) (hc : isNaN k c) : VRel φ (.float k b) (.float k c)
  | complex (k : FloatKind) (a b : Nat) : VRel φ (.complex k a b) (.complex k a b)
  | string (s : ByteArray) : VRel φ (.string s) (.string s)
  | ptrNil : VRel φ (.pointer none) (.pointer none)
  | ptr (a b : Addr) (h : ARel φ a b) : VRel φ (.pointer (some a)) (.pointer (some b))
  | sliceNil (l c : Nat) : VRel φ (.slice none l c) (.slice none l c)
  | slice (a b : Addr) (l c c' : Nat) (im : Img) (h : φ a.block = some im) (hb : b = ⟨im.blk, a.off, none⟩) (hs : a.spot = spotOf im.grow) (hc : capRel im.grow a.off c c') (hl : l ≤ c) :
      VRel φ (.slice (some a) l c) (.slice (some b) l c')
  | mapNil : VRel φ (.map none) (.map none)
  | map (r r' : Nat) (g : Option (Nat × Nat)) (h : φ r = some ⟨r', g⟩) : VRel φ (.map (some r)) (.map (some r'))
  | func (f : Fn) (a b c d : List Value) (h1 : LRel φ a b) (h2 : LRel φ c d) : VRel φ (.func f ⟨a⟩ ⟨c⟩) (.func f ⟨b⟩ ⟨d⟩)
  | nilFunc : VRel φ .nilFunc .nilFunc
  | iface (t : TypeId) (v w : Value) (h : VRel φ v w) : VRel φ (.iface t v) (.iface t w)
  | nilIface : VRel φ .nilIface .nilIface
  | agg (a b : List Value) (h : LRel φ a b) : VRel φ (.agg ⟨a⟩) (.agg ⟨b⟩)
  | tuple (a b : List Value) (h : LRel φ a b) : VRel φ (.tuple ⟨a⟩) (.tuple ⟨b⟩)
inductive LRel (φ : Phi) : List Value → List Value → Prop where
  | nil : LRel φ [] []
  | cons (v w : Value) (l m : List Value) (h : VRel φ v w) (t : LRel φ l m) : LRel φ (v :: l) (w :: m)
end

def Phi.le (φ ψ : Phi) : Prop := ∀ i im, φ i = some im → ψ i = some im

mutual
theorem VRel.mono {φ ψ : Phi} (hle : φ.le ψ) : ∀ {v w : Value}, VRel φ v w → VRel ψ v w
  | _, _, .bool b => .bool b
  | _, _, .int k n => .int k n
  | _, _, .float k b => .float k b
  | _, _, .nan k b c h1 h2 => .nan k b c h1 h2
  | _, _, .complex k a b => .complex k a b
  | _, _, .string s => .string s
  | _, _, .ptrNil => .ptrNil
  | _, _, .ptr a b ⟨im, h, hb, hs⟩ => .ptr a b ⟨im, hle _ _ h, hb, hs⟩
  | _, _, .sliceNil l c => .sliceNil l c
  | _, _, .slice a b l c c' im h hb hs hc hl => .slice a b l c c' im (hle _ _ h) hb hs hc hl
  | _, _, .mapNil => .mapNil
  | _, _, .map r r' g h => .map r r' g (hle _ _ h)
  | _, _, .func f a b c d h1 h2 => .func f a b c d (LRel.mono hle h1) (LRel.mono hle h2)
  | _, _, .nilFunc => .nilFunc
  | _, _, .iface t v w h => .iface t v w (VRel.mono hle h)
  | _, _, .nilIface => .nilIface
  | _, _, .agg a b h => .agg a b (LRel.mono hle h)
  | _, _, .tuple a b h => .tuple a b (LRel.mono hle h)
theorem LRel.mono {φ ψ : Phi} (hle : φ.le ψ) : ∀ {v w : List Value}, LRel φ v w → LRel ψ v w
  | _, _, .nil => .nil
  | _, _, .cons v w l m h t => .cons v w l m (VRel.mono hle h) (LRel.mono hle t)
end

theorem LRel.length {φ : Phi} : ∀ {l m : List Value}, LRel φ l m → l.length = m.length
  | _, _, .nil => rfl
  | _, _, .cons _ _ _ _ _ t => by simp [LRel.length t]

theorem LRel.get {φ : Phi} : ∀ {l m : List Value}, LRel φ l m → ∀ (k : Nat) (v : Value), l[k]? = some v → ∃ w, m[k]? = some w ∧ VRel φ v w
  | _, _, .nil, k, v, h => by simp at h
  | _, _, .cons v w l m hv t, 0, u, h => by simp at h; subst h; exact ⟨w, by simp, hv⟩
  | _, _, .cons v w l m hv t, k + 1, u, h => by
    obtain ⟨x, hx, hr⟩ := LRel.get t k u (by simpa using h)
    exact ⟨x, by simpa using hx, hr⟩

theorem LRel.of_get {φ : Phi} : ∀ (l m : List Value), l.length = m.length → (∀ (k : Nat) (v : Value), l[k]? = some v → ∃ w, m[k]? = some w ∧ VRel φ v w) → LRel φ l m
  | [], [], _, _ => .nil
  | [], _ :: _, h, _ => by simp at h
  | _ :: _, [], h, _ => by simp at h
  | v :: l, w :: m, h, hk => by
    obtain ⟨x, hx, hr⟩ := hk 0 v (by simp)
    simp at hx; subst hx
    exact .cons _ _ _ _ hr (LRel.of_get l m (by simpa using h) fun k u hu => by simpa using hk (k + 1) u (by simpa using hu))

theorem LRel.append {φ : Phi} : ∀ {l m l' m' : List Value}, LRel φ l m → LRel φ l' m' → LRel φ (l ++ l') (m ++ m')
  | _, _, _, _, .nil, h => h
  | _, _, _, _, .cons v w l m hv t, h => .cons _ _ _ _ hv (LRel.append t h)

def CRel (φ : Phi) (c : List Value) (arr : Array Value) : Prop := ∀ (k : Nat) (v : Value), c[k]? = some v → ∃ v', arr[k]? = some v' ∧ VRel φ v v'

def growOk (g : Option Nat) (n : Nat) (im : Img) (arr : Array Value) : Prop :=
  match g with
  | none => im.grow = none ∧ arr.size = n
  | some esz => im.grow = some (esz, arr.size)

def MRel (φ : Phi) : List (Value × Value) → List MapEntry → Prop
  | [], [] => True
  | (k, v) :: l, e :: m => VRel φ k e.key ∧ VRel φ v e.val ∧ MRel φ l m
  | _, _ => False

theorem MRel.mono {φ ψ : Phi} (hle : φ.le ψ) : ∀ {l : List (Value × Value)} {m : List MapEntry}, MRel φ l m → MRel ψ l m
  | [], [], _ => trivial
  | (_, _) :: _, _ :: _, ⟨h1, h2, h3⟩ => ⟨h1.mono hle, h2.mono hle, MRel.mono hle h3⟩
  | [], _ :: _, h => h.elim
  | _ :: _, [], h => h.elim

structure HRel (φ : Phi) (h : Heap) (w : World) : Prop where
  dom : ∀ i im, φ i = some im → i < h.next ∧ im.blk < w.heap.size
  none : ∀ i, h.next ≤ i → h.blks i = none
  cells : ∀ i im c g, φ i = some im → h.blks i = some (.cells c g) → ∃ arr e, w.heap[im.blk]? = some (.cells arr e (0, 0)) ∧ CRel φ c arr ∧ growOk g c.length im arr
  map : ∀ i im es, φ i = some im → h.blks i = some (.map es) → ∃ ents clock, w.heap[im.blk]? = some (.map ents clock) ∧ MRel φ es ents.toList
  inj : ∀ i j im jm, h.live i → h.live j → φ i = some im → φ j = some jm → im.blk = jm.blk → i = j

def Full (φ : Phi) (h : Heap) : Prop := ∀ i, h.live i → ∃ im, φ i = some im

/-- what a piece of the run may do to the model's world -/
structure Ext (φ : Phi) (h : Heap) (w : World) (φ' : Phi) (h' : Heap) (w' : World) : Prop where
  mono : φ.le φ'
  frame : ∀ b, b < w.heap.size → (∀ i im, h.live i → φ i = some im → im.blk ≠ b) → w'.heap[b]? = w.heap[b]?
  new : ∀ i im, h'.live i → φ' i = some im → w.heap.size ≤ im.blk ∨ ∃ j jm, h.live j ∧ φ j = some jm ∧ jm.blk = im.blk
  size : w.heap.size ≤ w'.heap.size
  next : h.next ≤ h'.next
  os : w'.os = w.os
  tape : w'.tape = w.tape
  output : w'.output = w.output
  old : ∀ i, i < h.next → φ' i = φ i
  full : Full φ h → Full φ' h'
  frz : ∀ a, w'.frozen? a = w.frozen? a

theorem Ext.refl (φ : Phi) (h : Heap) (w : World) : Ext φ h w φ h w where
  mono := fun _ _ h => h
  frame := fun _ _ _ => rfl
  new := fun i im hl hi => .inr ⟨i, im, hl, hi, rfl⟩
  size := Nat.le_refl _
  next := Nat.le_refl _
  os := rfl
  tape := rfl
  output := rfl
  old := fun _ _ => rfl
  full := fun h => h
  frz := fun _ => rfl

theorem Ext.trans {φ φ' φ'' : Phi} {h h' h'' : Heap} {w w' w'' : World} (e1 : Ext φ h w φ' h' w') (e2 : Ext φ' h' w' φ'' h'' w'') : Ext φ h w φ'' h'' w'' where
  mono := fun i im hi => e2.mono i im (e1.mono i im hi)
  frame := fun b hb hn => by
    rw [e2.frame b (Nat.lt_of_lt_of_le hb e1.size) ?_, e1.frame b hb hn]
    intro i im hl hi heq
    rcases e1.new i im hl hi with hge | ⟨j, jm, hj, hjm, he⟩
    · omega
    · exact hn j jm hj hjm (he.trans heq)
  new := fun i im hl hi => by
    rcases e2.new i im hl hi with hge | ⟨j, jm, hj, hjm, he⟩
    · exact .inl (Nat.le_trans e1.size hge)
    · rcases e1.new j jm hj hjm with hge | ⟨k, km, hk, hkm, he2⟩
      · exact .inl (he ▸ hge)
      · exact .inr ⟨k, km, hk, hkm, he2.trans he⟩
  size := Nat.le_trans e1.size e2.size
  next := Nat.le_trans e1.next e2.next
  os := e2.os.trans e1.os
  tape := e2.tape.trans e1.tape
  output := e2.output.trans e1.output
  old := fun i hi => (e2.old i (Nat.lt_of_lt_of_le hi e1.next)).trans (e1.old i hi)
  full := fun h => e2.full (e1.full h)
  frz := fun a => (e2.frz a).trans (e1.frz a)

end Go.Ab
