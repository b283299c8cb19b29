/- A part of the proof. The abstract machine: what is made ready ahead of the run: operations, plans. No condition. -/
import Derived.Test.YtpmbkfiicbipoaaGreatEngU
/-! The abstract machine: what is made ready ahead of the run: operations, plans. -/
namespace Go.Ab

def elemN (k : Nat) : List Nat → Bool
  | [] => false
  | a :: l => bif Nat.beq a k then true else elemN k l

theorem elemN_mem {k : Nat} : ∀ {l : List Nat}, elemN k l = true → k ∈ l
  | [], h => by simp [elemN] at h
  | a :: l, h => by
    simp only [elemN] at h
    cases ha : Nat.beq a k with
    | true => rw [beq_eq' ha]; simp
    | false => rw [ha] at h; exact List.mem_cons_of_mem _ (elemN_mem h)

def subN : List Nat → List Nat → Bool
  | [], _ => true
  | a :: l, m => bif elemN a m then subN l m else false

theorem subN_mem : ∀ {l m : List Nat}, subN l m = true → ∀ k, k ∈ l → k ∈ m
  | [], _, _, k, h => by simp at h
  | a :: l, m, h, k, hk => by
    simp only [subN] at h
    cases ha : elemN a m with
    | false => rw [ha] at h; simp at h
    | true =>
      rw [ha] at h
      rcases List.mem_cons.1 hk with rfl | hk
      · exact elemN_mem ha
      · exact subN_mem h k hk

def okAll : List Operand → Bool
  | [] => true
  | x :: l => bif okO x then okAll l else false

theorem okAll_mem : ∀ {l : List Operand}, okAll l = true → ∀ x, x ∈ l → okO x = true
  | [], _, x, h => by simp at h
  | y :: l, h, x, hx => by
    simp only [okAll] at h
    cases hy : okO y with
    | false => rw [hy] at h; simp at h
    | true =>
      rw [hy] at h
      rcases List.mem_cons.1 hx with rfl | hx
      · exact hy
      · exact okAll_mem h x hx

def ltO (d : Option Nat) (n : Nat) : Bool := match d with | none => true | some d => Nat.blt d n

def compG (ops : Array Oper) (nt : Nat) (g : Option (Nat × Bool)) : Option (Option (Nat × Bool)) := match g with
  | none => some none
  | some (j, b) => match (ops[j]?).bind (·.dst) with
    | some d => bif Nat.blt d nt then some (some (d, b)) else none
    | none => none

/-- an operation made ready -/
def compC (tt : T TI) (ops : Array Oper) (nt : Nat) (o : Oper) : Option COp := match compOp tt o, compG ops nt o.guard with
  | some io, some g => bif okAll o.op.operands.toList && subN (tmpsOf io.ops) (tmpsOf o.op.operands.toList) && ltO o.dst nt then some ⟨o.dst, io, g⟩ else none
  | _, _ => none

theorem compC_ok {tt : T TI} {ops : Array Oper} {nt : Nat} {o : Oper} {c : COp} (h : compC tt ops nt o = some c) : COk tt ops nt o c := by
  unfold compC at h
  split at h
  case h_2 => simp at h
  rename_i io g hio hg
  obtain ⟨h1, h2⟩ := bif_some h
  simp only [Bool.and_eq_true] at h1
  simp only [Option.some.injEq] at h2; subst h2
  refine ⟨hio, fun x hx => okAll_mem h1.1.1 x (by simpa using hx), subN_mem h1.1.2, rfl, ?_, ?_⟩
  · intro d hd
    have h3 := h1.2
    have hd' : o.dst = some d := hd
    rw [hd'] at h3
    exact blt_lt h3
  · unfold compG at hg
    split at hg
    · rename_i hgn
      simp only [Option.some.injEq] at hg; subst hg
      exact .inl ⟨hgn, rfl⟩
    · rename_i j b hgn
      split at hg
      case h_2 => simp at hg
      rename_i d hd
      obtain ⟨h4, h5⟩ := bif_some hg
      simp only [Option.some.injEq] at h5; subst h5
      exact .inr ⟨j, b, d, hgn, hd, rfl, blt_lt h4⟩

/-! ## Plans -/
structure Ent where
  i : Nat
  o : Oper
  c : COp
  hv : Bool
  u : Nat
  /-- what is ordered ahead of it -/
  b : Nat

def edgeBits (bs : List Nat) : List Edge → Nat → Nat
  | [], s => s
  | e :: l, s => edgeBits bs l (bif Region.binds .any e then Nat.lor (Nat.lor s (Nat.shiftLeft 1 e.on)) ((nth bs e.on).getD 0) else s)

/-- the closure of the edges, in the order of the text -/
def befs : List Oper → List Nat → List Nat
  | [], acc => acc
  | o :: l, acc => befs l (acc ++ [edgeBits acc o.after.toList 0])

theorem bit_one {j k : Nat} : (Nat.shiftLeft 1 k).testBit j = true → j = k := by
  intro h
  have : (1 <<< k).testBit j = true := h
  rw [Nat.shiftLeft_eq, Nat.one_mul, Nat.testBit_two_pow] at this
  simpa using (of_decide_eq_true (by simpa using this) : k = j).symm

theorem edgeBits_sound {ops : Array Oper} {i : Nat} {o : Oper} (ho : ops[i]? = some o) {bs : List Nat} (hbs : ∀ k b, nth bs k = some b → ∀ j, b.testBit j = true → Bef ops j k) :
    ∀ (l : List Edge) (s : Nat), (∀ e, e ∈ l → e ∈ o.after) → (∀ j, s.testBit j = true → Bef ops j i) → ∀ j, (edgeBits bs l s).testBit j = true → Bef ops j i
  | [], s, _, hs, j, h => hs j h
  | e :: l, s, hl, hs, j, h => by
    simp only [edgeBits] at h
    refine edgeBits_sound ho hbs l _ (fun e' he' => hl e' (by simp [he'])) ?_ j h
    intro j hj
    cases hb : Region.binds .any e with
    | false => rw [hb] at hj; exact hs j hj
    | true =>
      rw [hb] at hj
      simp only [cond_true] at hj
      have hj' : ((s ||| Nat.shiftLeft 1 e.on) ||| (nth bs e.on).getD 0).testBit j = true := hj
      rw [Nat.testBit_or, Nat.testBit_or] at hj'
      simp only [Bool.or_eq_true] at hj'
      have hedge : Bef ops e.on i := .edge i e.on o e ho (hl e (by simp)) hb rfl
      rcases hj' with (h1 | h1) | h1
      · exact hs j h1
      · rw [bit_one h1]; exact hedge
      · cases hn : nth bs e.on with
        | none => rw [hn] at h1; simp at h1
        | some b =>
          rw [hn] at h1
          exact .trans _ _ _ (hbs _ b hn j h1) hedge

theorem befs_sound {ops : Array Oper} : ∀ (l : List Oper) (acc : List Nat) (n : Nat), acc.length = n → (∀ k o, l[k]? = some o → ops[n + k]? = some o) →
    (∀ k b, nth acc k = some b → ∀ j, b.testBit j = true → Bef ops j k) → ∀ k b, nth (befs l acc) k = some b → ∀ j, b.testBit j = true → Bef ops j k
  | [], acc, n, _, _, hacc => hacc
  | o :: l, acc, n, hn, hl, hacc => by
    simp only [befs]
    refine befs_sound l _ (n + 1) (by simp [hn]) (fun k o' h => by have := hl (k + 1) o' (by simpa using h); rwa [show n + (k + 1) = n + 1 + k by omega] at this) ?_
    intro k b hk j hj
    rw [nth_eq] at hk
    by_cases hlt : k < acc.length
    · rw [List.getElem?_append_left hlt, ← nth_eq] at hk
      exact hacc k b hk j hj
    · rw [List.getElem?_append_right (by omega)] at hk
      have hk0 : k = acc.length := by
        cases hkk : k - acc.length with
        | zero => omega
        | succ m => rw [hkk] at hk; simp at hk
      rw [hk0, Nat.sub_self] at hk
      simp only [List.getElem?_cons_zero, Option.some.injEq] at hk
      subst hk
      rw [hk0, hn]
      have ho := hl 0 o (by simp)
      exact edgeBits_sound (by simpa using ho) hacc _ _ (fun e he => by simpa using he) (by simp) j hj

def allEdges (mask : Nat) : List Edge → Bool
  | [] => true
  | e :: l => bif Region.binds .any e then (bif Nat.testBit mask e.on then allEdges mask l else false) else allEdges mask l

/-- the writer of a temporary, and its bits -/
def writer (k : Nat) : List Ent → Option (Nat × Nat)
  | [] => none
  | e :: l => match e.c.dst with
    | some d => bif Nat.beq d k then some (e.i, e.b) else writer k l
    | none => writer k l

def readsOk (all : List Ent) (i b : Nat) : List Nat → Bool
  | [] => true
  | k :: l => match writer k all with
    | none => readsOk all i b l
    | some (i', b') => bif Nat.beq i i' then readsOk all i b l else bif Nat.testBit b i' then readsOk all i b l else bif Nat.testBit b' i then readsOk all i b l else false

def heaviesOk (b : Nat) : List Nat → Bool
  | [] => true
  | i :: l => bif Nat.testBit b i then heaviesOk b l else false

def dropL {α : Type} : Nat → List α → List α
  | 0, l => l
  | _ + 1, [] => []
  | n + 1, _ :: l => dropL n l

theorem dropL_eq {α : Type} : ∀ (n : Nat) (l : List α), dropL n l = l.drop n
  | 0, l => by simp [dropL]
  | n + 1, [] => by simp [dropL]
  | n + 1, a :: l => by simp [dropL, dropL_eq n l]

def setDst (dm : Nat) (d : Option Nat) : Option Nat := match d with
  | none => some dm
  | some d => bif Nat.testBit dm d then none else some (Nat.lor dm (Nat.shiftLeft 1 d))

/-- one by one: mask: the places done; dm: the temporaries written; hs: the heavy ones done -/
def entsOk (n : Nat) (all : List Ent) : List Ent → Nat → Nat → List Nat → Bool
  | [], mask, _, _ => Nat.beq mask (Nat.sub (Nat.shiftLeft 1 n) 1)
  | e :: l, mask, dm, hs => match setDst dm e.c.dst with
    | none => false
    | some dm' =>
      bif Nat.blt e.i n && !Nat.testBit mask e.i && allEdges mask e.o.after.toList && readsOk all e.i e.b (e.c.reads e.o)
          && (bif e.hv then Nat.beq (Nat.land mask e.b) mask else true) && (bif isLoad e.c.io then heaviesOk e.b (dropL e.u hs) else true) && (bif isHeavy e.c.io then e.hv else !e.hv)
      then entsOk n all l (Nat.lor mask (Nat.shiftLeft 1 e.i)) dm' (bif e.hv then e.i :: hs else hs) else false

end Go.Ab
