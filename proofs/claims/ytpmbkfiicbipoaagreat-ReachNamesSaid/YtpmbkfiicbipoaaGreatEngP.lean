/- A part of the proof. The abstract machine: regions whose order is drawn. Part 1: what a cut of the relation keeps; the light operations. No condition. -/
import Derived.Test.YtpmbkfiicbipoaaGreatEngO
/-! The abstract machine: regions whose order is drawn. Part 1: what a cut of the relation keeps; the light operations. -/
namespace Go.Ab

def cut (ψ : Phi) (M : Nat) : Phi := fun i => if i < M then ψ i else none

theorem cut_le (ψ : Phi) (M : Nat) : (cut ψ M).le ψ := by
  intro i im h
  unfold cut at h
  split at h
  · exact h
  · simp at h

theorem cut_some {ψ : Phi} {M i : Nat} {im : Img} (h : ψ i = some im) (hlt : i < M) : cut ψ M i = some im := by simp [cut, hlt, h]

mutual
theorem VRel.bound {ψ φg : Phi} {M : Nat} (hb : ∀ i im, φg i = some im → i < M) : ∀ {v v' u : Value}, VRel ψ v v' → VRel φg v u → VRel (cut ψ M) v v'
  | _, _, _, .bool b, _ => .bool b
  | _, _, _, .int k n, _ => .int k n
  | _, _, _, .float k b, _ => .float k b
  | _, _, _, .nan k b c h1 h2, _ => .nan k b c h1 h2
  | _, _, _, .complex k a b, _ => .complex k a b
  | _, _, _, .string s, _ => .string s
  | _, _, _, .ptrNil, _ => .ptrNil
  | _, _, _, .ptr a b ⟨im, h, hb', hs⟩, .ptr _ _ ⟨_, h2, _, _⟩ => .ptr a b ⟨im, cut_some h (hb _ _ h2), hb', hs⟩
  | _, _, _, .sliceNil l c, _ => .sliceNil l c
  | _, _, _, .slice a b l c c' im h hb' hs hc hl, .slice _ _ _ _ _ _ h2 _ _ _ _ => .slice a b l c c' im (cut_some h (hb _ _ h2)) hb' hs hc hl
  | _, _, _, .mapNil, _ => .mapNil
  | _, _, _, .map r r' g h, .map _ _ _ h2 => .map r r' g (cut_some h (hb _ _ h2))
  | _, _, _, .func f a b c d h1 h2, .func _ _ _ _ _ k1 k2 => .func f a b c d (LRel.bound hb h1 k1) (LRel.bound hb h2 k2)
  | _, _, _, .nilFunc, _ => .nilFunc
  | _, _, _, .iface t v w h, .iface _ _ _ k => .iface t v w (VRel.bound hb h k)
  | _, _, _, .nilIface, _ => .nilIface
  | _, _, _, .agg a b h, .agg _ _ k => .agg a b (LRel.bound hb h k)
  | _, _, _, .tuple a b h, .tuple _ _ k => .tuple a b (LRel.bound hb h k)
theorem LRel.bound {ψ φg : Phi} {M : Nat} (hb : ∀ i im, φg i = some im → i < M) : ∀ {v v' u : List Value}, LRel ψ v v' → LRel φg v u → LRel (cut ψ M) v v'
  | _, _, _, .nil, _ => .nil
  | _, _, _, .cons v w l m h t, .cons _ _ _ _ k s => .cons v w l m (VRel.bound hb h k) (LRel.bound hb t s)
end

theorem MRel.bound {ψ φg : Phi} {M : Nat} (hb : ∀ i im, φg i = some im → i < M) : ∀ {v : List (Value × Value)} {v' u : List MapEntry}, MRel ψ v v' → MRel φg v u → MRel (cut ψ M) v v'
  | [], [], [], _, _ => trivial
  | (_, _) :: _, _ :: _, _ :: _, ⟨h1, h2, h3⟩, ⟨k1, k2, k3⟩ => ⟨h1.bound hb k1, h2.bound hb k2, MRel.bound hb h3 k3⟩
  | [], _ :: _, _, h, _ => h.elim
  | _ :: _, [], _, h, _ => h.elim
  | [], [], _ :: _, _, k => k.elim
  | _ :: _, _ :: _, [], _, k => k.elim

theorem CRel.bound {ψ φg : Phi} {M : Nat} (hb : ∀ i im, φg i = some im → i < M) {c : List Value} {x y : Array Value} (h : CRel ψ c x) (k : CRel φg c y) : CRel (cut ψ M) c x := by
  intro j v hj
  obtain ⟨v', h1, h2⟩ := h j v hj
  obtain ⟨u, _, k2⟩ := k j v hj
  exact ⟨v', h1, h2.bound hb k2⟩

theorem CRel.mono {φ ψ : Phi} (hle : φ.le ψ) {c : List Value} {x : Array Value} (h : CRel φ c x) : CRel ψ c x := by
  intro j v hj
  obtain ⟨v', h1, h2⟩ := h j v hj
  exact ⟨v', h1, h2.mono hle⟩

def isLoad : IOp → Bool | .load .. => true | _ => false
def isAlloc : IOp → Bool | .alloc _ | .box _ | .buildSl .. | .makeSl .. | .makeMap => true | _ => false
def isHeavy (io : IOp) : Bool := !(isPure io || isLoad io || isAlloc io)

theorem alloc_any {t : Fm} {h h' : Heap} {io : IOp} {v : Value} (ha : isAlloc io = true) (hm : memV t h io = some (v, h')) :
    ∃ b, b ≠ .gone ∧ h' = h.push b ∧ ∀ h2 : Heap, h2.next = h.next → memV t h2 io = some (v, h2.push b) := by
  cases io <;> simp only [isAlloc, Bool.false_eq_true] at ha
  case alloc z =>
    simp only [memV, Option.some.injEq, Prod.mk.injEq] at hm
    obtain ⟨rfl, rfl⟩ := hm
    exact ⟨_, by simp, rfl, fun h2 hn => by simp only [memV, hn]⟩
  case box x =>
    simp only [memV, Option.some.injEq, Prod.mk.injEq] at hm
    obtain ⟨rfl, rfl⟩ := hm
    exact ⟨_, by simp, rfl, fun h2 hn => by simp only [memV, hn]⟩
  case buildSl len cells ps =>
    simp only [memV] at hm
    cases hf : fillP t ps cells with
    | none => rw [hf] at hm; simp at hm
    | some c =>
      rw [hf] at hm
      simp only [Option.some.injEq, Prod.mk.injEq] at hm
      obtain ⟨rfl, rfl⟩ := hm
      exact ⟨_, by simp, rfl, fun h2 hn => by simp only [memV, hf, hn]⟩
  case makeSl l c es eb z =>
    simp only [memV] at hm
    split at hm
    case h_2 => simp at hm
    rename_i l' c' hl hc
    obtain ⟨g, hm⟩ := bif_some hm
    simp only [Option.some.injEq, Prod.mk.injEq] at hm
    obtain ⟨rfl, rfl⟩ := hm
    exact ⟨_, by simp, rfl, fun h2 hn => by simp only [memV, hl, hc, g, cond_true, hn]⟩
  case makeMap =>
    simp only [memV, Option.some.injEq, Prod.mk.injEq] at hm
    obtain ⟨rfl, rfl⟩ := hm
    exact ⟨_, by simp, rfl, fun h2 hn => by simp only [memV, hn]⟩

theorem isPure_not {io : IOp} (h : isPure io = true) : isLoad io = false ∧ isAlloc io = false ∧ isMem io = false ∧ ∀ tt t, callee tt t io = none := by
  cases io <;> first | (simp [isPure] at h; done) | exact ⟨rfl, rfl, rfl, fun _ _ => rfl⟩

theorem isAlloc_not {io : IOp} (h : isAlloc io = true) : isPure io = false ∧ ∀ tt t, callee tt t io = none := by
  cases io <;> first | (simp [isAlloc] at h; done) | exact ⟨rfl, fun _ _ => rfl⟩

theorem isLoad_not {io : IOp} (h : isLoad io = true) : isPure io = false ∧ isAlloc io = false ∧ isMem io = true ∧ ∀ tt t, callee tt t io = none := by
  cases io <;> first | (simp [isLoad] at h; done) | exact ⟨rfl, rfl, rfl, fun _ _ => rfl⟩

/-- what a light operation does to the machine's memory -/
theorem light_heap {P : Program} {tt : T TI} {t : Fm} {h h' : Heap} {io : IOp} {v : Value} (hl : isHeavy io = false) (hr : OpRes P tt t h io v h') :
    (isAlloc io = false ∧ h' = h) ∨ (isAlloc io = true ∧ ∃ b, b ≠ .gone ∧ h' = h.push b ∧ ∀ h2 : Heap, h2.next = h.next → OpRes P tt t h2 io v (h2.push b)) := by
  cases hp : isPure io with
  | true =>
    obtain ⟨p1, p2, p3, p4⟩ := isPure_not hp
    rcases hr with ⟨_, _, rfl⟩ | ⟨hm, _⟩ | ⟨f, args, hc, _⟩
    · exact .inl ⟨p2, rfl⟩
    · rw [p3] at hm; simp at hm
    · rw [p4] at hc; simp at hc
  | false =>
    cases hld : isLoad io with
    | true =>
      obtain ⟨p1, p2, p3, p4⟩ := isLoad_not hld
      rcases hr with ⟨hq, _⟩ | ⟨_, hm⟩ | ⟨f, args, hc, _⟩
      · rw [p1] at hq; simp at hq
      · refine .inl ⟨p2, ?_⟩
        cases io <;> simp only [isLoad, Bool.false_eq_true] at hld
        simp only [memV] at hm
        split at hm
        · split at hm
          · split at hm
            · simp only [Option.some.injEq, Prod.mk.injEq] at hm; exact hm.2.symm
            · simp at hm
          · split at hm
            · simp only [Option.some.injEq, Prod.mk.injEq] at hm; exact hm.2.symm
            · simp at hm
        · simp at hm
      · rw [p4] at hc; simp at hc
    | false =>
      have ha : isAlloc io = true := by simp [isHeavy, hp, hld] at hl; exact hl
      obtain ⟨p1, p4⟩ := isAlloc_not ha
      rcases hr with ⟨hq, _⟩ | ⟨hi, hm⟩ | ⟨f, args, hc, _⟩
      · rw [p1] at hq; simp at hq
      · obtain ⟨b, b1, b2, b3⟩ := alloc_any ha hm
        exact .inr ⟨ha, b, b1, b2, fun h2 hn => .inr (.inl ⟨hi, b3 h2 hn⟩)⟩
      · rw [p4] at hc; simp at hc

/-- ordered by the region's edges, at once or by others -/
inductive Bef (ops : Array Oper) : Nat → Nat → Prop where
  | edge (i j : Nat) (o : Oper) (e : Edge) (ho : ops[i]? = some o) (he : e ∈ o.after) (hb : Region.binds .any e = true) (hj : e.on = j) : Bef ops j i
  | trans (i j k : Nat) (h1 : Bef ops i j) (h2 : Bef ops j k) : Bef ops i k

end Go.Ab
