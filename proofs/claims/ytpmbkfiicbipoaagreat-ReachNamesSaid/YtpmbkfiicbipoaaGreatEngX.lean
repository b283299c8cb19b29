/- A part of the proof. The quick machine: frames, memory. All by recursors, for the kernel. No condition. -/
import Derived.Test.YtpmbkfiicbipoaaGreatEngW
/-! The quick machine: frames, memory. All by recursors, for the kernel. -/
namespace Go.Ab
set_option linter.unusedVariables false

inductive R where
  | fail (why : String)
  | yes

inductive B8 (α : Type) where
  | mk (a0 a1 a2 a3 a4 a5 a6 a7 : α)

abbrev Fr := B8 (B8 (B8 Value))

structure Pick (α : Type) where
  f : B8 α → α
noncomputable def pk {α : Type} (d : Nat) : Pick α :=
  Nat.rec ⟨fun s => B8.rec (motive := fun _ => α) (fun a0 _ _ _ _ _ _ _ => a0) s⟩ (fun d _ =>
  Nat.rec ⟨fun s => B8.rec (motive := fun _ => α) (fun _ a1 _ _ _ _ _ _ => a1) s⟩ (fun d _ =>
  Nat.rec ⟨fun s => B8.rec (motive := fun _ => α) (fun _ _ a2 _ _ _ _ _ => a2) s⟩ (fun d _ =>
  Nat.rec ⟨fun s => B8.rec (motive := fun _ => α) (fun _ _ _ a3 _ _ _ _ => a3) s⟩ (fun d _ =>
  Nat.rec ⟨fun s => B8.rec (motive := fun _ => α) (fun _ _ _ _ a4 _ _ _ => a4) s⟩ (fun d _ =>
  Nat.rec ⟨fun s => B8.rec (motive := fun _ => α) (fun _ _ _ _ _ a5 _ _ => a5) s⟩ (fun d _ =>
  Nat.rec ⟨fun s => B8.rec (motive := fun _ => α) (fun _ _ _ _ _ _ a6 _ => a6) s⟩ (fun d _ =>
    ⟨fun s => B8.rec (motive := fun _ => α) (fun _ _ _ _ _ _ _ a7 => a7) s⟩) d) d) d) d) d) d) d

structure Up (α : Type) where
  f : (α → α) → B8 α → B8 α
noncomputable def upd {α : Type} (d : Nat) : Up α :=
  Nat.rec ⟨fun u s => B8.rec (motive := fun _ => B8 α) (fun a0 a1 a2 a3 a4 a5 a6 a7 => .mk (u a0) a1 a2 a3 a4 a5 a6 a7) s⟩ (fun d _ =>
  Nat.rec ⟨fun u s => B8.rec (motive := fun _ => B8 α) (fun a0 a1 a2 a3 a4 a5 a6 a7 => .mk a0 (u a1) a2 a3 a4 a5 a6 a7) s⟩ (fun d _ =>
  Nat.rec ⟨fun u s => B8.rec (motive := fun _ => B8 α) (fun a0 a1 a2 a3 a4 a5 a6 a7 => .mk a0 a1 (u a2) a3 a4 a5 a6 a7) s⟩ (fun d _ =>
  Nat.rec ⟨fun u s => B8.rec (motive := fun _ => B8 α) (fun a0 a1 a2 a3 a4 a5 a6 a7 => .mk a0 a1 a2 (u a3) a4 a5 a6 a7) s⟩ (fun d _ =>
  Nat.rec ⟨fun u s => B8.rec (motive := fun _ => B8 α) (fun a0 a1 a2 a3 a4 a5 a6 a7 => .mk a0 a1 a2 a3 (u a4) a5 a6 a7) s⟩ (fun d _ =>
  Nat.rec ⟨fun u s => B8.rec (motive := fun _ => B8 α) (fun a0 a1 a2 a3 a4 a5 a6 a7 => .mk a0 a1 a2 a3 a4 (u a5) a6 a7) s⟩ (fun d _ =>
  Nat.rec ⟨fun u s => B8.rec (motive := fun _ => B8 α) (fun a0 a1 a2 a3 a4 a5 a6 a7 => .mk a0 a1 a2 a3 a4 a5 (u a6) a7) s⟩ (fun d _ =>
    ⟨fun u s => B8.rec (motive := fun _ => B8 α) (fun a0 a1 a2 a3 a4 a5 a6 a7 => .mk a0 a1 a2 a3 a4 a5 a6 (u a7)) s⟩) d) d) d) d) d) d) d

theorem lt8 {i : Nat} (h : i < 8) : i = 0 ∨ i = 1 ∨ i = 2 ∨ i = 3 ∨ i = 4 ∨ i = 5 ∨ i = 6 ∨ i = 7 := by omega

theorem pk_upd {α : Type} {i j : Nat} (hi : i < 8) (hj : j < 8) (u : α → α) (s : B8 α) : (pk i).f ((upd j).f u s) = if i = j then u ((pk i).f s) else (pk i).f s := by
  cases s
  rcases lt8 hi with rfl | rfl | rfl | rfl | rfl | rfl | rfl | rfl <;> rcases lt8 hj with rfl | rfl | rfl | rfl | rfl | rfl | rfl | rfl <;> rfl

noncomputable def frGet (s : Fr) (k : Nat) : Value := (pk (α := Value) (Nat.mod k 8)).f ((pk (α := B8 Value) (Nat.mod (Nat.div k 8) 8)).f ((pk (α := B8 (B8 Value)) (Nat.div k 64)).f s))

noncomputable def frPut (s : Fr) (k : Nat) (v : Value) : Fr := (upd (α := B8 (B8 Value)) (Nat.div k 64)).f ((upd (α := B8 Value) (Nat.mod (Nat.div k 8) 8)).f ((upd (α := Value) (Nat.mod k 8)).f fun _ => v)) s

theorem frGet_put (s : Fr) {d k : Nat} (hd : d < 512) (hk : k < 512) (v : Value) : frGet (frPut s d v) k = if k = d then v else frGet s k := by
  unfold frGet frPut
  have a1 : Nat.div k 64 < 8 := by show k / 64 < 8; omega
  have a2 : Nat.div d 64 < 8 := by show d / 64 < 8; omega
  have b1 : Nat.mod (Nat.div k 8) 8 < 8 := Nat.mod_lt _ (by omega)
  have b2 : Nat.mod (Nat.div d 8) 8 < 8 := Nat.mod_lt _ (by omega)
  have c1 : Nat.mod k 8 < 8 := Nat.mod_lt _ (by omega)
  have c2 : Nat.mod d 8 < 8 := Nat.mod_lt _ (by omega)
  rw [pk_upd a1 a2]
  by_cases h1 : Nat.div k 64 = Nat.div d 64
  · rw [if_pos h1, pk_upd b1 b2]
    by_cases h2 : Nat.mod (Nat.div k 8) 8 = Nat.mod (Nat.div d 8) 8
    · rw [if_pos h2, pk_upd c1 c2]
      by_cases h3 : Nat.mod k 8 = Nat.mod d 8
      · rw [if_pos h3, if_pos]
        have h1' : k / 64 = d / 64 := h1
        have h2' : k / 8 % 8 = d / 8 % 8 := h2
        have h3' : k % 8 = d % 8 := h3
        omega
      · rw [if_neg h3, if_neg (fun e => h3 (by rw [e]))]
    · rw [if_neg h2, if_neg (fun e => h2 (by rw [e]))]
  · rw [if_neg h1, if_neg (fun e => h1 (by rw [e]))]

noncomputable def tOf (s : Fr) : Fm := fun k => bif Nat.blt k 512 then frGet s k else undef

structure X where
  f : Fr → Value

noncomputable def tmpX (k : Nat) : X :=
  Bool.rec (motive := fun _ => X) ⟨fun _ => undef⟩ (Pick.rec (motive := fun _ => X) (fun p2 => Pick.rec (motive := fun _ => X) (fun p1 => Pick.rec (motive := fun _ => X) (fun p0 => ⟨fun t => p0 (p1 (p2 t))⟩)
    (pk (α := Value) (Nat.mod k 8))) (pk (α := B8 Value) (Nat.mod (Nat.div k 8) 8))) (pk (α := B8 (B8 Value)) (Nat.div k 64))) (Nat.blt k 512)

theorem tmpX_f (k : Nat) : (tmpX k).f = fun s => tOf s k := by
  funext s
  unfold tmpX tOf
  cases Nat.blt k 512 <;> rfl

noncomputable def opX (o : Operand) : X := match o with
  | .tmp k => tmpX k
  | .const v => ⟨fun _ => v⟩
  | .func f => ⟨fun _ => .func (.func f) #[] #[]⟩
  | .global _ => ⟨fun _ => undef⟩

theorem opX_f (o : Operand) : (opX o).f = fun s => evalO (tOf s) o := by
  cases o with
  | tmp k => exact tmpX_f k
  | _ => rfl

structure Pt where
  f : Fr → Value → Fr
noncomputable def putX (d : Option Nat) : Pt := match d with
  | none => ⟨fun t _ => t⟩
  | some k => Up.rec (motive := fun _ => Pt) (fun p2 => Up.rec (motive := fun _ => Pt) (fun p1 => Up.rec (motive := fun _ => Pt) (fun p0 => ⟨fun t v => p2 (p1 (p0 (fun _ => v))) t⟩)
    (upd (α := Value) (Nat.mod k 8))) (upd (α := B8 Value) (Nat.mod (Nat.div k 8) 8))) (upd (α := B8 (B8 Value)) (Nat.div k 64))

theorem putX_f {d : Option Nat} (hd : ltO d 512 = true) (s : Fr) (v : Value) : tOf ((putX d).f s v) = putT (tOf s) d v := by
  cases d with
  | none => rfl
  | some d =>
    have hlt := blt_lt hd
    funext k
    show tOf (frPut s d v) k = _
    simp only [tOf, putT]
    cases hk : Nat.blt k 512 with
    | true =>
      simp only [cond_true]
      rw [frGet_put s hlt (blt_lt hk)]
      by_cases h : k = d
      · subst h; simp
      · have : Nat.beq k d = false := by cases hb : Nat.beq k d <;> simp_all
        rw [if_neg h, this]; rfl
    | false =>
      have hne : Nat.beq k d = false := by
        cases hb : Nat.beq k d with
        | false => rfl
        | true =>
          rw [beq_eq' hb] at hk
          rw [show Nat.blt d 512 = true from hd] at hk; simp at hk
      rw [hne]; rfl

/-! ## Memory -/
section
variable {α : Type}
noncomputable def T.getR (t : T α) (k : Nat) : Option α :=
  T.rec (motive := fun _ => Nat → Option α) (fun _ => none)
    (fun v _ _ gl gr k => Nat.rec (motive := fun _ => Option α) v (fun k _ => Bool.rec (motive := fun _ => Option α) (gr (Nat.div k 2)) (gl (Nat.div k 2)) (Nat.beq (Nat.mod k 2) 0)) k) t k

theorem T.getR_eq : ∀ (t : T α) (k : Nat), T.getR t k = t.get k
  | .e, k => by cases k <;> rfl
  | .n v l r, 0 => rfl
  | .n v l r, k + 1 => by
    show Bool.rec (motive := fun _ => Option α) (T.getR r (Nat.div k 2)) (T.getR l (Nat.div k 2)) (Nat.beq (Nat.mod k 2) 0) = _
    rw [T.getR_eq l, T.getR_eq r]
    simp only [T.get]
    cases Nat.beq (Nat.mod k 2) 0 <;> rfl

noncomputable def T.setR (v : α) (d : Nat) (t : T α) (k : Nat) : T α :=
  Nat.rec (motive := fun _ => T α → Nat → T α) (fun t _ => t)
    (fun _ ih t k => Nat.rec (motive := fun _ => T α)
      (T.rec (motive := fun _ => T α) (.n (some v) .e .e) (fun _ l r _ _ => .n (some v) l r) t)
      (fun k _ => T.rec (motive := fun _ => T α)
        (Bool.rec (motive := fun _ => T α) (.n none .e (ih .e (Nat.div k 2))) (.n none (ih .e (Nat.div k 2)) .e) (Nat.beq (Nat.mod k 2) 0))
        (fun w l r _ _ => Bool.rec (motive := fun _ => T α) (.n w l (ih r (Nat.div k 2))) (.n w (ih l (Nat.div k 2)) r) (Nat.beq (Nat.mod k 2) 0)) t) k) d t k

theorem T.setR_eq (v : α) : ∀ (d : Nat) (t : T α) (k : Nat), T.setR v d t k = T.setF v d t k
  | 0, t, k => rfl
  | d + 1, t, 0 => by cases t <;> rfl
  | d + 1, t, k + 1 => by
    cases t with
    | e =>
      show Bool.rec (motive := fun _ => T α) (.n none .e (T.setR v d .e (Nat.div k 2))) (.n none (T.setR v d .e (Nat.div k 2)) .e) (Nat.beq (Nat.mod k 2) 0) = _
      rw [T.setR_eq v d]
      simp only [T.setF]
      cases Nat.beq (Nat.mod k 2) 0 <;> rfl
    | n w l r =>
      show Bool.rec (motive := fun _ => T α) (.n w l (T.setR v d r (Nat.div k 2))) (.n w (T.setR v d l (Nat.div k 2)) r) (Nat.beq (Nat.mod k 2) 0) = _
      rw [T.setR_eq v d, T.setR_eq v d]
      simp only [T.setF]
      cases Nat.beq (Nat.mod k 2) 0 <;> rfl

theorem T.getR_setR (v : α) (t : T α) (k j : Nat) : T.getR (T.setR v (Nat.succ k) t k) j = if j = k then some v else T.getR t j := by
  rw [T.setR_eq, T.getR_eq, T.getR_eq]; exact T.get_setF v (k + 1) t k (by omega) j

noncomputable def nthR (l : List α) (i : Nat) : Option α :=
  List.rec (motive := fun _ => Nat → Option α) (fun _ => none) (fun a _ ih i => Nat.rec (motive := fun _ => Option α) (some a) (fun j _ => ih j) i) l i
theorem nthR_eq : ∀ (l : List α) (i : Nat), nthR l i = nth l i
  | [], i => by cases i <;> rfl
  | a :: l, 0 => rfl
  | a :: l, i + 1 => by show nthR l i = _; rw [nthR_eq l i]; rfl

noncomputable def put1R (v : α) (l : List α) (i : Nat) : Option (List α) :=
  List.rec (motive := fun _ => Nat → Option (List α)) (fun _ => none) (fun a l ih i => Nat.rec (motive := fun _ => Option (List α)) (some (v :: l)) (fun j _ => Option.rec (motive := fun _ => Option (List α)) none (fun r => some (a :: r)) (ih j)) i) l i
theorem put1R_eq (v : α) : ∀ (l : List α) (i : Nat), put1R v l i = putAt [v] i l
  | [], 0 => rfl
  | [], i + 1 => rfl
  | a :: l, 0 => by cases l <;> rfl
  | a :: l, i + 1 => by
    show Option.rec (motive := fun _ => Option (List α)) none (fun r => some (a :: r)) (put1R v l i) = _
    rw [put1R_eq v l i]
    simp only [putAt]
    cases putAt [v] i l <;> rfl

noncomputable def dropR (n : Nat) (l : List α) : List α :=
  Nat.rec (motive := fun _ => List α → List α) (fun l => l) (fun _ ih l => List.rec (motive := fun _ => List α) [] (fun _ l _ => ih l) l) n l
theorem dropR_eq : ∀ (n : Nat) (l : List α), dropR n l = dropN n l
  | 0, l => rfl
  | n + 1, [] => rfl
  | n + 1, a :: l => dropR_eq n l

noncomputable def takeR (n : Nat) (l : List α) : Option (List α) :=
  Nat.rec (motive := fun _ => List α → Option (List α)) (fun _ => some []) (fun _ ih l => List.rec (motive := fun _ => Option (List α)) none (fun a l _ => Option.rec (motive := fun _ => Option (List α)) none (fun r => some (a :: r)) (ih l)) l) n l
theorem takeR_eq : ∀ (n : Nat) (l : List α), takeR n l = takeN n l
  | 0, l => rfl
  | n + 1, [] => rfl
  | n + 1, a :: l => by
    show Option.rec (motive := fun _ => Option (List α)) none (fun r => some (a :: r)) (takeR n l) = _
    rw [takeR_eq n l]
    simp only [takeN]
    cases takeN n l <;> rfl

noncomputable def overR (vs : List α) (l : List α) : Option (List α) :=
  List.rec (motive := fun _ => List α → Option (List α)) (fun l => some l) (fun v _ ih l => List.rec (motive := fun _ => Option (List α)) none (fun _ l _ => Option.rec (motive := fun _ => Option (List α)) none (fun r => some (v :: r)) (ih l)) l) vs l
theorem overR_eq : ∀ (vs l : List α), overR vs l = over vs l
  | [], l => rfl
  | v :: vs, [] => rfl
  | v :: vs, a :: l => by
    show Option.rec (motive := fun _ => Option (List α)) none (fun r => some (v :: r)) (overR vs l) = _
    rw [overR_eq vs l]
    simp only [over]
    cases over vs l <;> rfl

noncomputable def putR (vs : List α) (l : List α) (i : Nat) : Option (List α) :=
  Nat.rec (motive := fun _ => List α → Option (List α)) (fun l => overR vs l) (fun _ ih l => List.rec (motive := fun _ => Option (List α)) none (fun a l _ => Option.rec (motive := fun _ => Option (List α)) none (fun r => some (a :: r)) (ih l)) l) i l
theorem putR_eq (vs : List α) : ∀ (i : Nat) (l : List α), putR vs l i = putAt vs i l
  | 0, l => by show overR vs l = _; rw [overR_eq]; cases l <;> rfl
  | i + 1, [] => rfl
  | i + 1, a :: l => by
    show Option.rec (motive := fun _ => Option (List α)) none (fun r => some (a :: r)) (putR vs l i) = _
    rw [putR_eq vs i l]
    simp only [putAt]
    cases putAt vs i l <;> rfl

noncomputable def lenR (l : List α) : Nat := List.rec (motive := fun _ => Nat) 0 (fun _ _ n => Nat.succ n) l
theorem lenR_eq : ∀ (l : List α), lenR l = l.length
  | [] => rfl
  | a :: l => by show Nat.succ (lenR l) = _; rw [lenR_eq l]; rfl
end

structure FH where
  next : Nat
  t : T Blk

noncomputable def hOf (h : FH) : Heap := ⟨h.next, fun i => T.getR h.t i⟩

theorem Heap.ext' {a b : Heap} (h1 : a.next = b.next) (h2 : ∀ i, a.blks i = b.blks i) : a = b := by
  cases a; cases b
  simp only [Heap.mk.injEq]
  exact ⟨h1, funext h2⟩

noncomputable def pushF (h : FH) (b : Blk) : FH := FH.rec (motive := fun _ => FH) (fun n t => ⟨Nat.succ n, T.setR b (Nat.succ n) t n⟩) h
theorem pushF_eq (h : FH) (b : Blk) : hOf (pushF h b) = (hOf h).push b := by
  refine Heap.ext' rfl fun i => ?_
  rw [Heap.get_push]
  exact T.getR_setR b h.t h.next i

noncomputable def setF (h : FH) (k : Nat) (b : Blk) : FH := FH.rec (motive := fun _ => FH) (fun n t => ⟨n, T.setR b (Nat.succ k) t k⟩) h
theorem setF_eq (h : FH) (k : Nat) (b : Blk) : hOf (setF h k b) = (hOf h).setB k b := by
  refine Heap.ext' rfl fun i => ?_
  rw [Heap.get_setB]
  exact T.getR_setR b h.t k i

/-! ## Continuations -/
noncomputable def vOpt {α : Type} (v : Option α) (k : α → R) (why : String := "none") : R := Option.rec (motive := fun _ => R) (.fail why) (fun a => k a) v
theorem vOpt_yes {α : Type} {v : Option α} {k : α → R} {why : String} (h : vOpt v k why = .yes) : ∃ a, v = some a ∧ k a = .yes := by
  cases v with
  | none => simp [vOpt] at h
  | some a => exact ⟨a, rfl, h⟩

noncomputable def bif' {α : Type} (c : Bool) (a b : α) : α := Bool.rec (motive := fun _ => α) b a c
theorem bif'_true {α : Type} (a b : α) : bif' true a b = a := rfl
theorem bif'_false {α : Type} (a b : α) : bif' false a b = b := rfl
theorem bif'_fail {c : Bool} {a : R} {s : String} (h : bif' c a (.fail s) = .yes) : c = true ∧ a = .yes := by
  cases c with
  | false => simp [bif'] at h
  | true => exact ⟨rfl, h⟩

noncomputable def withNext (h : FH) (k : Nat → R) : R := FH.rec (motive := fun _ => R) (fun n _ => Nat.rec (motive := fun _ => R) (k 0) (fun m _ => k (Nat.succ m)) n) h
theorem withNext_eq (h : FH) (k : Nat → R) : withNext h k = k h.next := by
  cases h with | mk n t => cases n <;> rfl

/-- the cells behind an address -/
noncomputable def atAddr (h : FH) (a : Addr) (k : List Value → Option Nat → Nat → Nat → R) : R :=
  Addr.rec (motive := fun _ => R) (fun b off _ => FH.rec (motive := fun _ => R) (fun _ t => Option.rec (motive := fun _ => R) (.fail "no block") (fun blk => Blk.rec (motive := fun _ => R) (fun c g => k c g b off) (fun _ => .fail "no cells") (.fail "gone") blk) (T.getR t b)) h) a
theorem atAddr_yes {h : FH} {a : Addr} {k : List Value → Option Nat → Nat → Nat → R} (hy : atAddr h a k = .yes) : ∃ c g, (hOf h).blks a.block = some (.cells c g) ∧ k c g a.block a.off = .yes := by
  cases a with
  | mk b off s =>
    cases h with
    | mk n t =>
      have hy' : Option.rec (motive := fun _ => R) (.fail "no block") (fun blk => Blk.rec (motive := fun _ => R) (fun c g => k c g b off) (fun _ => .fail "no cells") (.fail "gone") blk) (T.getR t b) = .yes := hy
      cases hg : T.getR t b with
      | none => rw [hg] at hy'; simp at hy'
      | some blk =>
        rw [hg] at hy'
        cases blk with
        | cells c g => exact ⟨c, g, hg, hy'⟩
        | map es => simp at hy'
        | gone => simp at hy'

noncomputable def load1K (h : FH) (a : Addr) (k : Value → R) : R := atAddr h a fun c _ _ off => vOpt (nthR c off) k
theorem load1K_yes {h : FH} {a : Addr} {k : Value → R} (hy : load1K h a k = .yes) : ∃ v, (hOf h).load1 a = some v ∧ k v = .yes := by
  obtain ⟨c, g, h1, h2⟩ := atAddr_yes hy
  obtain ⟨v, h3, h4⟩ := vOpt_yes h2
  rw [nthR_eq] at h3
  exact ⟨v, by simp only [Heap.load1, h1, h3], h4⟩

noncomputable def loadNK (h : FH) (a : Addr) (n : Nat) (k : List Value → R) : R := atAddr h a fun c _ _ off => vOpt (takeR n (dropR off c)) k
theorem loadNK_yes {h : FH} {a : Addr} {n : Nat} {k : List Value → R} (hy : loadNK h a n k = .yes) : ∃ l, (hOf h).loadN a n = some l ∧ k l = .yes := by
  obtain ⟨c, g, h1, h2⟩ := atAddr_yes hy
  obtain ⟨l, h3, h4⟩ := vOpt_yes h2
  rw [takeR_eq, dropR_eq] at h3
  exact ⟨l, by simp only [Heap.loadN, h1, h3], h4⟩

end Go.Ab
