/- A part of the proof. The abstract machine: an operation hangs on its operands alone. No condition. -/
import Derived.Test.YtpmbkfiicbipoaaGreatEngM
import Derived.Orders
/-! The abstract machine: an operation hangs on its operands alone. -/
namespace Go.Ab

def oList : Option Operand → List Operand
  | none => []
  | some x => [x]

def partOps : List (Nat × Nat × Operand) → List Operand
  | [] => []
  | p :: l => p.2.2 :: partOps l

def IOp.ops : IOp → List Operand
  | .mov x | .nilc x | .un _ x | .conv _ x | .iface _ x | .faddr x _ | .fieldv x _ _ | .extr x _ | .lenv x | .lent x | .capv x | .s2ap _ x | .tassert x _ _ _ | .load _ x | .box x | .clearS x _ _ | .lenm x => [x]
  | .pick a b c => [a, b, c]
  | .bin _ _ _ x y | .eqs _ _ x y | .iaddrS x y _ | .iaddrA x y _ _ | .indexA x y _ _ _ | .indexS x y | .makeSl x y _ _ _ | .store _ x y | .append x y _ _ | .appendZ x y _ _ _ | .copy x y _ | .lookup _ x y _ _ => [x, y]
  | .mkfn _ a b => a ++ b
  | .sliceS x lo hi mx _ | .sliceP x lo hi mx _ _ => x :: (oList lo ++ oList hi ++ oList mx)
  | .sliceT x lo hi => x :: (oList lo ++ oList hi)
  | .lenc _ | .alloc _ | .makeMap => []
  | .minmax _ x r => x :: r
  | .build _ ps | .buildSl _ _ ps => partOps ps
  | .call _ args => args
  | .callv x args => x :: args
  | .meth x _ args => x :: args
  | .insert _ m k v => [m, k, v]

theorem map_congrO {t t' : Fm} {l : List Operand} (h : ∀ x ∈ l, evalO t x = evalO t' x) : l.map (evalO t) = l.map (evalO t') := List.map_congr_left h

theorem bound_congr {t t' : Fm} {x : Option Operand} (h : ∀ y ∈ oList x, evalO t y = evalO t' y) (d : Nat) : boundOf t x d = boundOf t' x d := by
  cases x with
  | none => rfl
  | some y => simp only [boundOf, h y (by simp [oList])]

theorem fillP_congr {t t' : Fm} : ∀ {ps : List (Nat × Nat × Operand)} (c : List Value), (∀ x ∈ partOps ps, evalO t x = evalO t' x) → fillP t ps c = fillP t' ps c
  | [], c, _ => rfl
  | (o, s, x) :: ps, c, h => by
    simp only [fillP, h x (by simp [partOps])]
    cases putAt (evalO t' x).cells.toList o c with
    | none => rfl
    | some c' => simp only [fillP_congr (ps := ps) c' fun y hy => h y (by simp only [partOps, List.mem_cons]; exact .inr hy)]

theorem foldMM_congr {t t' : Fm} {m : Bool} : ∀ {r : List Operand} (v : Value), (∀ x ∈ r, evalO t x = evalO t' x) → foldMM m t r v = foldMM m t' r v
  | [], v, _ => rfl
  | x :: r, v, h => by
    simp only [foldMM, h x (by simp)]
    cases minmaxV m v (evalO t' x) with
    | none => rfl
    | some w => exact foldMM_congr w fun y hy => h y (by simp [hy])

theorem pureV_congr {t t' : Fm} {io : IOp} (h : ∀ x ∈ io.ops, evalO t x = evalO t' x) : pureV t io = pureV t' io := by
  cases io <;> simp only [IOp.ops, List.mem_cons, List.not_mem_nil, or_false, forall_eq_or_imp, forall_eq, List.mem_append] at h <;> try (simp only [pureV]; done)
  case mkfn => simp only [pureV, map_congrO fun x hx => h x (.inl hx), map_congrO fun x hx => h x (.inr hx)]
  case sliceS => simp only [pureV, h.1, bound_congr fun y hy => h.2 y (.inl (.inl hy)), bound_congr fun y hy => h.2 y (.inl (.inr hy)), bound_congr fun y hy => h.2 y (.inr hy)]
  case sliceP => simp only [pureV, h.1, bound_congr fun y hy => h.2 y (.inl (.inl hy)), bound_congr fun y hy => h.2 y (.inl (.inr hy)), bound_congr fun y hy => h.2 y (.inr hy)]
  case sliceT => simp only [pureV, h.1, bound_congr fun y hy => h.2 y (.inl hy), bound_congr fun y hy => h.2 y (.inr hy)]
  case minmax => simp only [pureV, h.1, foldMM_congr _ h.2]
  case build => simp only [pureV, fillP_congr _ h]
  all_goals (simp only [pureV, h])

theorem memV_congr {t t' : Fm} {hp : Heap} {io : IOp} (h : ∀ x ∈ io.ops, evalO t x = evalO t' x) : memV t hp io = memV t' hp io := by
  cases io <;> simp only [IOp.ops, List.mem_cons, List.not_mem_nil, or_false, forall_eq_or_imp, forall_eq, List.mem_append] at h <;> try (simp only [memV]; done)
  case buildSl => simp only [memV, fillP_congr _ h]
  all_goals (simp only [memV, h])

theorem callee_congr {tt : T TI} {t t' : Fm} {io : IOp} (h : ∀ x ∈ io.ops, evalO t x = evalO t' x) : callee tt t io = callee tt t' io := by
  cases io <;> simp only [IOp.ops, List.mem_cons, List.not_mem_nil, or_false, forall_eq_or_imp, forall_eq, List.mem_append] at h <;> try (simp only [callee]; done)
  case call => simp only [callee, map_congrO h]
  case callv => simp only [callee, h.1, map_congrO h.2]
  case meth => simp only [callee, h.1, map_congrO h.2]

/-- what an operation comes to, by the machine -/
def OpRes (P : Program) (tt : T TI) (t : Fm) (h : Heap) (io : IOp) (v : Value) (h' : Heap) : Prop :=
  (isPure io = true ∧ pureV t io = some v ∧ h' = h) ∨ (isMem io = true ∧ memV t h io = some (v, h')) ∨ (∃ f args, callee tt t io = some (f, args) ∧ CallNext P f args h v h')

theorem OpRes.congr {P : Program} {tt : T TI} {t t' : Fm} {h h' : Heap} {io : IOp} {v : Value} (hr : OpRes P tt t h io v h') (he : ∀ x ∈ io.ops, evalO t x = evalO t' x) : OpRes P tt t' h io v h' := by
  rcases hr with ⟨h1, h2, h3⟩ | ⟨h1, h2⟩ | ⟨f, args, h1, h2⟩
  · exact .inl ⟨h1, by rw [← pureV_congr he]; exact h2, h3⟩
  · exact .inr (.inl ⟨h1, by rw [← memV_congr he]; exact h2⟩)
  · exact .inr (.inr ⟨f, args, by rw [← callee_congr he]; exact h1, h2⟩)

section
variable {P : Program} {tt : T TI} (hT : TOk P tt) {φ : Phi} {t : Fm} {a : Act} {h h' : Heap} {w : World} {v : Value}

include hT in
theorem op_sound (o : Oper) {io : IOp} (hok : ∀ x ∈ o.op.operands, okO x = true) (hc : compOp tt o = some io) (hres : OpRes P tt t h io v h') (ht : TRel φ t a) (hr : HRel φ h w) (hfull : callee tt t io ≠ none → Full φ h) :
    ResOK P φ h w v h' ((execOp a.eval o).run P w) := by
  rcases hres with ⟨h1, h2, rfl⟩ | ⟨h1, h2⟩ | ⟨f, args, h1, h2⟩
  · exact (pure_sound hT ht w o hok hc h1 h2).res hr
  · exact (mem_sound hT ht hr o hok hc h1 h2).res
  · exact call_sound hT o hok hc h1 h2 ht hr (hfull (by rw [h1]; simp))

def tmpsOf : List Operand → List Nat
  | [] => []
  | .tmp k :: l => k :: tmpsOf l
  | _ :: l => tmpsOf l

theorem mem_tmpsOf {k : Nat} : ∀ {l : List Operand}, k ∈ tmpsOf l ↔ Operand.tmp k ∈ l
  | [] => by simp [tmpsOf]
  | x :: l => by cases x <;> simp [tmpsOf, mem_tmpsOf (l := l)]

def maskT (S : List Nat) (t : Fm) : Fm := fun k => if k ∈ S then t k else undef
def maskA (S : List Nat) (a : Act) : Act := { a with tmps := a.tmps.mapIdx fun i v => if i ∈ S then v else undef }

theorem maskA_get (S : List Nat) (a : Act) (k : Nat) : (maskA S a).tmps.getD k undef = if k ∈ S then a.tmps.getD k undef else undef := by
  simp only [maskA, Array.getD_eq_getD_getElem?, Array.getElem?_mapIdx]
  cases a.tmps[k]? with
  | none => simp
  | some v => by_cases hk : k ∈ S <;> simp [hk]

include hT in
/-- .. where the operands alone are related -/
theorem op_sound' (o : Oper) {io : IOp} (hok : ∀ x ∈ o.op.operands, okO x = true) (hc : compOp tt o = some io) (hsub : ∀ k ∈ tmpsOf io.ops, k ∈ tmpsOf o.op.operands.toList)
    (hres : OpRes P tt t h io v h') (ht : ∀ k ∈ tmpsOf o.op.operands.toList, VRel φ (t k) (a.tmps.getD k undef)) (hr : HRel φ h w) (hfull : callee tt t io ≠ none → Full φ h) :
    ResOK P φ h w v h' ((execOp a.eval o).run P w) := by
  have e1 : execOp a.eval o = execOp (maskA (tmpsOf o.op.operands.toList) a).eval o := by
    refine execOp_congr o ?_ ?_
    · intro cs b hs
      obtain ⟨dst, op, ty, ps, af, gd⟩ := o
      obtain rfl : op = .select cs b := hs
      simp [compOp] at hc
    · intro x hx
      cases x with
      | tmp k =>
        show a.tmps.getD k undef = (maskA _ a).tmps.getD k undef
        rw [maskA_get, if_pos (mem_tmpsOf.2 (by simpa using hx))]
      | _ => rfl
  rw [e1]
  refine op_sound hT (t := maskT (tmpsOf o.op.operands.toList) t) o hok hc (hres.congr ?_) ?_ hr ?_
  · intro x hx
    cases x with
    | tmp k =>
      have := hsub k (mem_tmpsOf.2 hx)
      show t k = maskT _ t k
      rw [maskT, if_pos this]
    | _ => rfl
  · intro k
    rw [maskA_get]
    show VRel φ (maskT _ t k) _
    rw [maskT]
    by_cases hk : k ∈ tmpsOf o.op.operands.toList
    · rw [if_pos hk, if_pos hk]; exact ht k hk
    · rw [if_neg hk, if_neg hk]; exact undef_rel φ
  · intro hne
    refine hfull ?_
    rw [callee_congr (t' := maskT (tmpsOf o.op.operands.toList) t)]
    · exact hne
    · intro x hx
      cases x with
      | tmp k =>
        have := hsub k (mem_tmpsOf.2 hx)
        show t k = maskT _ t k
        rw [maskT, if_pos this]
      | _ => rfl
end
end Go.Ab
