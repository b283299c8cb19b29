/- A part of the proof. The abstract machine: an operation, whole: calls too. No condition. -/
import Derived.Test.YtpmbkfiicbipoaaGreatEngL
/-! The abstract machine: an operation, whole: calls too. -/
namespace Go.Ab

section
variable {P : Program}

/-- what the model's operation may come to, where the machine's comes to v and h' -/
def ResOK (P : Program) (φ : Phi) (h : Heap) (w : World) (v : Value) (h' : Heap) : Result Next → Prop
  | .ok (.value v') w' => ∃ φ', VRel φ' v v' ∧ HRel φ' h' w' ∧ Ext φ h w φ' h' w'
  | .ok .skip w' => ∃ φ', VRel φ' v undef ∧ HRel φ' h' w' ∧ Ext φ h w φ' h' w'
  | .ok (.enter f args) w' => Calls P f args w' fun e w'' => ∃ v', e = .returned v' ∧ ∃ φ', VRel φ' v v' ∧ HRel φ' h' w'' ∧ Ext φ h w φ' h' w''
  | _ => False

theorem ResOK.wp {φ : Phi} {h h' : Heap} {w : World} {v : Value} {o : Oper} {a : Act} {next : Act → World → Prop} {Q : Exit → Act → World → Prop}
    (hres : ResOK P φ h w v h' ((execOp a.eval o).run P w))
    (hn : ∀ φ' v' w', VRel φ' v v' → HRel φ' h' w' → Ext φ h w φ' h' w' → next (a.put o.dst v') w') : o.wp P a w next Q := by
  unfold Oper.wp
  generalize (execOp a.eval o).run P w = r at hres
  cases r with
  | halt x w' => exact hres.elim
  | ok n w' =>
    cases n <;> simp only [ResOK] at hres <;> (try exact hres.elim) <;> simp only [Oper.upon]
    · obtain ⟨φ', h1, h2, h3⟩ := hres; exact hn φ' _ w' h1 h2 h3
    · obtain ⟨φ', h1, h2, h3⟩ := hres; exact hn φ' _ w' h1 h2 h3
    · refine Calls.mono hres ?_
      rintro e w'' ⟨v', rfl, φ', h1, h2, h3⟩
      exact hn φ' v' w'' h1 h2 h3

/-- something that holds behind every end of it holds -/
theorem wp_const {o : Oper} {a : Act} {w : World} {X : Prop} (h : o.wp P a w (fun _ _ => X) (fun _ _ _ => X)) : X := by
  unfold Oper.wp at h
  generalize (execOp a.eval o).run P w = r at h
  cases r with
  | halt x w' => cases x <;> simp only [Oper.upon] at h <;> first | exact h | exact h.elim
  | ok n w' =>
    cases n <;> simp only [Oper.upon] at h <;> (try exact h) <;> (try exact h.elim)
    · obtain ⟨e, w'', fr, hR, _⟩ := h []
      cases e with
      | returned v => exact hR
      | panicked c => exact hR
      | outgrown => obtain ⟨_, _, hR⟩ := hR; exact hR
    · obtain ⟨_, _, hR, _⟩ := h (default : Frame) []
      exact hR

theorem MemGoal.res {φ : Phi} {h h' : Heap} {w : World} {a : Act} {o : Oper} {v : Value} (hg : MemGoal P φ h w a o v h') : ResOK P φ h w v h' ((execOp a.eval o).run P w) := by
  obtain ⟨φ', v', w', nx, h1, h2, h3, h4, h5⟩ := hg
  rw [h1]
  rcases h2 with rfl | ⟨rfl, rfl⟩
  · exact ⟨φ', h3, h4, h5⟩
  · exact ⟨φ', h3, h4, h5⟩

theorem PureGoal.res {φ : Phi} {h : Heap} {w : World} {a : Act} {o : Oper} {v : Value} (hr : HRel φ h w) (hg : PureGoal P φ a w o v) : ResOK P φ h w v h ((execOp a.eval o).run P w) := by
  obtain ⟨v', w', h1, h2, h3⟩ := hg
  rw [h1]
  exact ⟨φ, h2, hr.same h3, h3.ext φ h⟩

/-- a call of a function, as the machine sees it -/
def CallNext (P : Program) (f : Nat) (args : List Value) (h : Heap) (v : Value) (h' : Heap) : Prop :=
  ∀ φ (args' : List Value) w, LRel φ args args' → HRel φ h w → Full φ h → ResOK P φ h w v h' ((callFunc f ⟨args'⟩).run P w)

variable (tt : T TI)

def methodFind (name : String) : List Method → Option Method
  | [] => none
  | m :: l => bif m.name == name then some m else methodFind name l

/-- whose method it is: the receiver handed on as it is -/
def methodOf (t : TypeId) (name : String) : Option Nat := match tt.get t with
  | some i => match methodFind name i.methods.toList with
    | some m => match m.path.toList, m.func with
      | [], some (f, p) => (match i.desc with
        | .pointer _ => bif p then some f else none
        | _ => bif p then none else some f)
      | _, _ => none
    | none => none
  | none => none

def calleeM (recv : Value) (name : String) (args : List Value) : Option (Nat × List Value) := match recv with
  | .iface t v => match methodOf tt t name with | some f => some (f, v :: args) | none => none
  | _ => none

def calleeV (f : Value) (args : List Value) : Option (Nat × List Value) := match f with
  | .func (.func f) first captured => some (f, first.toList ++ args ++ captured.toList)
  | .func (.method name) first _ => match first.toList ++ args with
    | r :: rest => calleeM tt r name rest
    | [] => none
  | .func (.methodOf ty name) first _ => match tt.get ty, first.toList ++ args with
    | some i, r :: rest => bif isIface i.desc then none else calleeM tt (.iface ty r) name rest
    | _, _ => none
  | _ => none

def callee (t : Fm) : IOp → Option (Nat × List Value)
  | .call f args => some (f, args.map (evalO t))
  | .callv x args => calleeV tt (evalO t x) (args.map (evalO t))
  | .meth x name args => calleeM tt (evalO t x) name (args.map (evalO t))
  | _ => none

def isCall : IOp → Bool
  | .call .. | .callv .. | .meth .. => true
  | _ => false

variable {tt}
variable (hT : TOk P tt) {φ : Phi} {t : Fm} {a : Act} {h h' : Heap} {w : World} {v : Value}

include hT in
theorem run_callMethod {recv recv' : Value} {name : String} {args : List Value} {args' : List Value} {f : Nat} {cargs : List Value} (hc : calleeM tt recv name args = some (f, cargs))
    (hv : VRel φ recv recv') (ha : LRel φ args args') : ∃ cargs', LRel φ cargs cargs' ∧ ∀ w, (callMethod recv' name ⟨args'⟩).run P w = (callFunc f ⟨cargs'⟩).run P w := by
  unfold calleeM at hc
  split at hc
  case h_2 => simp at hc
  rename_i ty v
  obtain ⟨v', rfl, hv'⟩ := hv.iface_inv
  split at hc
  case h_2 => simp at hc
  rename_i g hg
  simp only [Option.some.injEq, Prod.mk.injEq] at hc
  obtain ⟨rfl, rfl⟩ := hc
  refine ⟨v' :: args', .cons _ _ _ _ hv' ha, fun w => ?_⟩
  unfold methodOf at hg
  split at hg
  case h_2 => simp at hg
  rename_i i hi
  have hu := hT.desc _ _ hi
  obtain ⟨inf, hinf, _, _, _, hm⟩ := hT.info _ _ hi
  split at hg
  case h_2 => simp at hg
  rename_i m hmf
  have hfind : ∀ l : List Method, methodFind name l = some m → l.find? (fun m => m.name == name) = some m := by
    intro l
    induction l with
    | nil => intro h; simp [methodFind] at h
    | cons x l ih =>
      intro h
      simp only [methodFind] at h
      cases hx : (x.name == name) <;> rw [hx] at h
      · simp only [cond_false] at h; rw [List.find?_cons, hx]; exact ih h
      · simp only [cond_true, Option.some.injEq] at h; subst h; rw [List.find?_cons, hx]
  have hfi : inf.methods.find? (fun m => m.name == name) = some m := by rw [hm, ← Array.find?_toList]; exact hfind _ hmf
  split at hg
  case h_2 => simp at hg
  rename_i p1 p2 hpath hfunc
  have hmethod : (method (P.types.size + Made.depth) ty v' name).run P w = .ok (g, v') w := by
    have hd0 : 0 < Made.depth := by decide
    obtain ⟨n, hn⟩ : ∃ n, P.types.size + Made.depth = n + 1 := ⟨P.types.size + Made.depth - 1, by omega⟩
    rw [hn]
    unfold method
    simp only [Sem.run_bind, run_typeInfo' w hinf, Result.andThen_ok, hfi, hpath, follow, Sem.run_pure, hfunc, receiverAt, run_underlying hu]
    split at hg
    · rename_i e hd
      obtain ⟨hp, hg⟩ := bif_some hg
      simp only [Option.some.injEq] at hg; subst hg
      simp only [hp, Place.get, Sem.run_pure, Result.andThen_ok, hd]
    · rename_i hd
      cases p2 with
      | true => simp at hg
      | false =>
        simp only [cond_false, Option.some.injEq] at hg; subst hg
        cases hdd : i.desc <;> first | (exact absurd hdd (hd _)) | (simp only [Place.get, Sem.run_pure, Result.andThen_ok]; done)
  have he : (#[v'] ++ (⟨args'⟩ : Array Value)) = ⟨v' :: args'⟩ := by apply Array.ext'; simp
  unfold callMethod
  simp only [Sem.run_bind, run_program, Result.andThen_ok, hmethod, he]

theorem LRel.extract1 {r : Value} {rest l' : List Value} (hl : LRel φ (r :: rest) l') : ∃ r' rest', l' = r' :: rest' ∧ VRel φ r r' ∧ LRel φ rest rest' := by
  cases hl with
  | cons _ w _ m h t => exact ⟨w, m, rfl, h, t⟩

theorem extract1_eq (r : Value) (rest : List Value) : (⟨r :: rest⟩ : Array Value).extract 1 (⟨r :: rest⟩ : Array Value).size = ⟨rest⟩ := by
  apply Array.ext'; simp

theorem array_app (l m : List Value) : (⟨l⟩ : Array Value) ++ (⟨m⟩ : Array Value) = ⟨l ++ m⟩ := by apply Array.ext'; simp

include hT in
theorem call_sound (o : Oper) {io : IOp} {f : Nat} {cargs : List Value} (hok : ∀ x ∈ o.op.operands, okO x = true) (hc : compOp tt o = some io) (hcal : callee tt t io = some (f, cargs))
    (hN : CallNext P f cargs h v h') (ht : TRel φ t a) (hr : HRel φ h w) (hfull : Full φ h) : ResOK P φ h w v h' ((execOp a.eval o).run P w) := by
  obtain ⟨dst, op, ty, ps, af, gd⟩ := o
  cases op
  case call c =>
    obtain ⟨cal, ⟨args⟩, ⟨ats⟩⟩ := c
    have hm : ((⟨args⟩ : Array Operand).map a.eval) = ⟨args.map a.eval⟩ := by apply Array.ext'; simp
    have hargs : LRel φ (args.map (evalO t)) (args.map a.eval) := evalOs_rel ht fun x hx => hok x (by simp [Op.operands, Call.operands, hx])
    cases cal with
    | builtin b =>
      exfalso
      simp only [compOp] at hc
      cases b <;> simp only [compBuiltin, reduceCtorEq] at hc <;>
        repeat' (first | (simp only [Option.some.injEq, reduceCtorEq] at hc; subst hc; simp [callee] at hcal; done) | (simp at hc; done) | split at hc | (rw [Bool.cond_eq_ite] at hc; split at hc))
    | invoke r name =>
      simp only [compOp, Option.some.injEq] at hc; subst hc
      simp only [callee] at hcal
      have hr0 := evalO_rel ht (hok r (by simp [Op.operands, Call.operands]))
      obtain ⟨cargs', h1, h2⟩ := run_callMethod hT hcal hr0 hargs
      have he : (execOp a.eval ⟨dst, .call ⟨.invoke r name, ⟨args⟩, ⟨ats⟩⟩, ty, ps, af, gd⟩).run P w = (callMethod (a.eval r) name ⟨args.map a.eval⟩).run P w := by
        have e1 : (#[a.eval r] ++ (⟨args⟩ : Array Operand).map a.eval) = ⟨a.eval r :: args.map a.eval⟩ := by rw [hm]; apply Array.ext'; simp
        simp only [execOp, resolve, e1, Sem.run_bind, Sem.run_pure, Result.andThen_ok, invoke]
        rw [extract1_eq]
        rfl
      rw [he, h2]
      exact hN φ cargs' w h1 hr hfull
    | value x =>
      have hx0 := evalO_rel ht (hok x (by simp [Op.operands, Call.operands]))
      have key : ∀ {fv fv' : Value}, VRel φ fv fv' → calleeV tt fv (args.map (evalO t)) = some (f, cargs) → a.eval x = fv' →
          ResOK P φ h w v h' ((execOp a.eval ⟨dst, .call ⟨.value x, ⟨args⟩, ⟨ats⟩⟩, ty, ps, af, gd⟩).run P w) := by
        intro fv fv' hfv hcv hx
        have he : execOp a.eval ⟨dst, .call ⟨.value x, ⟨args⟩, ⟨ats⟩⟩, ty, ps, af, gd⟩ = (do let d ← Deferred.ofValue fv' ⟨args.map a.eval⟩; invoke d.target d.args) := by
          rw [← hm, ← hx]; rfl
        rw [he]
        unfold calleeV at hcv
        split at hcv
        · rename_i g first captured
          simp only [Option.some.injEq, Prod.mk.injEq] at hcv
          obtain ⟨rfl, rfl⟩ := hcv
          cases hfv with
          | func _ x1 x2 y1 y2 h1 h2 =>
            have e1 : (do let d ← Deferred.ofValue (.func (.func g) ⟨x2⟩ ⟨y2⟩) ⟨args.map a.eval⟩; invoke d.target d.args : Sem Next).run P w = (callFunc g ⟨x2 ++ args.map a.eval ++ y2⟩).run P w := by
              simp only [Deferred.ofValue, Sem.run_bind, Sem.run_pure, Result.andThen_ok, invoke, array_app]
            rw [e1]
            exact hN φ _ w ((h1.append hargs).append h2) hr hfull
        · rename_i name first captured
          split at hcv
          case h_2 => simp at hcv
          rename_i r rest hfr
          cases hfv with
          | func _ x1 x2 y1 y2 h1 h2 =>
            have hall := h1.append hargs
            have hfr' : x1 ++ List.map (evalO t) args = r :: rest := hfr
            rw [hfr'] at hall
            obtain ⟨r', rest', hl, hr', hrest'⟩ := hall.extract1
            obtain ⟨cargs', k1, k2⟩ := run_callMethod hT hcv hr' hrest'
            have e1 : (do let d ← Deferred.ofValue (.func (.method name) ⟨x2⟩ ⟨y2⟩) ⟨args.map a.eval⟩; invoke d.target d.args : Sem Next).run P w = (callMethod r' name ⟨rest'⟩).run P w := by
              simp only [Deferred.ofValue, Sem.run_bind, Sem.run_pure, Result.andThen_ok, invoke, array_app, hl]
              rw [extract1_eq]
              rfl
            rw [e1, k2]
            exact hN φ _ w k1 hr hfull
        · rename_i ty' name first captured
          split at hcv
          case h_2 => simp at hcv
          rename_i i r rest hi hfr
          cases hifc : isIface i.desc with
          | true => rw [hifc] at hcv; simp at hcv
          | false =>
            rw [hifc] at hcv
            simp only [cond_false] at hcv
            cases hfv with
            | func _ x1 x2 y1 y2 h1 h2 =>
              have hall := h1.append hargs
              have hfr' : x1 ++ List.map (evalO t) args = r :: rest := hfr
              rw [hfr'] at hall
              obtain ⟨r', rest', hl, hr', hrest'⟩ := hall.extract1
              obtain ⟨cargs', k1, k2⟩ := run_callMethod hT hcv (.iface ty' _ _ hr') hrest'
              have hu := hT.desc _ _ hi
              have e1 : (do let d ← Deferred.ofValue (.func (.methodOf ty' name) ⟨x2⟩ ⟨y2⟩) ⟨args.map a.eval⟩; invoke d.target d.args : Sem Next).run P w = (callMethod (.iface ty' r') name ⟨rest'⟩).run P w := by
                simp only [Deferred.ofValue, Sem.run_bind, Sem.run_pure, Result.andThen_ok, invoke, array_app, hl, List.getElem?_toArray, List.getElem?_cons_zero, run_underlying hu]
                rw [extract1_eq]
                cases hd : i.desc <;> first | rfl | (rw [hd] at hifc; simp [isIface] at hifc)
              rw [e1, k2]
              exact hN φ _ w k1 hr hfull
        · simp at hcv
      cases x with
      | func g =>
        simp only [compOp, Option.some.injEq] at hc; subst hc
        simp only [callee, Option.some.injEq, Prod.mk.injEq] at hcal
        exact key (fv := .func (.func g) #[] #[]) (.func _ _ _ _ _ .nil .nil) (by simp only [calleeV]; simpa using hcal) rfl
      | tmp k => simp only [compOp, Option.some.injEq] at hc; subst hc; exact key hx0 hcal rfl
      | const c => simp only [compOp, Option.some.injEq] at hc; subst hc; exact key hx0 hcal rfl
      | global g => simp only [compOp, Option.some.injEq] at hc; subst hc; exact key hx0 hcal rfl
  case binOp op xt x y yt =>
    simp only [compOp] at hc
    split at hc
    case h_2 => simp at hc
    simp only [Option.some.injEq] at hc; subst hc
    simp only [compBin] at hcal
    split at hcal <;> simp [callee] at hcal
  case makeMap ti r =>
    cases r with
    | some r => simp [compOp] at hc
    | none => simp only [compOp, Option.some.injEq] at hc; subst hc; simp [callee] at hcal
  all_goals
    exfalso
    simp only [compOp, reduceCtorEq] at hc
    repeat' (first | (simp only [Option.some.injEq, reduceCtorEq] at hc; subst hc; simp [callee] at hcal; done) | (simp at hc; done) | split at hc | (rw [Bool.cond_eq_ite] at hc; split at hc))

end
end Go.Ab
