/- A part of the proof. The abstract machine: all operations that touch memory. No condition. -/
import Derived.Test.YtpmbkfiicbipoaaGreatEngK
/-! The abstract machine: all operations that touch memory. -/
namespace Go.Ab

section
variable {P : Program} {tt : T TI} (hT : TOk P tt) {φ : Phi} {t : Fm} {a : Act} (ht : TRel φ t a) {h : Heap} {w : World} (hr : HRel φ h w)

include hT ht hr in
theorem mem_sound (o : Oper) {io : IOp} {v : Value} {h' : Heap} (hok : ∀ x ∈ o.op.operands, okO x = true) (hc : compOp tt o = some io) (hm : isMem io = true) (hv : memV t h io = some (v, h')) : MemGoal P φ h w a o v h' := by
  obtain ⟨dst, op, ty, ps, af, gd⟩ := o
  cases op
  case load ti x => exact mem_load hT ht hr x ti (hok x (by simp [Op.operands])) hc hv
  case alloc e => exact mem_alloc hT hr e hc hv
  case box e x => exact mem_box ht hr e x (hok x (by simp [Op.operands])) hc hv
  case buildSlice ti len parts => exact mem_buildSl hT ht hr ti len parts hok hc hv
  case makeSlice ti l c => exact mem_makeSl hT ht hr ti l c (hok l (by simp [Op.operands])) (hok c (by simp [Op.operands])) hc hv
  case store ti x y => exact mem_store hT ht hr ti x y (hok x (by simp [Op.operands])) (hok y (by simp [Op.operands])) hc hv
  case makeMap ti r => exact mem_makeMap hr ti r hc hv
  case insert ti m k x =>
    simp only [compOp] at hc
    split at hc
    case h_2 => simp at hc
    rename_i i hi
    split at hc
    case h_2 => simp at hc
    rename_i kt et hd
    split at hc
    case h_2 => simp at hc
    rename_i j hj
    cases hs : scalarD j.desc <;> rw [hs] at hc <;> simp only [cond_true, cond_false, Option.some.injEq, reduceCtorEq] at hc
    subst hc
    obtain ⟨rfl, w', q1, q2, q3⟩ := mem_insert_gen hT ht hr ti m k x (hok m (by simp [Op.operands])) (hok k (by simp [Op.operands])) (hok x (by simp [Op.operands])) hi hd hj hv
    exact .of_unit (show _ = (do Instr.mapUpdate ti (a.eval m) (a.eval k) (a.eval x); pure Next.skip : Sem Next) from rfl) q1 q2 q3
  case mapUpdate ti m k x =>
    simp only [compOp] at hc
    split at hc
    case h_2 => simp at hc
    rename_i i hi
    split at hc
    case h_2 => simp at hc
    rename_i kt et hd
    split at hc
    case h_2 => simp at hc
    rename_i j hj
    cases hs : scalarD j.desc <;> rw [hs] at hc <;> simp only [cond_true, cond_false, Option.some.injEq, reduceCtorEq] at hc
    subst hc
    obtain ⟨rfl, w', q1, q2, q3⟩ := mem_insert_gen hT ht hr ti m k x (hok m (by simp [Op.operands])) (hok k (by simp [Op.operands])) (hok x (by simp [Op.operands])) hi hd hj hv
    exact .of_unit (show _ = (do Instr.mapUpdate ti (a.eval m) (a.eval k) (a.eval x); pure Next.skip : Sem Next) from rfl) q1 q2 q3
  case lookup ti m k ok =>
    simp only [compOp] at hc
    split at hc
    case h_2 => simp at hc
    rename_i i hi
    split at hc
    case h_2 => simp at hc
    rename_i kt et hd
    split at hc
    case h_2 => simp at hc
    rename_i j q hj hq
    split at hc
    case h_2 => simp at hc
    rename_i z hz
    obtain ⟨_, hc⟩ := bif_some hc
    simp only [Option.some.injEq] at hc
    subst hc
    obtain ⟨rfl, v', q1, q2⟩ := mem_lookup_gen hT ht hr ti m k ok (hok m (by simp [Op.operands])) (hok k (by simp [Op.operands])) hi hd hj hq hz hv
    exact .of_val (show _ = valS (Instr.lookup ti (a.eval m) (a.eval k) ok) from rfl) q1 q2 hr (.refl _ _ _)
  case call c =>
    obtain ⟨cal, ⟨args⟩, ⟨ats⟩⟩ := c
    cases cal with
    | value x => cases x <;> simp only [compOp, Option.some.injEq] at hc <;> subst hc <;> simp [isMem] at hm
    | invoke x n => simp only [compOp, Option.some.injEq] at hc; subst hc; simp [isMem] at hm
    | builtin b =>
      have hall : ∀ x ∈ args, okO x = true := fun x hx => hok x (by simp [Op.operands, Call.operands, hx])
      simp only [compOp] at hc
      cases b <;> first | (simp only [compBuiltin, reduceCtorEq] at hc; done) | skip
      case append =>
        match args, ats, hc with
        | [x, y], [t1, t2], hc => exact mem_append hT ht hr x y t1 t2 (hall x (by simp)) (hall y (by simp)) hc hv
      case clear =>
        match args, ats, hc with
        | [x], [t1], hc => exact mem_clear hT ht hr x t1 (hall x (by simp)) hc hv
      case copy =>
        match args, ats, hc with
        | [x, y], [t1, t2], hc => exact mem_copy hT ht hr x y t1 t2 (hall x (by simp)) (hall y (by simp)) hc hv
      case len =>
        match args, ats, hc with
        | [x], [t1], hc =>
          simp only [compBuiltin] at hc
          split at hc
          case h_2 => simp at hc
          rename_i i hi
          split at hc
          case h_3 kt et hd =>
            simp only [Option.some.injEq] at hc; subst hc
            exact mem_lenm hT ht hr x (hall x (by simp)) hi hd hv
          all_goals first
            | (simp only [Option.some.injEq, reduceCtorEq] at hc; subst hc; simp [isMem] at hm; done)
            | (simp at hc; done)
            | skip
          split at hc
          case h_2 => simp at hc
          split at hc <;> simp only [Option.some.injEq, reduceCtorEq] at hc
          subst hc; simp [isMem] at hm
      case cap =>
        match args, ats, hc with
        | [x], [t1], hc =>
          simp only [compBuiltin] at hc
          split at hc
          case h_2 => simp at hc
          split at hc <;> simp only [Option.some.injEq, reduceCtorEq] at hc
          subst hc; simp [isMem] at hm
      case min =>
        match args, hc with
        | x :: r, hc => simp only [compBuiltin, Option.some.injEq] at hc; subst hc; simp [isMem] at hm
      case max =>
        match args, hc with
        | x :: r, hc => simp only [compBuiltin, Option.some.injEq] at hc; subst hc; simp [isMem] at hm
  case binOp op xt x y yt =>
    simp only [compOp] at hc
    split at hc
    case h_2 => simp at hc
    simp only [Option.some.injEq] at hc; subst hc
    simp only [compBin] at hm
    split at hm <;> simp [isMem] at hm
  all_goals
    simp only [compOp, reduceCtorEq] at hc
    repeat' (first | (simp only [Option.some.injEq, reduceCtorEq] at hc; subst hc; simp [isMem] at hm; done) | (simp at hc; done) | split at hc | (rw [Bool.cond_eq_ite] at hc; split at hc))
end
end Go.Ab
