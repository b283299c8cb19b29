/- A part of the proof. The abstract machine: the operations that touch memory are the model's. No condition. -/
import Derived.Test.YtpmbkfiicbipoaaGreatEngI
/-! The abstract machine: the operations that touch memory are the model's. -/
namespace Go.Ab

section
variable {P : Program} {tt : T TI} (hT : TOk P tt) {φ : Phi} {t : Fm} {a : Act} (ht : TRel φ t a) {h : Heap} {w : World} (hr : HRel φ h w)

theorem zero_rel {z : Value} (hz : plainV 8 z = true) : LRel φ z.cells.toList z.cells.toList := (plainV_rel 8 z hz).cells_rel

theorem HRel.mapOf (hr : HRel φ h w) {r r' : Nat} {g : Option (Nat × Nat)} {es : List (Value × Value)} (hp : φ r = some ⟨r', g⟩) (hg : h.blks r = some (.map es)) :
    ∃ ents cl, w.heap[r']? = some (.map ents cl) ∧ MRel φ es ents.toList := by
  obtain ⟨ents, cl, q2, q3⟩ := hr.map _ _ _ hp hg
  exact ⟨ents, cl, q2, q3⟩

theorem run_getObj_map {r : Nat} {ents : Array MapEntry} {cl : Nat} (hg : w.heap[r]? = some (.map ents cl)) : (getObj r).run P w = .ok (.map ents cl) w := by
  simp [getObj, Sem.run, hg]

theorem run_setObj_map {r : Nat} {ents : Array MapEntry} {cl : Nat} (o : Obj) (hg : w.heap[r]? = some (.map ents cl)) : (setObj r o).run P w = .ok () { w with heap := w.heap.setIfInBounds r o } := by
  simp [setObj, Sem.run, hg]

theorem run_checkKey {kt : TypeId} {d : TypeDesc} (hu : P.underlying kt = some d) {v : Value} (hd : fitsD d v = true) (b : Bool) (v' : Value) (hv : v' = v) : (Instr.checkKey b 10000 kt v').run P w = .ok () w := by
  subst hv
  show (Instr.checkKey b (9999 + 1) kt v').run P w = _
  unfold Instr.checkKey
  simp only [Sem.run_bind, run_underlying hu, Result.andThen_ok]
  cases d <;> cases v' <;> first | rfl | simp [fitsD] at hd

/-- keys are scalars: they stay themselves -/
theorem fits_same {d : TypeDesc} {v v' : Value} (hd : fitsD d v = true) (hv : VRel φ v v') : v' = v := by
  cases d <;> cases v <;> first | (simp [fitsD] at hd; done) | exact hv.int_inv | exact hv.bool_inv | exact hv.string_inv

theorem m_find {kt : TypeId} {d : TypeDesc} (hu : P.underlying kt = some d) {k : Value} (hd : fitsD d k = true) : ∀ {es : List (Value × Value)} {ents : List MapEntry} {r : Option Value} (i : Nat), keyFind k es = some r → MRel φ es ents →
    ∃ q, Instr.findNow d k ents i = some q ∧ (match r with | none => q = none | some v => ∃ j v', q = some (j, v') ∧ VRel φ v v')
  | [], [], r, i, hk, _ => by simp [keyFind] at hk; subst hk; exact ⟨none, rfl, rfl⟩
  | [], _ :: _, _, _, _, hm => hm.elim
  | _ :: _, [], _, _, _, hm => hm.elim
  | (j, v) :: es, e :: ents, r, i, hk, ⟨h1, h2, h3⟩ => by
    simp only [keyFind] at hk
    cases hs : scEq k j with
    | none => rw [hs] at hk; simp at hk
    | some b =>
      rw [hs] at hk
      have hkey : Instr.sameNow d k e.key = some b := by
        unfold scEq at hs
        split at hs
        · simp only [Option.some.injEq] at hs; subst hs
          rw [h1.bool_inv]
          cases d <;> first | rfl | simp [fitsD] at hd
        · rename_i jk p kk q
          obtain ⟨hsk, hs2⟩ := bif_some hs
          obtain rfl := sameKind_eq hsk
          simp only [Option.some.injEq] at hs2; subst hs2
          rw [h1.int_inv, ieq_eq]
          cases d <;> first | (simp [Instr.sameNow]; done) | simp [fitsD] at hd
        · simp only [Option.some.injEq] at hs; subst hs
          rw [h1.string_inv, beqBytes_eq, ← beq_toListBytes]
          cases d <;> first | rfl | simp [fitsD] at hd
        · simp at hs
      cases b with
      | true =>
        simp only [Option.some.injEq] at hk; subst hk
        exact ⟨some (i, e.val), by simp only [Instr.findNow, hkey], _, _, rfl, h2⟩
      | false =>
        obtain ⟨q, q1, q2⟩ := m_find hu hd (i + 1) hk h3
        exact ⟨q, by simp only [Instr.findNow, hkey]; exact q1, q2⟩

theorem run_findKey {kt : TypeId} {d : TypeDesc} (hu : P.underlying kt = some d) {k : Value} {es : List MapEntry} {q : Option (Nat × Value)} (hq : Instr.findNow d k es 0 = some q) :
    (Instr.findKey kt k es).run P w = .ok q w := by
  unfold Instr.findKey
  simp only [Sem.run_bind, run_underlying hu, Result.andThen_ok, hq, Sem.run_pure]

include hT ht hr

theorem mem_load (x : Operand) (ti : TypeId) {dst ty ps af gd} {io : IOp} {v : Value} {h' : Heap} (hok : okO x = true) (hc : compOp tt ⟨dst, .load ti x, ty, ps, af, gd⟩ = some io) (hv : memV t h io = some (v, h')) :
    MemGoal P φ h w a ⟨dst, .load ti x, ty, ps, af, gd⟩ v h' := by
  simp only [compOp] at hc
  split at hc
  · rename_i i hi
    simp only [Option.some.injEq] at hc; subst hc
    have hu := hT.desc _ _ hi
    obtain ⟨inf, hinf, hi1, _⟩ := hT.info _ _ hi
    have e1 := evalO_rel ht hok
    simp only [memV] at hv
    split at hv
    · rename_i b hx
      rw [hx] at e1
      obtain ⟨b', q, hA⟩ := e1.ptr_inv
      have he : execOp a.eval ⟨dst, .load ti x, ty, ps, af, gd⟩ = valS (Instr.loadAt ti (a.eval x)) := rfl
      split at hv
      · rename_i hag
        have hnot : isAggD i.desc = false := by unfold aggOf at hag; split at hag <;> simp_all
        split at hv
        · rename_i u hl
          simp only [Option.some.injEq, Prod.mk.injEq] at hv
          obtain ⟨rfl, rfl⟩ := hv
          obtain ⟨v', g1, g2⟩ := m_load1 hr hA hl
          refine .of_val he ?_ g2 hr (.refl _ _ _)
          simp only [Instr.loadAt, Instr.sureAddr, loadVar, q, Sem.run_bind, Sem.run_pure, Result.andThen_ok, run_isAgg' w hu, hnot, Bool.false_eq_true, if_false, run_load, g1]
        · simp at hv
      · rename_i n hag
        have hyes : isAggD i.desc = true ∧ n = i.size := by unfold aggOf at hag; split at hag <;> simp_all
        split at hv
        · rename_i l hl
          simp only [Option.some.injEq, Prod.mk.injEq] at hv
          obtain ⟨rfl, rfl⟩ := hv
          obtain ⟨l', m1, m2, m3⟩ := m_loadN (P := P) hr hA hl
          refine .of_val he ?_ (.agg _ _ m2) hr (.refl _ _ _)
          simp only [Instr.loadAt, Instr.sureAddr, loadVar, q, Sem.run_bind, Sem.run_pure, Result.andThen_ok, run_isAgg' w hu, hyes.1, if_true, run_sizeOf' w hinf, hi1, ← hyes.2, m1 w rfl]
        · simp at hv
    · simp at hv
  · simp at hc

omit ht in
theorem mem_alloc (e : TypeId) {dst ty ps af gd} {io : IOp} {v : Value} {h' : Heap} (hc : compOp tt ⟨dst, .alloc e, ty, ps, af, gd⟩ = some io) (hv : memV t h io = some (v, h')) :
    MemGoal P φ h w a ⟨dst, .alloc e, ty, ps, af, gd⟩ v h' := by
  simp only [compOp] at hc
  split at hc
  · rename_i i hi
    obtain ⟨inf, hinf, hi1, _, hi3, _⟩ := hT.info _ _ hi
    split at hc
    · rename_i z hz
      simp only [Option.some.injEq] at hc; subst hc
      simp only [memV, Option.some.injEq, Prod.mk.injEq] at hv
      obtain ⟨rfl, rfl⟩ := hv
      obtain ⟨φ', g1, g2, g3⟩ := m_new hr (c := z.cells.toList) (arr := z.cells) (zero_rel (hi3 z hz).2) e
      refine .of_val (show _ = valS (Instr.alloc e true (.tuple #[])) from rfl) ?_ (new_ptr g3) g1 g2
      simp only [Instr.alloc, Sem.run_bind, run_zeroValue' w hinf (hi3 z hz).1, Result.andThen_ok, newVar, newRow, run_newObj, Sem.run_pure]
    · simp at hc
  · simp at hc

omit hT in
theorem mem_box (e : TypeId) (x : Operand) {dst ty ps af gd} {io : IOp} {v : Value} {h' : Heap} (hok : okO x = true) (hc : compOp tt ⟨dst, .box e x, ty, ps, af, gd⟩ = some io) (hv : memV t h io = some (v, h')) :
    MemGoal P φ h w a ⟨dst, .box e x, ty, ps, af, gd⟩ v h' := by
  simp only [compOp, Option.some.injEq] at hc; subst hc
  simp only [memV, Option.some.injEq, Prod.mk.injEq] at hv
  obtain ⟨rfl, rfl⟩ := hv
  obtain ⟨φ', g1, g2, g3⟩ := m_new hr (c := (evalO t x).cells.toList) (arr := (a.eval x).cells) (evalO_rel ht hok).cells_rel e
  refine .of_val (show _ = valS (Instr.box e (a.eval x)) from rfl) ?_ (new_ptr g3) g1 g2
  simp only [Instr.box, Sem.run_bind, newVar, newRow, run_newObj, Sem.run_pure, Result.andThen_ok]

theorem mem_buildSl (ti : TypeId) (len : Nat) (parts : Array (Nat × Operand)) {dst ty ps af gd} {io : IOp} {v : Value} {h' : Heap} (hok : ∀ x ∈ (Op.buildSlice ti len parts).operands, okO x = true)
    (hc : compOp tt ⟨dst, .buildSlice ti len parts, ty, ps, af, gd⟩ = some io) (hv : memV t h io = some (v, h')) :
    MemGoal P φ h w a ⟨dst, .buildSlice ti len parts, ty, ps, af, gd⟩ v h' := by
  simp only [compOp] at hc
  split at hc
  case h_2 => simp at hc
  rename_i i hi
  have hu := hT.desc _ _ hi
  split at hc
  case h_2 => simp at hc
  rename_i e hd
  rw [hd] at hu
  split at hc
  case h_2 => simp at hc
  rename_i j hj
  obtain ⟨inf, hinf, hi1, _, hi3, _⟩ := hT.info _ _ hj
  split at hc
  case h_2 => simp at hc
  rename_i z hz
  split at hc
  case h_2 => simp at hc
  rename_i qs hqs
  split at hc
  case isFalse => simp at hc
  rename_i hcond
  obtain ⟨c1, c2, c3⟩ := hcond
  simp only [Option.some.injEq] at hc; subst hc
  simp only [memV] at hv
  split at hv
  case h_2 => simp at hv
  rename_i c hf
  simp only [Option.some.injEq, Prod.mk.injEq] at hv
  obtain ⟨rfl, rfl⟩ := hv
  have hzs : z.cells.size = inf.size := by rw [hi1, ← c3]; simp
  have hzp : 0 < z.cells.size := by rw [hzs, hi1]; exact c2
  obtain ⟨q1, q2⟩ := optAll_some hqs
  have hrange : ((Array.range (len * inf.size)).map (z.cells[· % z.cells.size]!)).toList = repeatN z.cells.toList len := by
    rw [← hzs]; exact repeatN_toList hzp len
  obtain ⟨r', k1, k2⟩ := s_fill (c' := (Array.range (len * inf.size)).map (z.cells[· % z.cells.size]!)) ht (fun k => some (k * inf.size, inf.size)) (ps := parts.toList) (qs := qs)
    (fun x hx => hok _ (by simp only [Op.operands, List.mem_toArray, List.mem_map]; exact ⟨x, hx, rfl⟩)) q1
    (fun k p q hp' hq' => by
      have := q2 k p q hp' hq'
      simp only [Option.some.injEq] at this; subst this
      rw [hi1]; exact ⟨rfl, rfl⟩) hf (by rw [hrange]; exact repeatN_rel (zero_rel (hi3 z hz).2) len)
  obtain ⟨φ', g1, g2, g3⟩ := m_new hr (c := c) (arr := r') k2 e
  refine .of_val (show _ = valS (Instr.buildSlice ti len (parts.map fun (i, x) => (i, a.eval x))) from rfl) ?_ (new_slice g3 (Nat.le_refl _)) g1 g2
  have hbig : ¬ (len * inf.size > 2 ^ 24) := by rw [hi1]; simp only [Nat.reducePow]; omega
  simp only [Instr.buildSlice, Sem.run_bind, run_underlying hu, Result.andThen_ok, run_sizeOf' w hinf, if_neg hbig]
  by_cases hl0 : len * inf.size = 0
  · have hlen0 : len = 0 := by
      rcases Nat.mul_eq_zero.1 hl0 with h0 | h0
      · exact h0
      · omega
    have e0 : ((Array.range (len * inf.size)).map ((#[] : Array Value)[· % (#[] : Array Value).size]!)) = ((Array.range (len * inf.size)).map (z.cells[· % z.cells.size]!)) := by rw [hl0]; simp
    simp only [if_pos hl0, Sem.run_bind, Sem.run_pure, Result.andThen_ok, e0]
    have : (parts.map fun (i, x) => (i, a.eval x)).toList = parts.toList.map fun p => (p.1, a.eval p.2) := by simp
    rw [this, k1]
    simp only [Sem.run_bind, newRow, run_newObj, Result.andThen_ok, Sem.run_pure]
  · simp only [if_neg hl0, Sem.run_bind, run_zeroValue' w hinf (hi3 z hz).1, Result.andThen_ok, Sem.run_pure]
    have : (parts.map fun (i, x) => (i, a.eval x)).toList = parts.toList.map fun p => (p.1, a.eval p.2) := by simp
    rw [this, k1]
    simp only [Sem.run_bind, newRow, run_newObj, Result.andThen_ok, Sem.run_pure]

theorem mem_makeSl (ti : TypeId) (l c : Operand) {dst ty ps af gd} {io : IOp} {v : Value} {h' : Heap} (hol : okO l = true) (hoc : okO c = true)
    (hc : compOp tt ⟨dst, .makeSlice ti l c, ty, ps, af, gd⟩ = some io) (hv : memV t h io = some (v, h')) : MemGoal P φ h w a ⟨dst, .makeSlice ti l c, ty, ps, af, gd⟩ v h' := by
  simp only [compOp] at hc
  split at hc
  case h_2 => simp at hc
  rename_i i hi
  have hu := hT.desc _ _ hi
  split at hc
  case h_2 => simp at hc
  rename_i e hd
  rw [hd] at hu
  split at hc
  case h_2 => simp at hc
  rename_i j hj
  obtain ⟨inf, hinf, hi1, hi2, hi3, _⟩ := hT.info _ _ hj
  split at hc
  case h_2 => simp at hc
  rename_i z hz
  split at hc
  case isFalse => simp at hc
  rename_i hcond
  obtain ⟨c1, c2⟩ := hcond
  simp only [Option.some.injEq] at hc; subst hc
  simp only [memV] at hv
  split at hv
  case h_2 => simp at hv
  rename_i ln cn hln hcn
  obtain ⟨b1, b2⟩ := bif_some hv
  simp only [Bool.and_eq_true] at b1
  have n1 := ble_le b1.1.1
  have n2 := ble_le b1.1.2
  have n3 := ble_le b1.2
  simp only [Option.some.injEq, Prod.mk.injEq] at b2
  obtain ⟨rfl, rfl⟩ := b2
  obtain ⟨lk, hlk⟩ := natOf_some hln
  obtain ⟨ck, hck⟩ := natOf_some hcn
  have e1 := evalO_rel ht hol
  have e2 := evalO_rel ht hoc
  rw [hlk] at e1; rw [hck] at e2
  have e1 := e1.int_inv
  have e2 := e2.int_inv
  have hzs : z.cells.size = inf.size := by rw [hi1, ← c2]; simp
  have hzp : 0 < z.cells.size := by rw [hzs, hi1]; exact c1
  have hrange : ((Array.range (cn * inf.size)).map (z.cells[· % z.cells.size]!)).toList = repeatN z.cells.toList cn := by
    rw [← hzs]; exact repeatN_toList hzp cn
  obtain ⟨φ', g1, g2, g3⟩ := m_new hr (c := repeatN z.cells.toList cn) (arr := (Array.range (cn * inf.size)).map (z.cells[· % z.cells.size]!)) (by rw [hrange]; exact repeatN_rel (zero_rel (hi3 z hz).2) cn) e
  refine .of_val (show _ = valS (Instr.makeSlice ti (a.eval l) (a.eval c)) from rfl) ?_ (new_slice g3 n1) g1 g2
  have hai : ∀ (k : IntKind) (n : Nat) (w : World), (asInt (.int k (Int.ofNat n))).run P w = .ok (Int.ofNat n) w := fun _ _ _ => rfl
  have w1 : IntKind.i64.wrap (Int.ofNat ln) = Int.ofNat ln := wrap_i64_small _ (by simp only [Int.ofNat_eq_natCast]; omega) (by simp only [Int.ofNat_eq_natCast]; omega)
  have w2 : IntKind.i64.wrap (Int.ofNat cn) = Int.ofNat cn := wrap_i64_small _ (by simp only [Int.ofNat_eq_natCast]; omega) (by simp only [Int.ofNat_eq_natCast]; omega)
  have hbytes : ¬ ((inf.bytes : Int) * Int.ofNat cn > 2 ^ 48) := by
    have h1 : ((inf.bytes : Int) * Int.ofNat cn) = ((cn * inf.bytes : Nat) : Int) := by simp [Int.mul_comm]
    rw [h1, hi2]
    have : (2 : Int) ^ 48 = 281474976710656 := by decide
    rw [this]; omega
  have hguard : ¬ (((decide (Int.ofNat cn < 0) || decide ((inf.bytes : Int) * Int.ofNat cn > 2 ^ 48)) || decide (Int.ofNat ln < 0) || decide (Int.ofNat ln > Int.ofNat cn)) = true) := by
    have g1 : ¬ (Int.ofNat cn < 0) := by simp
    have g2 : ¬ (Int.ofNat ln < 0) := by simp
    have g3 : ¬ (Int.ofNat ln > Int.ofNat cn) := by simp only [Int.ofNat_eq_natCast]; omega
    simp only [decide_eq_false g1, decide_eq_false g2, decide_eq_false g3, decide_eq_false hbytes, Bool.or_self, Bool.false_eq_true, not_false_eq_true]
  simp only [Instr.makeSlice, Sem.run_bind, run_underlying hu, Result.andThen_ok, e1, e2, hai, run_typeInfo' w hinf, w1, w2, if_neg hguard, run_askRoom, run_sizeOf' w hinf]
  have ecn : (Int.ofNat cn).toNat = cn := rfl
  have eln : (Int.ofNat ln).toNat = ln := rfl
  rw [ecn, eln]
  by_cases hl0 : cn * inf.size = 0
  · have e0 : ((Array.range (cn * inf.size)).map ((#[] : Array Value)[· % (#[] : Array Value).size]!)) = ((Array.range (cn * inf.size)).map (z.cells[· % z.cells.size]!)) := by rw [hl0]; simp
    simp only [if_pos hl0, Sem.run_pure, Result.andThen_ok, e0, newRow, Sem.run_bind, run_newObj]
  · simp only [if_neg hl0, Sem.run_bind, run_zeroValue' w hinf (hi3 z hz).1, Result.andThen_ok, Sem.run_pure, newRow, run_newObj]


theorem mem_store (ti : TypeId) (x y : Operand) {dst ty ps af gd} {io : IOp} {v : Value} {h' : Heap} (hox : okO x = true) (hoy : okO y = true)
    (hc : compOp tt ⟨dst, .store ti x y, ty, ps, af, gd⟩ = some io) (hv : memV t h io = some (v, h')) : MemGoal P φ h w a ⟨dst, .store ti x y, ty, ps, af, gd⟩ v h' := by
  simp only [compOp] at hc
  split at hc
  case h_2 => simp at hc
  rename_i i hi
  obtain ⟨inf, hinf, hi1, _⟩ := hT.info _ _ hi
  simp only [Option.some.injEq] at hc; subst hc
  have e1 := evalO_rel ht hox
  have e2 := (evalO_rel ht hoy).cells_rel
  simp only [memV] at hv
  split at hv
  case h_2 => simp at hv
  rename_i b hx
  rw [hx] at e1
  obtain ⟨b', q, hA⟩ := e1.ptr_inv
  obtain ⟨b1, b2⟩ := bif_some hv
  have hlen := beq_eq' b1
  split at b2
  case h_2 => simp at b2
  rename_i h2 hst
  simp only [Option.some.injEq, Prod.mk.injEq] at b2
  obtain ⟨rfl, rfl⟩ := b2
  obtain ⟨w', r1, r2, r3⟩ := m_storeN (P := P) hr hA e2 hst
  refine .of_unit (show _ = (do Instr.storeAt ti (a.eval x) (a.eval y); pure Next.skip : Sem Next) from rfl) ?_ r2 r3
  have hsz : (a.eval y).cells.size = inf.size := by rw [hi1, ← hlen, e2.length]; simp
  have hne : ¬ ((a.eval y).cells.size ≠ inf.size) := by rw [hsz]; simp
  simp only [Instr.storeAt, Instr.sureAddr, q, Sem.run_bind, Sem.run_pure, Result.andThen_ok, storeVar, run_sizeOf' w hinf, if_neg hne, r1]

omit hT ht hr in
theorem exec_builtin {b : Builtin} {args : List Operand} {ats : List TypeId} {dst ty ps af gd} : ∃ consts, execOp a.eval ⟨dst, .call ⟨.builtin b, ⟨args⟩, ⟨ats⟩⟩, ty, ps, af, gd⟩ = builtin b ⟨ats⟩ ty consts ⟨args.map a.eval⟩ := by
  refine ⟨(⟨args⟩ : Array Operand).map fun | .const _ => true | _ => false, ?_⟩
  have hm : ((⟨args⟩ : Array Operand).map a.eval) = ⟨args.map a.eval⟩ := by apply Array.ext'; simp
  rw [← hm]; rfl

theorem mem_append (x y : Operand) (t1 t2 : TypeId) {dst ty ps af gd} {io : IOp} {v : Value} {h' : Heap} (hox : okO x = true) (hoy : okO y = true)
    (hc : compBuiltin tt .append [x, y] [t1, t2] = some io) (hv : memV t h io = some (v, h')) : MemGoal P φ h w a ⟨dst, .call ⟨.builtin .append, ⟨[x, y]⟩, ⟨[t1, t2]⟩⟩, ty, ps, af, gd⟩ v h' := by
  simp only [compBuiltin] at hc
  split at hc
  case h_2 => simp at hc
  rename_i i k hi hk
  have hu := hT.desc _ _ hi
  have hu2 := hT.desc _ _ hk
  split at hc
  case h_2 => simp at hc
  rename_i e hd
  rw [hd] at hu
  split at hc
  case h_2 => simp at hc
  rename_i j hj
  obtain ⟨inf, hinf, hi1, hi2, hi3, _⟩ := hT.info _ _ hj
  split at hc
  case h_2 => simp at hc
  rename_i z hz
  split at hc
  case isFalse => simp at hc
  rename_i hcond
  obtain ⟨c1, c2, c3, c4⟩ := hcond
  have e1 := evalO_rel ht hox
  have e2 := evalO_rel ht hoy
  obtain ⟨consts, hex⟩ := exec_builtin (a := a) (b := .append) (args := [x, y]) (ats := [t1, t2]) (dst := dst) (ty := ty) (ps := ps) (af := af) (gd := gd)
  have hexs : execOp a.eval ⟨dst, .call ⟨.builtin .append, ⟨[x, y]⟩, ⟨[t1, t2]⟩⟩, ty, ps, af, gd⟩ = valS (Builtin.append_ #[t1, t2] ty #[a.eval x, a.eval y]) := hex
  have hzz := (hi3 z hz).1
  cases hint : isInt k.desc with
  | false =>
    rw [hint] at hc
    simp only [cond_false, Option.some.injEq] at hc; subst hc
    simp only [memV] at hv
    split at hv
    case h_2 => simp at hv
    rename_i n hn
    split at hv
    case h_2 => simp at hv
    rename_i new hnew
    obtain ⟨new', f1, f2, f3⟩ := m_first (P := P) hr e2 hnew
    rw [← hi1] at f1 f3 hv c4
    rw [← hi2] at hv c2 c3
    obtain ⟨base, sLen, sCap, hxe, hall⟩ := m_append (P := P) hr e1 hv f2 f3 hinf rfl rfl hzz c4 c2 c3 (app := Builtin.firstCells inf.size n (a.eval y)) f1
    obtain ⟨φ', v', w', r1, r2, r3, r4⟩ := hall (a.eval y) false
    refine .of_val hexs ?_ r2 r3 r4
    rw [hxe, run_append_plain hu hu2 hint hinf (m_lenOf e2 hn w)]
    exact r1
  | true =>
    rw [hint] at hc
    simp only [cond_true, Option.some.injEq] at hc; subst hc
    simp only [memV] at hv
    split at hv
    case h_2 => simp at hv
    rename_i n hn
    obtain ⟨b1, hv⟩ := bif_some hv
    have hroom := ble_le b1
    obtain ⟨yk, hyk⟩ := natOf_some hn
    rw [hyk] at e2
    have e2 := e2.int_inv
    obtain ⟨ik, hik⟩ : ∃ ik, k.desc = .int ik := by
      cases hdk : k.desc <;> rw [hdk] at hint <;> first | exact ⟨_, rfl⟩ | simp [isInt] at hint
    rw [hik] at hu2
    rw [← hi1] at hv c4 c1
    rw [← hi2] at hv c2 c3 hroom
    have hzs : z.cells.size = inf.size := by rw [← c4]; simp
    have hzp : 0 < z.cells.size := by rw [hzs]; exact c1
    have hzl : (Builtin.zeroCells z.cells n).toList = repeatN z.cells.toList n := repeatN_toList hzp n
    obtain ⟨base, sLen, sCap, hxe, hall⟩ := m_append (P := P) hr e1 hv (new' := Builtin.zeroCells z.cells n) (by rw [hzl]; exact repeatN_rel (zero_rel (hi3 z hz).2) n) (by rw [repeatN_length, c4]) hinf rfl rfl hzz c4 c2 c3
      (app := if n * inf.size = 0 then pure #[] else do pure (Builtin.zeroCells (← zeroValue e).cells n)) (fun v _ => by
        by_cases h0 : n * inf.size = 0
        · have : Builtin.zeroCells z.cells n = #[] := by unfold Builtin.zeroCells; rw [hzs, h0]; simp
          rw [if_pos h0, this]; rfl
        · rw [if_neg h0]
          simp only [Sem.run_bind, run_zeroValue' v hinf hzz, Result.andThen_ok, Sem.run_pure])
    obtain ⟨φ', v', w', r1, r2, r3, r4⟩ := hall (a.eval y) true
    refine .of_val hexs ?_ r2 r3 r4
    rw [hxe, e2, run_append_zeros hu hu2 hinf c2 hroom]
    rw [e2] at r1
    exact r1

theorem mem_clear (x : Operand) (t1 : TypeId) {dst ty ps af gd} {io : IOp} {v : Value} {h' : Heap} (hox : okO x = true)
    (hc : compBuiltin tt .clear [x] [t1] = some io) (hv : memV t h io = some (v, h')) : MemGoal P φ h w a ⟨dst, .call ⟨.builtin .clear, ⟨[x]⟩, ⟨[t1]⟩⟩, ty, ps, af, gd⟩ v h' := by
  simp only [compBuiltin] at hc
  split at hc
  case h_2 => simp at hc
  rename_i i hi
  have hu := hT.desc _ _ hi
  split at hc
  case h_2 => simp at hc
  rename_i e hd
  rw [hd] at hu
  split at hc
  case h_2 => simp at hc
  rename_i j hj
  obtain ⟨inf, hinf, hi1, hi2, hi3, _⟩ := hT.info _ _ hj
  split at hc
  case h_2 => simp at hc
  rename_i z hz
  split at hc
  case isFalse => simp at hc
  rename_i c4
  simp only [Option.some.injEq] at hc; subst hc
  have e1 := evalO_rel ht hox
  obtain ⟨consts, hex⟩ := exec_builtin (a := a) (b := .clear) (args := [x]) (ats := [t1]) (dst := dst) (ty := ty) (ps := ps) (af := af) (gd := gd)
  have hexs : execOp a.eval ⟨dst, .call ⟨.builtin .clear, ⟨[x]⟩, ⟨[t1]⟩⟩, ty, ps, af, gd⟩ = valS (Builtin.clear_ #[t1] ty #[a.eval x]) := hex
  have hzz := (hi3 z hz).1
  simp only [memV] at hv
  split at hv
  · rename_i l c hx
    rw [hx] at e1
    simp only [Option.some.injEq, Prod.mk.injEq] at hv
    obtain ⟨rfl, rfl⟩ := hv
    refine .of_val (v' := undef) hexs ?_ (undef_rel _) hr (.refl _ _ _)
    rw [e1.sliceNil_inv]
    simp [Builtin.clear_, run_underlying hu]
    rfl
  · rename_i b n c hx
    rw [hx] at e1
    obtain ⟨im, c', q, g1, g2, _, _⟩ := e1.slice_inv
    cases hn0 : Nat.beq n 0 with
    | true =>
      rw [hn0] at hv
      simp only [cond_true, Option.some.injEq, Prod.mk.injEq] at hv
      obtain ⟨rfl, rfl⟩ := hv
      have := beq_eq' hn0; subst this
      refine .of_val (v' := undef) hexs ?_ (undef_rel _) hr (.refl _ _ _)
      rw [q]
      simp [Builtin.clear_, run_underlying hu]
      rfl
    | false =>
      rw [hn0] at hv
      simp only [cond_false] at hv
      split at hv
      case h_2 => simp at hv
      rename_i h2 hst
      simp only [Option.some.injEq, Prod.mk.injEq] at hv
      obtain ⟨rfl, rfl⟩ := hv
      have hn := beq_ne' hn0
      by_cases hzp : 0 < z.cells.size
      · have hzl : (Builtin.zeroCells z.cells n).toList = repeatN z.cells.toList n := repeatN_toList hzp n
        obtain ⟨w', r1, r2, r3⟩ := m_storeN (P := P) hr (a' := ⟨im.blk, b.off, none⟩) ⟨im, g1, rfl, g2⟩ (repeatN_rel (zero_rel (hi3 z hz).2) n) hst
        refine .of_val (v' := undef) hexs ?_ (undef_rel _) r2 r3
        rw [q]
        obtain ⟨m, rfl⟩ : ∃ m, n = m + 1 := ⟨n - 1, by omega⟩
        simp [Builtin.clear_, run_underlying hu, run_zeroValue' w hinf hzz, hzl, r1]
        rfl
      · have hz0 : z.cells.size = 0 := by omega
        have hrep : repeatN z.cells.toList n = [] := by
          have := repeatN_length z.cells.toList n
          rw [show z.cells.toList.length = 0 by simpa using hz0] at this
          exact List.eq_nil_of_length_eq_zero (by simpa using this)
        have hzc : (Builtin.zeroCells z.cells n).toList = [] := by
          have := zeroCells_eq z.cells n
          rw [hz0] at this
          exact List.eq_nil_of_length_eq_zero (by simpa using this)
        rw [hrep] at hst
        obtain ⟨w', r1, r2, r3⟩ := m_storeN (P := P) hr (a' := ⟨im.blk, b.off, none⟩) ⟨im, g1, rfl, g2⟩ LRel.nil hst
        refine .of_val (v' := undef) hexs ?_ (undef_rel _) r2 r3
        rw [q]
        obtain ⟨m, rfl⟩ : ∃ m, n = m + 1 := ⟨n - 1, by omega⟩
        simp [Builtin.clear_, run_underlying hu, run_zeroValue' w hinf hzz, hzc, r1]
        rfl
  · simp at hv

theorem mem_copy (x y : Operand) (t1 t2 : TypeId) {dst ty ps af gd} {io : IOp} {v : Value} {h' : Heap} (hox : okO x = true) (hoy : okO y = true)
    (hc : compBuiltin tt .copy [x, y] [t1, t2] = some io) (hv : memV t h io = some (v, h')) : MemGoal P φ h w a ⟨dst, .call ⟨.builtin .copy, ⟨[x, y]⟩, ⟨[t1, t2]⟩⟩, ty, ps, af, gd⟩ v h' := by
  simp only [compBuiltin] at hc
  split at hc
  case h_2 => simp at hc
  rename_i i hi
  have hu := hT.desc _ _ hi
  split at hc
  case h_2 => simp at hc
  rename_i e hd
  rw [hd] at hu
  split at hc
  case h_2 => simp at hc
  rename_i j hj
  obtain ⟨inf, hinf, hi1, hi2, hi3, _⟩ := hT.info _ _ hj
  simp only [Option.some.injEq] at hc; subst hc
  have e1 := evalO_rel ht hox
  have e2 := evalO_rel ht hoy
  obtain ⟨consts, hex⟩ := exec_builtin (a := a) (b := .copy) (args := [x, y]) (ats := [t1, t2]) (dst := dst) (ty := ty) (ps := ps) (af := af) (gd := gd)
  have hexs : execOp a.eval ⟨dst, .call ⟨.builtin .copy, ⟨[x, y]⟩, ⟨[t1, t2]⟩⟩, ty, ps, af, gd⟩ = valS (Builtin.copy_ #[t1, t2] ty #[a.eval x, a.eval y]) := hex
  simp only [memV] at hv
  split at hv
  case h_2 => simp at hv
  rename_i base dLen dCap sl hx hsl
  rw [hx] at e1
  split at hv
  case h_2 => simp at hv
  rename_i c hfc
  obtain ⟨c', f1, f2, f3⟩ := m_first (P := P) hr e2 hfc
  have hlo := m_lenOf (P := P) e2 hsl w
  cases base with
  | none =>
    simp only [Option.some.injEq, Prod.mk.injEq] at hv
    obtain ⟨rfl, rfl⟩ := hv
    refine .of_val (v' := .int .i64 (.ofNat (Nat.min sl dLen))) hexs ?_ (.int _ _) hr (.refl _ _ _)
    rw [e1.sliceNil_inv]
    simp only [Builtin.copy_, List.getElem?_toArray, List.getElem?_cons_zero, List.getElem?_cons_succ, Sem.run_bind, run_underlying hu, Result.andThen_ok, hlo, run_sizeOf' w hinf, hi1, f1 w rfl, Sem.run_pure]
    rfl
  | some b =>
    simp only at hv
    split at hv
    case h_2 => simp at hv
    rename_i h2 hst
    simp only [Option.some.injEq, Prod.mk.injEq] at hv
    obtain ⟨rfl, rfl⟩ := hv
    obtain ⟨im, cc, q, g1, g2, _, _⟩ := e1.slice_inv
    obtain ⟨w', r1, r2, r3⟩ := m_storeN (P := P) hr (a' := ⟨im.blk, b.off, none⟩) ⟨im, g1, rfl, g2⟩ f2 hst
    refine .of_val (v' := .int .i64 (.ofNat (Nat.min sl dLen))) hexs ?_ (.int _ _) r2 r3
    rw [q]
    simp only [Builtin.copy_, List.getElem?_toArray, List.getElem?_cons_zero, List.getElem?_cons_succ, Sem.run_bind, run_underlying hu, Result.andThen_ok, hlo, run_sizeOf' w hinf, hi1, f1 w rfl, r1, Sem.run_pure]
    rfl

end

end Go.Ab
