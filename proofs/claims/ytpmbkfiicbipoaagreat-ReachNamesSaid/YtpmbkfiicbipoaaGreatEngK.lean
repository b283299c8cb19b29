/- A part of the proof. The abstract machine: maps, and all operations that touch memory. No condition. -/
import Derived.Test.YtpmbkfiicbipoaaGreatEngJ
/-! The abstract machine: maps, and all operations that touch memory. -/
namespace Go.Ab

section
variable {P : Program} {φ : Phi} {h : Heap} {w : World}

theorem HRel.setMap (hr : HRel φ h w) {i : Nat} {im : Img} {es es2 : List (Value × Value)} {ents ents2 : Array MapEntry} {cl cl2 : Nat} (hi : h.blks i = some (.map es)) (him : φ i = some im)
    (hb : w.heap[im.blk]? = some (.map ents cl)) (hm : MRel φ es2 ents2.toList) :
    HRel φ (h.setB i (.map es2)) { w with heap := w.heap.setIfInBounds im.blk (.map ents2 cl2) } ∧ Ext φ h w φ (h.setB i (.map es2)) { w with heap := w.heap.setIfInBounds im.blk (.map ents2 cl2) } := by
  have live : ∀ j, (h.setB i (.map es2)).live j ↔ h.live j := by
    intro j
    unfold Heap.live
    constructor
    · rintro ⟨b, hj, hne⟩
      rw [Heap.get_setB] at hj
      split at hj
      · rename_i hji; subst hji; exact ⟨_, hi, by simp⟩
      · exact ⟨b, hj, hne⟩
    · rintro ⟨b, hj, hne⟩
      by_cases hji : j = i
      · subst hji; exact ⟨.map es2, by rw [Heap.get_setB, if_pos rfl], by simp⟩
      · exact ⟨b, by rw [Heap.get_setB, if_neg hji]; exact hj, hne⟩
  have hlive : h.live i := ⟨_, hi, by simp⟩
  have other : ∀ j jm, h.live j → φ j = some jm → j ≠ i → im.blk ≠ jm.blk := fun j jm hj hjm hne he => hne (hr.inj j i jm im hj hlive hjm him he.symm)
  have hlt : im.blk < w.heap.size := (Array.getElem?_eq_some_iff.1 hb).1
  constructor
  · refine ⟨?_, ?_, ?_, ?_, ?_⟩
    · intro j jm hj; simp only [Array.size_setIfInBounds]; exact hr.dom j jm hj
    · intro j hj
      rw [Heap.get_setB]
      split
      · rename_i hji; subst hji
        have := hr.none j hj
        rw [hi] at this; simp at this
      · exact hr.none j hj
    · intro j jm c' g' k1 hj
      rw [Heap.get_setB] at hj
      split at hj
      · simp at hj
      · rename_i hji
        obtain ⟨arr', e', k2, k3, k4⟩ := hr.cells j jm c' g' k1 hj
        exact ⟨arr', e', by simp only [Array.getElem?_setIfInBounds_ne (other j jm ⟨_, hj, by simp⟩ k1 hji)]; exact k2, k3, k4⟩
    · intro j jm es k1 hj
      rw [Heap.get_setB] at hj
      split at hj
      · rename_i hji; subst hji
        rw [him] at k1; obtain rfl := Option.some.inj k1
        simp only [Option.some.injEq, Blk.map.injEq] at hj
        subst hj
        exact ⟨ents2, cl2, by simp [hlt], hm⟩
      · rename_i hji
        obtain ⟨ents, cl, k2, k3⟩ := hr.map j jm es k1 hj
        exact ⟨ents, cl, by simp only [Array.getElem?_setIfInBounds_ne (other j jm ⟨_, hj, by simp⟩ k1 hji)]; exact k2, k3⟩
    · intro j k jm km hj hk h1 h2 h3
      exact hr.inj j k jm km ((live j).1 hj) ((live k).1 hk) h1 h2 h3
  · refine ⟨fun _ _ h => h, ?_, ?_, by simp, Nat.le_refl _, rfl, rfl, rfl, fun _ _ => rfl, fun hf j hj => hf j ((live j).1 hj), fun a => by
      unfold World.frozen?
      by_cases he : im.blk = a.block
      · rw [← he, hb]; simp [hlt]
      · simp only [Array.getElem?_setIfInBounds_ne he]⟩
    · intro b _ hn
      exact Array.getElem?_setIfInBounds_ne (hn i im hlive him)
    · intro j jm hj hjm
      exact .inr ⟨j, jm, (live j).1 hj, hjm, rfl⟩

theorem VRel.mapNil_inv {v : Value} (hv : VRel φ (.map none) v) : v = .map none := by cases hv; rfl
theorem VRel.map_inv {r : Nat} {v : Value} (hv : VRel φ (.map (some r)) v) : ∃ im : Img, v = .map (some im.blk) ∧ φ r = some im := by cases hv; exact ⟨_, rfl, by assumption⟩

theorem MRel.length {φ : Phi} : ∀ {es : List (Value × Value)} {ents : List MapEntry}, MRel φ es ents → es.length = ents.length
  | [], [], _ => rfl
  | (_, _) :: _, _ :: _, ⟨_, _, h3⟩ => by simp [MRel.length h3]
  | [], _ :: _, h => h.elim
  | _ :: _, [], h => h.elim

theorem sameKey {d : TypeDesc} {k j j' : Value} {b : Bool} (hd : fitsD d k = true) (hs : scEq k j = some b) (hj : VRel φ j j') : Instr.sameNow d k j' = some b ∧ (b = true → Instr.sameBits 10000 j' k = true) := by
  unfold scEq at hs
  split at hs
  · simp only [Option.some.injEq] at hs; subst hs
    rw [hj.bool_inv]
    refine ⟨by cases d <;> first | rfl | simp [fitsD] at hd, ?_⟩
    intro h; simp only [beq_iff_eq] at h; subst h; simp [Instr.sameBits]
  · obtain ⟨hsk, hs2⟩ := bif_some hs
    obtain rfl := sameKind_eq hsk
    simp only [Option.some.injEq] at hs2; subst hs2
    rw [hj.int_inv, ieq_eq]
    refine ⟨by cases d <;> first | (simp [Instr.sameNow]; done) | simp [fitsD] at hd, ?_⟩
    intro h; simp only [beq_iff_eq] at h; subst h; simp [Instr.sameBits]
  · simp only [Option.some.injEq] at hs; subst hs
    rw [hj.string_inv, beqBytes_eq, ← beq_toListBytes]
    refine ⟨by cases d <;> first | rfl | simp [fitsD] at hd, ?_⟩
    intro h; rw [beq_toListBytes] at h; simp only [beq_iff_eq] at h
    rw [ByteArray.toList_eq, ByteArray.toList_eq] at h
    rename_i x y
    obtain ⟨⟨x⟩⟩ := x; obtain ⟨⟨y⟩⟩ := y
    obtain rfl : x = y := h
    show ((⟨⟨x⟩⟩ : ByteArray) == ⟨⟨x⟩⟩) = true
    rw [beq_toListBytes]; simp
  · simp at hs

theorem m_put {d : TypeDesc} {k v v' : Value} (hd : fitsD d k = true) (hkk : VRel φ k k) (hv : VRel φ v v') : ∀ {es es' : List (Value × Value)} {ents : List MapEntry} (i : Nat), keyPut k v es = some es' → MRel φ es ents →
    (Instr.findNow d k ents i = some none ∧ ∀ b, MRel φ es' (ents ++ [{ key := k, val := v', born := b }])) ∨
    (∃ p e x, Instr.findNow d k ents i = some (some (i + p, x)) ∧ ents[p]? = some e ∧ Instr.sameBits 10000 e.key k = true ∧ MRel φ es' (ents.modify p fun e => { e with key := k, val := v' }))
  | [], es', [], i, hp, _ => by
    simp only [keyPut, Option.some.injEq] at hp; subst hp
    exact .inl ⟨rfl, fun b => ⟨hkk, hv, trivial⟩⟩
  | [], _, _ :: _, _, _, hm => hm.elim
  | _ :: _, _, [], _, _, hm => hm.elim
  | (j, x) :: es, es', e :: ents, i, hp, ⟨h1, h2, h3⟩ => by
    simp only [keyPut] at hp
    cases hs : scEq k j with
    | none => rw [hs] at hp; simp at hp
    | some b =>
      rw [hs] at hp
      obtain ⟨n1, n2⟩ := sameKey hd hs h1
      cases b with
      | true =>
        simp only [Option.some.injEq] at hp; subst hp
        exact .inr ⟨0, e, e.val, by simp only [Instr.findNow, n1]; rfl, rfl, n2 rfl, hkk, hv, h3⟩
      | false =>
        simp only at hp
        cases hq : keyPut k v es with
        | none => rw [hq] at hp; simp at hp
        | some r =>
          rw [hq] at hp
          simp only [Option.some.injEq] at hp; subst hp
          rcases m_put hd hkk hv (i + 1) hq h3 with ⟨a1, a2⟩ | ⟨p, e', x', a1, a2, a3, a4⟩
          · exact .inl ⟨by simp only [Instr.findNow, n1]; exact a1, fun b => ⟨h1, h2, a2 b⟩⟩
          · refine .inr ⟨p + 1, e', x', by simp only [Instr.findNow, n1]; rw [a1]; congr 3; omega, a2, a3, ?_⟩
            exact ⟨h1, h2, a4⟩

variable {tt : T TI} (hT : TOk P tt) {t : Fm} {a : Act} (ht : TRel φ t a) (hr : HRel φ h w)

include hr in
theorem mem_makeMap (ti : TypeId) (r : Option Operand) {dst ty ps af gd} {io : IOp} {v : Value} {h' : Heap} (hc : compOp tt ⟨dst, .makeMap ti r, ty, ps, af, gd⟩ = some io) (hv : memV t h io = some (v, h')) :
    MemGoal P φ h w a ⟨dst, .makeMap ti r, ty, ps, af, gd⟩ v h' := by
  cases r with
  | some r => simp [compOp] at hc
  | none =>
    simp only [compOp, Option.some.injEq] at hc; subst hc
    simp only [memV, Option.some.injEq, Prod.mk.injEq] at hv
    obtain ⟨rfl, rfl⟩ := hv
    obtain ⟨g1, g2, g3⟩ := m_push hr (b := .map []) (o := .map #[] 0) (w' := { w with heap := w.heap.push (.map #[] 0) }) (im := ⟨w.heap.size, none⟩) rfl rfl rfl rfl rfl (by simp) (fun es he => by
      simp only [Blk.map.injEq] at he; subst he; exact ⟨#[], 0, rfl, trivial⟩)
    refine .of_val (v' := .map (some w.heap.size)) (show _ = valS (Instr.makeMap ti none) from rfl) ?_ (.map _ _ _ g3) g1 g2
    rfl

include hT ht hr in
theorem mem_insert_gen (ti : TypeId) (m k x : Operand) {v : Value} {h' : Heap} {i : TI} {kt et : TypeId} {j : TI} (hok : okO m = true) (hokk : okO k = true) (hokx : okO x = true)
    (hi : tt.get ti = some i) (hd : i.desc = .map kt et) (hj : tt.get kt = some j) (hv : memV t h (.insert j.desc m k x) = some (v, h')) :
    v = undef ∧ ∃ w', (Instr.mapUpdate ti (a.eval m) (a.eval k) (a.eval x)).run P w = .ok () w' ∧ HRel φ h' w' ∧ Ext φ h w φ h' w' := by
  have hu := hT.desc _ _ hi
  rw [hd] at hu
  have huk := hT.desc _ _ hj
  have e1 := evalO_rel ht hok
  have e2 := evalO_rel ht hokk
  have e3 := evalO_rel ht hokx
  simp only [memV] at hv
  split at hv
  case h_2 => simp at hv
  rename_i r hm
  rw [hm] at e1
  split at hv
  case h_2 => simp at hv
  rename_i es hg
  obtain ⟨hfit, hv⟩ := bif_some hv
  split at hv
  case h_2 => simp at hv
  rename_i es' hput
  simp only [Option.some.injEq, Prod.mk.injEq] at hv
  obtain ⟨rfl, rfl⟩ := hv
  refine ⟨rfl, ?_⟩
  have hkk := fits_same hfit e2
  rw [hkk] at e2
  obtain ⟨im, q1, q2⟩ := e1.map_inv
  obtain ⟨ents, cl, p2, p3⟩ := hr.map _ _ _ q2 hg
  rw [q1]
  have hck := run_checkKey (P := P) (w := w) huk hfit false _ rfl
  rcases m_put hfit e2 e3 0 hput p3 with ⟨a1, a2⟩ | ⟨p, e', x', a1, a2, a3, a4⟩
  · obtain ⟨b1, b2⟩ := HRel.setMap hr (ents2 := ents.push { key := evalO t k, val := a.eval x, born := cl }) (cl2 := cl + 1) hg q2 p2 (by rw [Array.toList_push]; exact a2 cl)
    refine ⟨_, ?_, b1, b2⟩
    have hfk := run_findKey (w := w) huk a1
    simp only [Instr.mapUpdate, Sem.run_bind, run_underlying hu, Result.andThen_ok, run_getObj_map p2, hck, hkk, hfk]
    exact run_setObj_map _ p2
  · obtain ⟨b1, b2⟩ := HRel.setMap hr (ents2 := ents.modify p fun e => { e with key := evalO t k, val := a.eval x }) (cl2 := cl) hg q2 p2 (by rw [Array.toList_modify]; exact a4)
    refine ⟨_, ?_, b1, b2⟩
    rw [Nat.zero_add] at a1
    have hfk := run_findKey (w := w) huk a1
    have hget : ents[p]? = some e' := by rw [← Array.getElem?_toList]; exact a2
    simp only [Instr.mapUpdate, Sem.run_bind, run_underlying hu, Result.andThen_ok, run_getObj_map p2, hck, hkk, hfk, hget, Option.map_some, Option.getD_some, Instr.keyThatStays, a3, if_true, Sem.run_pure]
    exact run_setObj_map _ p2

include hT ht hr in
theorem mem_lookup_gen (ti : TypeId) (m k : Operand) (ok : Bool) {z : Value} {v : Value} {h' : Heap} {i : TI} {kt et : TypeId} {j q : TI} (hokm : okO m = true) (hokk : okO k = true)
    (hi : tt.get ti = some i) (hd : i.desc = .map kt et) (hj : tt.get kt = some j) (hq : tt.get et = some q) (hz : q.zero = some z) (hv : memV t h (.lookup j.desc m k z ok) = some (v, h')) :
    h' = h ∧ ∃ v', (Instr.lookup ti (a.eval m) (a.eval k) ok).run P w = .ok v' w ∧ VRel φ v v' := by
  have hu := hT.desc _ _ hi
  rw [hd] at hu
  have huk := hT.desc _ _ hj
  obtain ⟨inf, hinf, _, _, hi3, _⟩ := hT.info _ _ hq
  have hzz := (hi3 z hz)
  have hzr : VRel φ z z := plainV_rel 8 z hzz.2
  have e1 := evalO_rel ht hokm
  have e2 := evalO_rel ht hokk
  simp only [memV] at hv
  split at hv
  · rename_i hm
    rw [hm] at e1
    obtain ⟨hfit, hv⟩ := bif_some hv
    simp only [Option.some.injEq, Prod.mk.injEq] at hv
    obtain ⟨rfl, rfl⟩ := hv
    refine ⟨rfl, ?_⟩
    have hkk := fits_same hfit e2
    rw [e1.mapNil_inv, hkk]
    have hck := run_checkKey (P := P) (w := w) huk hfit true _ rfl
    have hfk := run_findKey (P := P) (w := w) (k := evalO t k) (es := []) (q := none) huk rfl
    have hrun : (Instr.lookup ti (.map none) (evalO t k) ok).run P w = .ok (if ok then .tuple #[z, .bool false] else z) w := by
      simp only [Instr.lookup, Sem.run_bind, run_underlying hu, Result.andThen_ok, Sem.run_pure, show (#[] : Array MapEntry).isEmpty = true from rfl, hck, hfk, run_zeroValue' w hinf hzz.1]
    refine ⟨_, hrun, ?_⟩
    cases ok
    · exact hzr
    · exact .tuple _ _ (.cons _ _ _ _ hzr (.cons _ _ _ _ (.bool _) .nil))
  · rename_i r hm
    rw [hm] at e1
    split at hv
    case h_2 => simp at hv
    rename_i es hg
    obtain ⟨hfit, hv⟩ := bif_some hv
    have hkk := fits_same hfit e2
    obtain ⟨im, q1, q2⟩ := e1.map_inv
    obtain ⟨ents, cl, p2, p3⟩ := hr.map _ _ _ q2 hg
    rw [q1, hkk]
    have hck := fun b => run_checkKey (P := P) (w := w) huk hfit b _ rfl
    split at hv
    · rename_i x hf
      simp only [Option.some.injEq, Prod.mk.injEq] at hv
      obtain ⟨rfl, rfl⟩ := hv
      obtain ⟨_, f1, jj, x', rfl, f2⟩ := m_find huk hfit 0 hf p3
      have hfk := run_findKey (P := P) (w := w) huk f1
      refine ⟨rfl, if ok then .tuple #[x', .bool true] else x', ?_, ?_⟩
      · simp only [Instr.lookup, Sem.run_bind, run_underlying hu, Result.andThen_ok, run_getObj_map p2, Sem.run_pure, hck, hfk]
      · cases ok
        · exact f2
        · exact .tuple _ _ (.cons _ _ _ _ f2 (.cons _ _ _ _ (.bool _) .nil))
    · rename_i hf
      simp only [Option.some.injEq, Prod.mk.injEq] at hv
      obtain ⟨rfl, rfl⟩ := hv
      obtain ⟨_, f1, rfl⟩ := m_find huk hfit 0 hf p3
      have hfk := run_findKey (P := P) (w := w) huk f1
      refine ⟨rfl, if ok then .tuple #[z, .bool false] else z, ?_, ?_⟩
      · simp only [Instr.lookup, Sem.run_bind, run_underlying hu, Result.andThen_ok, run_getObj_map p2, Sem.run_pure, hck, hfk, run_zeroValue' w hinf hzz.1]
      · cases ok
        · exact hzr
        · exact .tuple _ _ (.cons _ _ _ _ hzr (.cons _ _ _ _ (.bool _) .nil))
    · simp at hv
  · simp at hv

include hT ht hr in
theorem mem_lenm (x : Operand) {i : TI} {t1 kt et : TypeId} {dst ty ps af gd} {v : Value} {h' : Heap} (hox : okO x = true) (hi : tt.get t1 = some i) (hd : i.desc = .map kt et)
    (hv : memV t h (.lenm x) = some (v, h')) : MemGoal P φ h w a ⟨dst, .call ⟨.builtin .len, ⟨[x]⟩, ⟨[t1]⟩⟩, ty, ps, af, gd⟩ v h' := by
  have hu := hT.desc _ _ hi
  rw [hd] at hu
  have e1 := evalO_rel ht hox
  obtain ⟨consts, hex⟩ := exec_builtin (a := a) (b := .len) (args := [x]) (ats := [t1]) (dst := dst) (ty := ty) (ps := ps) (af := af) (gd := gd)
  have hexs : execOp a.eval ⟨dst, .call ⟨.builtin .len, ⟨[x]⟩, ⟨[t1]⟩⟩, ty, ps, af, gd⟩ = valS (Builtin.len_ #[t1] ty #[a.eval x]) := hex
  simp only [memV] at hv
  split at hv
  · rename_i hm
    rw [hm] at e1
    simp only [Option.some.injEq, Prod.mk.injEq] at hv
    obtain ⟨rfl, rfl⟩ := hv
    refine .of_val (v' := .int .i64 (.ofNat 0)) hexs ?_ (.int _ _) hr (.refl _ _ _)
    rw [e1.mapNil_inv]
    simp only [Builtin.len_, List.getElem?_toArray, List.getElem?_cons_zero, Sem.run_bind, run_underlying hu, Result.andThen_ok, Sem.run_pure]
    rfl
  · rename_i r hm
    rw [hm] at e1
    split at hv
    case h_2 => simp at hv
    rename_i es hg
    simp only [Option.some.injEq, Prod.mk.injEq] at hv
    obtain ⟨rfl, rfl⟩ := hv
    obtain ⟨im, q1, q2⟩ := e1.map_inv
    obtain ⟨ents, cl, p2, p3⟩ := hr.map _ _ _ q2 hg
    refine .of_val (v' := .int .i64 (.ofNat es.length)) hexs ?_ (.int _ _) hr (.refl _ _ _)
    rw [q1]
    have hl : ents.size = es.length := by rw [MRel.length p3]; simp
    simp only [Builtin.len_, List.getElem?_toArray, List.getElem?_cons_zero, Sem.run_bind, run_underlying hu, Result.andThen_ok, run_getObj_map p2, Sem.run_pure, hl]
    rfl
  · simp at hv

end
end Go.Ab
