/- A part of the proof. The abstract machine: append. No condition. -/
import Derived.Test.YtpmbkfiicbipoaaGreatEngG
/-! The abstract machine: append. -/
namespace Go.Ab

def appendV (h : Heap) (x : Value) (n : Nat) (new : List Value) (esz ebytes : Nat) : Option (Value × Heap) :=
  match x with
  | .slice base sLen sCap =>
    bif Nat.ble (sLen + n) sCap then
      (match base with
       | none => some (.slice none (sLen + n) sCap, h)
       | some a => match h.storeN (addA a (sLen * esz)) new with
         | some h' => some (.slice base (sLen + n) sCap, h')
         | none => none)
    else bif Nat.ble ((sLen + n) * ebytes) 70368744177664 then
      (match base with
       | none => bif Nat.beq sLen 0 then some (.slice (some ⟨h.next, 0, some esz⟩) (sLen + n) (sLen + n), h.push (.cells new (some esz))) else none
       | some a => match h.blks a.block, h.loadN a (sLen * esz) with
         | some (.cells c _), some old =>
           (match a.spot with
            | none => some (.slice (some ⟨h.next, 0, some esz⟩) (sLen + n) (sLen + n), h.push (.cells (old ++ new) (some esz)))
            | some z => bif and3 (Nat.beq z esz) (Nat.beq a.off 0) (Nat.beq (sLen * esz) c.length && allB oneCellB new) then
                some (.slice (some ⟨h.next, 0, some esz⟩) (sLen + n) (sLen + n), (h.setB a.block .gone).push (.cells (old ++ new) (some esz)))
              else none)
         | _, _ => none)
    else none
  | _ => none

theorem growBy_le (n : Nat) : ∀ (r c : Nat), Builtin.growBy n r c ≤ Nat.max c (n + (n + 768) / 4)
  | 0, c => by unfold Builtin.growBy; exact Nat.le_max_left _ _
  | r + 1, c => by
    unfold Builtin.growBy
    split
    · exact Nat.le_max_left _ _
    · rename_i hc
      refine Nat.le_trans (growBy_le n r _) ?_
      have : c + (c + 768) / 4 ≤ n + (n + 768) / 4 := by omega
      exact Nat.max_le.2 ⟨Nat.le_trans this (Nat.le_max_right _ _), Nat.le_max_right _ _⟩

theorem nextcap_le {need cap : Nat} (h : cap < need) : Builtin.nextslicecap need cap ≤ 2 * need + 192 := by
  unfold Builtin.nextslicecap
  split
  · omega
  · split
    · omega
    · refine Nat.le_trans (growBy_le _ _ _) ?_
      refine Nat.max_le.2 ⟨by omega, by omega⟩

section
variable {P : Program} {φ : Phi} {h : Heap} {w : World}

/-- the end of the model's append, behind its first looks -/
def appTail (elem : TypeId) (base : Option Addr) (sLen sCap size n : Nat) (s x : Value) (zeros : Bool) (appended : Sem (Array Value)) : Sem Value := do
  let need := sLen + n
  if need ≤ sCap then
    let new ← appended
    if let some a := base then storeCells (a.add (sLen * size)) new.toList
    pure (.slice base need sCap)
  else
    if (need : Int) > IntKind.i64.max ∧ (zeros ∨ (← typeInfo elem).bytes = 0) then runtimePanic (.error "growslice: len out of range")
    if Builtin.nextslicecap need sCap * (← typeInfo elem).bytes > 2 ^ 48 then (if zeros then runtimePanic (.error "growslice: len out of range") else do
      if !(← Builtin.mayShare size sLen n base x) then mark .noRoom
      unsupported (.resourceLimit "append: a slice or a string whose bytes no memory bears"))
    let newCap ← choose (.appendCap need sCap elem)
    askRoom (newCap * (← typeInfo elem).bytes)
    let old ← Builtin.firstCells size sLen s
    let new ← appended
    let rest := Builtin.zeroCells (← zeroValue elem).cells (newCap - need)
    pure (.slice (some (← newRow elem (old ++ new ++ rest))) need newCap)

theorem run_append_plain {sT xT ty e : TypeId} {dx : TypeDesc} {inf : TypeInfo} {base : Option Addr} {sLen sCap n : Nat} {x : Value} (hs : P.underlying sT = some (.slice e)) (hx : P.underlying xT = some dx)
    (hd : isInt dx = false) (he : P.info? e = some inf) (hn : (Builtin.lenOf x).run P w = .ok n w) :
    (Builtin.append_ #[sT, xT] ty #[.slice base sLen sCap, x]).run P w = (appTail e base sLen sCap inf.size n (.slice base sLen sCap) x false (Builtin.firstCells inf.size n x)).run P w := by
  unfold Builtin.append_
  simp only [List.getElem?_toArray, List.getElem?_cons_zero, List.getElem?_cons_succ]
  rw [Sem.run_bind, run_underlying hs, Result.andThen_ok]
  dsimp only
  rw [Sem.run_bind, run_sizeOf' w he, Result.andThen_ok, Sem.run_bind, run_underlying hx, Result.andThen_ok, Sem.run_bind, Sem.run_pure, Result.andThen_ok]
  cases dx <;> first
    | (simp [isInt] at hd; done)
    | (rw [if_neg (by simp), Sem.run_bind, hn, Result.andThen_ok]; rfl)


theorem run_append_zeros {sT xT ty e : TypeId} {ik k : IntKind} {inf : TypeInfo} {base : Option Addr} {sLen sCap n : Nat} (hs : P.underlying sT = some (.slice e)) (hx : P.underlying xT = some (.int ik))
    (he : P.info? e = some inf) (hb : 0 < inf.bytes) (hn : n * inf.bytes ≤ 70368744177664) :
    (Builtin.append_ #[sT, xT] ty #[.slice base sLen sCap, .int k (Int.ofNat n)]).run P w = (appTail e base sLen sCap inf.size n (.slice base sLen sCap) (.int k (Int.ofNat n)) true
      (if n * inf.size = 0 then pure #[] else do pure (Builtin.zeroCells (← zeroValue e).cells n))).run P w := by
  have hn' : n ≤ 70368744177664 := Nat.le_trans (Nat.le_mul_of_pos_right n hb) hn
  have hw : IntKind.i64.wrap (Int.ofNat n) = Int.ofNat n := wrap_i64_small _ (by simp only [Int.ofNat_eq_natCast]; omega) (by simp only [Int.ofNat_eq_natCast]; omega)
  have h0 : ¬ (Int.ofNat n < 0) := by simp
  have h1 : ¬ (Int.ofNat n * (inf.bytes : Int) > 2 ^ 48) := by
    have : (Int.ofNat n * (inf.bytes : Int)) = ((n * inf.bytes : Nat) : Int) := by simp
    rw [this]
    have : (2 : Int) ^ 48 = 281474976710656 := by decide
    rw [this]; omega
  unfold Builtin.append_
  simp only [List.getElem?_toArray, List.getElem?_cons_zero, List.getElem?_cons_succ]
  rw [Sem.run_bind, run_underlying hs, Result.andThen_ok]
  dsimp only
  rw [Sem.run_bind, run_sizeOf' w he, Result.andThen_ok, Sem.run_bind, run_underlying hx, Result.andThen_ok, Sem.run_bind, Sem.run_pure, Result.andThen_ok]
  rw [if_pos (by simp), Sem.run_bind]
  have hai : (asInt (.int k (Int.ofNat n))).run P w = .ok (Int.ofNat n) w := rfl
  rw [hai, Result.andThen_ok, hw]
  dsimp only
  rw [if_neg h0, Sem.run_bind, run_typeInfo' w he, Result.andThen_ok, if_neg h1]
  rw [Sem.run_bind, Sem.run_pure, Result.andThen_ok]
  rfl

theorem run_tail_in {e : TypeId} {base : Option Addr} {sLen sCap size n : Nat} {s x : Value} {zeros : Bool} {app : Sem (Array Value)} {new' : Array Value} {w' : World} (hle : sLen + n ≤ sCap)
    (ha : app.run P w = .ok new' w) (hst : ∀ b, base = some b → (storeCells (b.add (sLen * size)) new'.toList).run P w = .ok () w') (hno : base = none → w' = w) :
    (appTail e base sLen sCap size n s x zeros app).run P w = .ok (.slice base (sLen + n) sCap) w' := by
  unfold appTail
  simp only [if_pos hle, Sem.run_bind, ha, Result.andThen_ok]
  cases base with
  | none => rw [hno rfl]; rfl
  | some b => simp only [Sem.run_bind, hst b rfl, Result.andThen_ok, Sem.run_pure]

theorem zeroCells_eq (z : Array Value) (n : Nat) : (Builtin.zeroCells z n).size = n * z.size := by
  simp [Builtin.zeroCells]

theorem run_tail_out {e : TypeId} {inf : TypeInfo} {z : Value} {base : Option Addr} {sLen sCap size n : Nat} {s x : Value} {zeros : Bool} {app : Sem (Array Value)} {old' new' : Array Value}
    (hlt : sCap < sLen + n) (he : P.info? e = some inf) (hz : inf.zero = some z) (hb : 0 < inf.bytes) (hbb : inf.bytes ≤ 1048576) (hroom : (sLen + n) * inf.bytes ≤ 70368744177664)
    (hold : ∀ v : World, v.heap = w.heap → (Builtin.firstCells size sLen s).run P v = .ok old' v) (ha : ∀ v : World, v.heap = w.heap → app.run P v = .ok new' v) :
    ∃ nc w', sLen + n ≤ nc ∧ Same w w' ∧ (appTail e base sLen sCap size n s x zeros app).run P w =
      .ok (.slice (some ⟨w.heap.size, 0, none⟩) (sLen + n) nc) { w' with heap := w'.heap.push (.cells (old' ++ new' ++ Builtin.zeroCells z.cells (nc - (sLen + n))) e) } := by
  have hneed : sLen + n ≤ 70368744177664 := Nat.le_trans (Nat.le_mul_of_pos_right _ hb) hroom
  have hcap := nextcap_le hlt
  have h1 : ¬ (((sLen + n : Nat) : Int) > IntKind.i64.max ∧ (zeros = true ∨ inf.bytes = 0)) := by
    have : IntKind.i64.max = 9223372036854775807 := by decide
    rw [this]; rintro ⟨h, _⟩; omega
  have h2 : ¬ (Builtin.nextslicecap (sLen + n) sCap * inf.bytes > 2 ^ 48) := by
    have : Builtin.nextslicecap (sLen + n) sCap * inf.bytes ≤ (2 * (sLen + n) + 192) * inf.bytes := Nat.mul_le_mul_right _ hcap
    have e2 : (2 * (sLen + n) + 192) * inf.bytes = 2 * ((sLen + n) * inf.bytes) + 192 * inf.bytes := by rw [Nat.add_mul, Nat.mul_assoc]
    have : (2 : Nat) ^ 48 = 281474976710656 := by decide
    omega
  have hold1 : (Builtin.firstCells size sLen s).run P { w with drawn := w.drawn + 1 } = .ok old' { w with drawn := w.drawn + 1 } := hold _ rfl
  have ha1 : app.run P { w with drawn := w.drawn + 1 } = .ok new' { w with drawn := w.drawn + 1 } := ha _ rfl
  refine ⟨(Question.appendCap (sLen + n) sCap e).cut (w.tape w.drawn (.appendCap (sLen + n) sCap e)), { w with drawn := w.drawn + 1 }, ?_, ⟨rfl, rfl, rfl, rfl⟩, ?_⟩
  · simp only [Question.cut]
    omega
  · unfold appTail
    simp only [if_neg (Nat.not_le.2 hlt), Sem.run_bind, run_typeInfo' _ he, Result.andThen_ok, if_neg h1, if_neg h2, run_choose, if_neg (show ¬ (Question.appendCap (sLen + n) sCap e).forced = true by simp [Question.forced]),
      run_askRoom, hold1, ha1, run_zeroValue' _ he hz, newRow, run_newObj, Sem.run_pure]


/-- a block is given up -/
theorem m_drop (hr : HRel φ h w) (i : Nat) (hn : i < h.next) : HRel φ (h.setB i .gone) w ∧ Ext φ h w φ (h.setB i .gone) w := by
  have live : ∀ j, (h.setB i .gone).live j → h.live j ∧ j ≠ i := by
    rintro j ⟨b, hj, hne⟩
    rw [Heap.get_setB] at hj
    split at hj
    · exact absurd (Option.some.inj hj).symm hne
    · rename_i hji; exact ⟨⟨b, hj, hne⟩, hji⟩
  refine ⟨⟨hr.dom, ?_, ?_, ?_, ?_⟩, ⟨fun _ _ h => h, fun _ _ _ => rfl, ?_, Nat.le_refl _, Nat.le_refl _, rfl, rfl, rfl, fun _ _ => rfl, fun hf j hj => hf j (live j hj).1, fun _ => rfl⟩⟩
  · intro j hj
    have hj' : h.next ≤ j := hj
    rw [Heap.get_setB, if_neg (by omega)]
    exact hr.none j hj'
  · intro j jm c g k1 hj
    rw [Heap.get_setB] at hj
    split at hj
    · simp at hj
    · exact hr.cells j jm c g k1 hj
  · intro j jm es k1 hj
    rw [Heap.get_setB] at hj
    split at hj
    · simp at hj
    · exact hr.map j jm es k1 hj
  · intro j k jm km hj hk
    exact hr.inj j k jm km (live j hj).1 (live k hk).1
  · intro j jm hj hjm
    exact .inr ⟨j, jm, (live j hj).1, hjm, rfl⟩

/-- a block that has grown, written at its end: the machine takes it for a new one -/
theorem m_move (hr : HRel φ h w) {i : Nat} {im : Img} {c c2 : List Value} {esz : Nat} {arr arr2 : Array Value} {e : TypeId} (hi : h.blks i = some (.cells c (some esz))) (him : φ i = some im)
    (hb : w.heap[im.blk]? = some (.cells arr e (0, 0))) (hs : arr2.size = arr.size) (hg : im.grow = some (esz, arr.size)) (hc : CRel φ c2 arr2) :
    HRel (phiPut φ h.next im) ((h.setB i .gone).push (.cells c2 (some esz))) (w.setRow im.blk arr2) ∧
      Ext φ h w (phiPut φ h.next im) ((h.setB i .gone).push (.cells c2 (some esz))) (w.setRow im.blk arr2) := by
  have hle := hr_put_le hr im
  have hlive : h.live i := ⟨_, hi, by simp⟩
  have hnone := hr.none h.next (Nat.le_refl _)
  have hilt : i < h.next := (hr.dom i im him).1
  have hsz : (w.setRow im.blk arr2).heap.size = w.heap.size := by simp
  have other : ∀ j jm, h.live j → φ j = some jm → j ≠ i → jm.blk ≠ im.blk := fun j jm hj hjm hne he => hne (hr.inj j i jm im hj hlive hjm him he)
  have get : ∀ j, ((h.setB i .gone).push (.cells c2 (some esz))).blks j = if j = h.next then some (.cells c2 (some esz)) else if j = i then some .gone else h.blks j := by
    intro j
    rw [Heap.get_push]
    show (if j = h.next then _ else _) = _
    split
    · rfl
    · rw [Heap.get_setB]
  have live : ∀ j, ((h.setB i .gone).push (.cells c2 (some esz))).live j → j = h.next ∨ (h.live j ∧ j ≠ i) := by
    rintro j ⟨b, hj, hne⟩
    rw [get] at hj
    split at hj
    · rename_i he; exact .inl he
    · split at hj
      · exact absurd (Option.some.inj hj).symm hne
      · rename_i h1 h2; exact .inr ⟨⟨b, hj, hne⟩, h2⟩
  have lt : ∀ j, h.live j → j ≠ h.next := by
    rintro j ⟨b, hj, _⟩ rfl
    rw [hnone] at hj; simp at hj
  refine ⟨⟨?_, ?_, ?_, ?_, ?_⟩, ⟨hle, ?_, ?_, by rw [hsz]; exact Nat.le_refl _, Nat.le_succ _, rfl, rfl, rfl, fun i hi => phiPut_ne _ _ (Nat.ne_of_lt hi), fun hf j hj => by
    by_cases he : j = h.next
    · subst he; exact ⟨im, phiPut_self _ _ _⟩
    · rw [phiPut_ne _ _ he]; exact hf j ((live j hj).resolve_left he).1, fun a => by
    unfold World.frozen?
    by_cases he : a.block = im.blk
    · rw [he, setRow_heap w im.blk arr arr2 e (0, 0) hb, hb]
    · rw [setRow_other w _ _ _ he]⟩⟩
  · intro j jm hj
    show j < h.next + 1 ∧ _
    rw [hsz]
    by_cases he : j = h.next
    · subst he; rw [phiPut_self] at hj; obtain rfl := Option.some.inj hj
      have := (hr.dom i _ him).2; omega
    · rw [phiPut_ne _ _ he] at hj
      have := hr.dom j jm hj; omega
  · intro j hj
    have hj' : h.next + 1 ≤ j := hj
    rw [get, if_neg (by omega), if_neg (by omega)]
    exact hr.none j (by omega)
  · intro j jm c' g' p1 hj
    rw [get] at hj
    split at hj
    · rename_i he; subst he
      rw [phiPut_self] at p1; obtain rfl := Option.some.inj p1
      simp only [Option.some.injEq, Blk.cells.injEq] at hj
      obtain ⟨rfl, rfl⟩ := hj
      refine ⟨arr2, e, setRow_heap w im.blk arr arr2 e (0, 0) hb, fun k v hk => ?_, ?_⟩
      · obtain ⟨v', z1, z2⟩ := hc k v hk; exact ⟨v', z1, z2.mono hle⟩
      · simp only [growOk]; rw [hs]; exact hg
    · split at hj
      · simp at hj
      · rename_i h1 h2
        rw [phiPut_ne _ _ h1] at p1
        obtain ⟨arr', e', q2, q3, q4⟩ := hr.cells j jm c' g' p1 hj
        refine ⟨arr', e', by rw [setRow_other w _ _ _ (other j jm ⟨_, hj, by simp⟩ p1 h2)]; exact q2, fun k v hk => ?_, q4⟩
        obtain ⟨v', z1, z2⟩ := q3 k v hk; exact ⟨v', z1, z2.mono hle⟩
  · intro j jm es p1 hj
    rw [get] at hj
    split at hj
    · simp at hj
    · split at hj
      · simp at hj
      · rename_i h1 h2
        rw [phiPut_ne _ _ h1] at p1
        obtain ⟨ents, cl, q2, q3⟩ := hr.map j jm es p1 hj
        exact ⟨ents, cl, by rw [setRow_other w _ _ _ (other j jm ⟨_, hj, by simp⟩ p1 h2)]; exact q2, q3.mono hle⟩
  · intro j k jm km hj hk h1 h2 h3
    rcases live j hj with rfl | ⟨hj1, hj2⟩
    · rw [phiPut_self] at h1; obtain rfl := Option.some.inj h1
      rcases live k hk with rfl | ⟨hk1, hk2⟩
      · rfl
      · rw [phiPut_ne _ _ (lt k hk1)] at h2
        exact absurd h3.symm (other k km hk1 h2 hk2)
    · rw [phiPut_ne _ _ (lt j hj1)] at h1
      rcases live k hk with rfl | ⟨hk1, hk2⟩
      · rw [phiPut_self] at h2; obtain rfl := Option.some.inj h2
        exact absurd h3 (other j jm hj1 h1 hj2)
      · rw [phiPut_ne _ _ (lt k hk1)] at h2
        exact hr.inj j k jm km hj1 hk1 h1 h2 h3
  · intro b _ hn
    exact setRow_other w _ _ _ (fun he => hn i im hlive him he.symm)
  · intro j jm hj hjm
    rcases live j hj with rfl | ⟨hj1, hj2⟩
    · rw [phiPut_self] at hjm; obtain rfl := Option.some.inj hjm
      exact .inr ⟨i, _, hlive, him, rfl⟩
    · rw [phiPut_ne _ _ (lt j hj1)] at hjm
      exact .inr ⟨j, jm, hj1, hjm, rfl⟩

theorem Ext.same_l {φ' : Phi} {h' : Heap} {w1 w' : World} (s : Same w w1) (e : Ext φ h w1 φ' h' w') : Ext φ h w φ' h' w' := Ext.trans (s.ext φ h) e

/-- append: the model's and the machine's -/
theorem m_append (hr : HRel φ h w) {x x' v : Value} {n esz eb : Nat} {new : List Value} {new' : Array Value} {h' : Heap} (hx : VRel φ x x') (hh : appendV h x n new esz eb = some (v, h'))
    (hnew : LRel φ new new'.toList) (hlen : new.length = n * esz) {e : TypeId} {inf : TypeInfo} {z : Value} (he : P.info? e = some inf) (hsz : inf.size = esz) (hbs : inf.bytes = eb) (hz : inf.zero = some z)
    (hzl : z.cells.toList.length = esz) (hb : 0 < eb) (hbb : eb ≤ 1048576) {app : Sem (Array Value)} (happ : ∀ v : World, v.heap = w.heap → app.run P v = .ok new' v) :
    ∃ base sLen sCap, x' = .slice base sLen sCap ∧ ∀ (y : Value) (zeros : Bool), ∃ φ' v' w', (appTail e base sLen sCap esz n (.slice base sLen sCap) y zeros app).run P w = .ok v' w' ∧ VRel φ' v v' ∧ HRel φ' h' w' ∧ Ext φ h w φ' h' w' := by
  subst hsz; subst hbs
  have hzs : z.cells.size = inf.size := by rw [← hzl]; simp
  have hnl : new'.size = n * inf.size := by rw [← Array.length_toList, ← hnew.length]; exact hlen
  -- a new block
  have out : ∀ {h1 : Heap} (hr1 : HRel φ h1 w) (he1 : Ext φ h w φ h1 w) {old : List Value} {old' : Array Value} {base : Option Addr} {sLen sCap : Nat}, sCap < sLen + n → (sLen + n) * inf.bytes ≤ 70368744177664 →
      LRel φ old old'.toList → old.length = sLen * inf.size → (∀ v : World, v.heap = w.heap → (Builtin.firstCells inf.size sLen (.slice base sLen sCap)).run P v = .ok old' v) → ∀ (y : Value) (zeros : Bool),
      ∃ φ' v' w', (appTail e base sLen sCap inf.size n (.slice base sLen sCap) y zeros app).run P w = .ok v' w' ∧
        VRel φ' (.slice (some ⟨h1.next, 0, some inf.size⟩) (sLen + n) (sLen + n)) v' ∧ HRel φ' (h1.push (.cells (old ++ new) (some inf.size))) w' ∧ Ext φ h w φ' (h1.push (.cells (old ++ new) (some inf.size))) w' := by
    intro h1 hr1 he1 old old' base sLen sCap hlt hroom hold hol hfc y zeros
    obtain ⟨nc, w1, hnc, hs1, hrun⟩ := run_tail_out (P := P) (w := w) (base := base) (s := .slice base sLen sCap) (x := y) (zeros := zeros) (app := app) hlt he hz hb hbb hroom hfc happ
    have hr2 := hr1.same hs1
    have hos : old'.size = sLen * inf.size := by rw [← Array.length_toList, ← hold.length]; exact hol
    have hsize : (old' ++ new' ++ Builtin.zeroCells z.cells (nc - (sLen + n))).size = nc * inf.size := by
      simp only [Array.size_append, zeroCells_eq, hzs, hos, hnl]
      rw [← Nat.add_mul, ← Nat.add_mul]
      congr 1; omega
    have hcr : CRel φ (old ++ new) (old' ++ new' ++ Builtin.zeroCells z.cells (nc - (sLen + n))) := by
      intro k u hk
      obtain ⟨u', q1, q2⟩ := (hold.append hnew).get k u hk
      refine ⟨u', ?_, q2⟩
      have hkl : k < (old' ++ new').size := by
        have := (List.getElem?_eq_some_iff.1 q1).1
        simpa using this
      rw [Array.getElem?_append_left hkl, ← Array.getElem?_toList, Array.toList_append]
      exact q1
    obtain ⟨g1, g2, g3⟩ := m_push hr2 (b := .cells (old ++ new) (some inf.size)) (o := .cells (old' ++ new' ++ Builtin.zeroCells z.cells (nc - (sLen + n))) e)
      (w' := { w1 with heap := w1.heap.push (.cells (old' ++ new' ++ Builtin.zeroCells z.cells (nc - (sLen + n))) e) }) (im := ⟨w1.heap.size, some (inf.size, nc * inf.size)⟩) rfl rfl rfl rfl rfl
      (by
        intro c g hcg
        simp only [Blk.cells.injEq] at hcg
        obtain ⟨rfl, rfl⟩ := hcg
        exact ⟨_, _, rfl, hcr, by simp only [growOk]; rw [hsize]⟩) (by simp)
    refine ⟨_, _, _, hrun, ?_, g1, he1.trans (Ext.same_l hs1 g2)⟩
    have hwsz : w1.heap.size = w.heap.size := by rw [hs1.heap]
    refine .slice _ _ _ _ _ ⟨w1.heap.size, some (inf.size, nc * inf.size)⟩ g3 (by rw [hwsz]) rfl ⟨hnc, by show 0 + nc * inf.size ≤ nc * inf.size; omega⟩ (Nat.le_refl _)
  unfold appendV at hh
  split at hh
  case h_2 => simp at hh
  rename_i base sLen sCap
  cases hle : Nat.ble (sLen + n) sCap with
  | true =>
    rw [hle] at hh
    simp only [cond_true] at hh
    have hle := ble_le hle
    cases base with
    | none =>
      simp only [Option.some.injEq, Prod.mk.injEq] at hh
      obtain ⟨rfl, rfl⟩ := hh
      obtain rfl := hx.sliceNil_inv
      refine ⟨none, sLen, sCap, rfl, fun y zeros => ⟨φ, _, w, run_tail_in hle (happ w rfl) (by simp) (fun _ => rfl), .sliceNil _ _, hr, .refl _ _ _⟩⟩
    | some b =>
      obtain ⟨im, c', rfl, g1, g2, g3, g4⟩ := hx.slice_inv
      simp only at hh
      cases hst : h.storeN (addA b (sLen * inf.size)) new with
      | none => rw [hst] at hh; simp at hh
      | some h2 =>
        rw [hst] at hh
        simp only [Option.some.injEq, Prod.mk.injEq] at hh
        obtain ⟨rfl, rfl⟩ := hh
        obtain ⟨w', r1, r2, r3⟩ := m_storeN (P := P) hr (ARel.add (φ := φ) (b := b) (b' := ⟨im.blk, b.off, none⟩) ⟨im, g1, rfl, g2⟩ (sLen * inf.size)) hnew hst
        have hcap : sCap ≤ c' := by
          unfold capRel at g3; split at g3
          · omega
          · exact g3.1
        refine ⟨some ⟨im.blk, b.off, none⟩, sLen, c', rfl, fun y zeros => ⟨φ, _, w', run_tail_in (Nat.le_trans hle hcap) (happ w rfl) (fun b' hb' => by obtain rfl := Option.some.inj hb'; exact r1) (by simp), ?_, r2, r3⟩⟩
        exact (VRel.slice _ _ _ _ _ im g1 rfl g2 g3 hle).mono r3.mono
  | false =>
    rw [hle] at hh
    simp only [cond_false] at hh
    have hlt : sCap < sLen + n := by
      have : ¬ (sLen + n ≤ sCap) := fun hc => by rw [show Nat.ble (sLen + n) sCap = true by simpa using hc] at hle; simp at hle
      omega
    obtain ⟨hroom, hh⟩ := bif_some hh
    have hroom := ble_le hroom
    cases base with
    | none =>
      simp only at hh
      obtain ⟨hz0, hh⟩ := bif_some hh
      have hz0 := beq_eq' hz0
      subst hz0
      simp only [Option.some.injEq, Prod.mk.injEq] at hh
      obtain ⟨rfl, rfl⟩ := hh
      obtain rfl := hx.sliceNil_inv
      refine ⟨none, 0, sCap, rfl, fun y zeros => ?_⟩
      have := out hr (.refl _ _ _) (old := []) (old' := #[]) (base := none) (sLen := 0) (sCap := sCap) hlt hroom .nil (by simp) (fun v _ => rfl) y zeros
      simpa using this
    | some b =>
      obtain ⟨im, c', rfl, g1, g2, g3, g4⟩ := hx.slice_inv
      have hA : ARel φ b ⟨im.blk, b.off, none⟩ := ⟨im, g1, rfl, g2⟩
      simp only at hh
      split at hh
      case h_2 => simp at hh
      rename_i c gr old hblk hold
      obtain ⟨l', m1, m2, m3⟩ := m_loadN (P := P) hr hA hold
      have hfc : ∀ v : World, v.heap = w.heap → (Builtin.firstCells inf.size sLen (.slice (some ⟨im.blk, b.off, none⟩) sLen c')).run P v = .ok ⟨l'⟩ v := fun v hv => m1 v hv
      split at hh
      · -- of known size
        rename_i hsp
        have hg : im.grow = none := by
          rw [g2] at hsp
          cases hgr : im.grow with
          | none => rfl
          | some q => rw [hgr] at hsp; simp [spotOf] at hsp
        rw [hg] at g3
        have g3 : c' = sCap := g3
        subst g3
        simp only [Option.some.injEq, Prod.mk.injEq] at hh
        obtain ⟨rfl, rfl⟩ := hh
        exact ⟨_, _, _, rfl, fun y zeros => out hr (.refl _ _ _) (old' := ⟨l'⟩) hlt hroom m2 m3 hfc y zeros⟩
      · rename_i z0 hsp
        obtain ⟨h3, hh2⟩ := bif_some hh
        clear hh
        obtain ⟨q1, q2, q3⟩ := and3_true h3
        simp only [Bool.and_eq_true] at q3
        obtain rfl := beq_eq' q1
        have q2 := beq_eq' q2
        have q4 := beq_eq' q3.1
        simp only [Option.some.injEq, Prod.mk.injEq] at hh2
        obtain ⟨rfl, rfl⟩ := hh2
        obtain ⟨arr, e2, k2, k3, k4⟩ := hr.cells _ _ _ _ g1 hblk
        -- the block has grown
        obtain ⟨ez, sz, hgr⟩ : ∃ ez sz, im.grow = some (ez, sz) := by
          rw [g2] at hsp
          cases hgr : im.grow with
          | none => rw [hgr] at hsp; simp [spotOf] at hsp
          | some q => exact ⟨q.1, q.2, rfl⟩
        have hez : ez = inf.size := by rw [g2, hgr] at hsp; simpa [spotOf] using hsp
        subst hez
        have hgz : gr = some inf.size ∧ sz = arr.size := by
          cases gr with
          | none => simp only [growOk] at k4; rw [hgr] at k4; simp at k4
          | some y => simp only [growOk] at k4; rw [hgr] at k4; simp at k4; exact ⟨by rw [k4.1], k4.2⟩
        obtain ⟨rfl, rfl⟩ := hgz
        rw [hgr] at g3
        have g3 : sCap ≤ c' ∧ b.off + c' * inf.size ≤ arr.size := g3
        refine ⟨_, _, _, rfl, fun y zeros => ?_⟩
        by_cases hin : sLen + n ≤ c'
        · -- there is room
          have hone : ∀ v ∈ new'.toList, v.oneCell' = true := by
            intro v' hv'
            obtain ⟨k, hk⟩ := List.mem_iff_getElem?.1 hv'
            have hkl : k < new.length := by have := (List.getElem?_eq_some_iff.1 hk).1; rw [hnew.length]; exact this
            obtain ⟨u, hu, hr'⟩ := hnew.get k (new[k]) (by simp [hkl])
            rw [hk] at hu
            obtain rfl := Option.some.inj hu
            exact hr'.one ((allB_iff _ _).1 q3.2 _ (by simp))
          have hnl' : new'.toList.length = n * inf.size := by simpa using hnl
          have hfit : sLen * inf.size + n * inf.size ≤ arr.size := by
            rw [← Nat.add_mul]
            have := Nat.mul_le_mul_right inf.size hin
            omega
          have hfit' : b.off + sLen * inf.size + new'.toList.length ≤ arr.size := by rw [hnl', q2]; omega
          have hrun := run_storeCells_at P im.blk (b.off + sLen * inf.size) e2 new'.toList 0 arr w k2 (by omega) hone
          simp only [Nat.add_zero] at hrun
          obtain ⟨o1, o2⟩ := over_arr (arr := arr) (vs' := new'.toList) (off := b.off + sLen * inf.size) hfit'
          have hcr : CRel φ (old ++ new) (arr.toList.take (b.off + sLen * inf.size) ++ new'.toList ++ arr.toList.drop (b.off + sLen * inf.size + new'.toList.length)).toArray := by
            intro k u hk
            rw [o2 k]
            by_cases hko : k < old.length
            · rw [List.getElem?_append_left hko] at hk
              rw [if_neg (by omega)]
              -- the old cells
              unfold Heap.loadN at hold
              rw [hblk] at hold
              simp only [dropN_eq, q2, List.drop_zero] at hold
              obtain ⟨t1, t2⟩ := takeN_some hold
              rw [t1, List.getElem?_take, if_pos (by omega)] at hk
              exact k3 k u hk
            · rw [List.getElem?_append_right (by omega)] at hk
              have hkn : k - old.length < new.length := (List.getElem?_eq_some_iff.1 hk).1
              rw [if_pos (by rw [hnl']; omega)]
              obtain ⟨u', z1, z2⟩ := hnew.get _ _ hk
              exact ⟨u', by rw [show k - (b.off + sLen * inf.size) = k - old.length from by omega]; exact z1, z2⟩
          obtain ⟨r1, r2⟩ := m_move hr hblk g1 k2 o1 hgr hcr
          refine ⟨_, _, _, run_tail_in hin (happ w rfl) (fun b' hb' => by obtain rfl := Option.some.inj hb'; rw [add_cell]; exact hrun) (by simp), ?_, r1, r2⟩
          refine .slice _ _ _ _ _ im (phiPut_self _ _ _) (by rw [q2]) (by rw [hgr]; rfl) ?_ (Nat.le_refl _)
          rw [hgr]
          exact ⟨hin, by have := g3.2; rw [q2] at this; exact this⟩
        · obtain ⟨d1, d2⟩ := m_drop hr b.block (hr.dom _ _ g1).1
          exact out d1 d2 (old' := ⟨l'⟩) (by omega) hroom m2 m3 hfc y zeros

end

end Go.Ab
