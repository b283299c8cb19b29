/- A part of the proof. The quick machine: rows of operations, code, functions. No condition. -/
import Derived.Test.YtpmbkfiicbipoaaGreatEngZ
/-! The quick machine: rows of operations, code, functions. -/
namespace Go.Ab
set_option linter.unusedVariables false

abbrev KF := Fr → FH → R

structure FOs where
  f : CallT → Fr → FH → List FH → KF → R

noncomputable def guardK (v : Value) (g : Bool) (a c : R) : R := match v with | .bool b => bif' (b == g) a c | _ => c

noncomputable def opsF (tt : T TI) : List Ent → FOs
  | [] => ⟨fun _ t h _ k => k t h⟩
  | e :: l =>
    FOs.rec (motive := fun _ => FOs) (fun rest => FO.rec (motive := fun _ => FOs) (fun op => Pt.rec (motive := fun _ => FOs) (fun pt =>
      match e.c.guard, e.hv with
      | none, false => ⟨fun call t h s k => op call t h s fun v h' => rest call (pt t v) h' s k⟩
      | none, true => ⟨fun call t h s k => op call t h s fun v h' => rest call (pt t v) h' (h :: s) k⟩
      | some (d, g), false => X.rec (motive := fun _ => FOs) (fun gx => ⟨fun call t h s k => guardK (gx t) g (op call t h s fun v h' => rest call (pt t v) h' s k) (rest call (pt t undef) h s k)⟩) (tmpX d)
      | some (d, g), true => X.rec (motive := fun _ => FOs) (fun gx => ⟨fun call t h s k => guardK (gx t) g (op call t h s fun v h' => rest call (pt t v) h' (h :: s) k) (rest call (pt t undef) h (h :: s) k)⟩) (tmpX d)
      ) (putX e.c.dst)) (opF tt e.c.io e.u)) (opsF tt l)

/-- one step of a row -/
noncomputable def stepF (tt : T TI) (e : Ent) (call : CallT) (t : Fr) (h : FH) (s : List FH) (k : Fr → FH → List FH → R) : R :=
  match e.c.guard with
  | none => (opF tt e.c.io e.u).f call t h s fun v h' => k ((putX e.c.dst).f t v) h' (bif e.hv then h :: s else s)
  | some (d, g) => guardK ((tmpX d).f t) g ((opF tt e.c.io e.u).f call t h s fun v h' => k ((putX e.c.dst).f t v) h' (bif e.hv then h :: s else s)) (k ((putX e.c.dst).f t undef) h (bif e.hv then h :: s else s))

theorem opsF_cons (tt : T TI) (e : Ent) (l : List Ent) (call : CallT) (t : Fr) (h : FH) (s : List FH) (k : KF) :
    (opsF tt (e :: l)).f call t h s k = stepF tt e call t h s fun t' h' s' => (opsF tt l).f call t' h' s' k := by
  obtain ⟨i, o, ⟨dst, io, guard⟩, hv, u, b⟩ := e
  cases guard with
  | none => cases hv <;> rfl
  | some x => obtain ⟨d, g⟩ := x; cases hv <;> rfl

section
variable {P : Program} {tt : T TI}

theorem stepF_ok {e : Ent} (hd : ltO e.c.dst 512 = true) {call : CallT} (hc : CallS P call) {s : Fr} {h : FH} {sn : List FH} {k : Fr → FH → List FH → R} (hy : stepF tt e call s h sn k = .yes) :
    ∃ v s' h', k s' h' (bif e.hv then h :: sn else sn) = .yes ∧ StepC P tt e.c (tOf s) (hOf h) v (tOf s') (hOf h') ∧
      (isLoad e.c.io = true → wantedC e.c (tOf s) = true → ∀ x, x ∈ (sn.map hOf).take e.u → memV (tOf s) x e.c.io = some (v, x)) := by
  have yes : ∀ {kk : KV}, (opF tt e.c.io e.u).f call s h sn kk = .yes → (∀ v h', kk v h' = k ((putX e.c.dst).f s v) h' (bif e.hv then h :: sn else sn)) → wantedC e.c (tOf s) = true → ∃ v s' h', k s' h' (bif e.hv then h :: sn else sn) = .yes ∧ StepC P tt e.c (tOf s) (hOf h) v (tOf s') (hOf h') ∧
      (isLoad e.c.io = true → wantedC e.c (tOf s) = true → ∀ x, x ∈ (sn.map hOf).take e.u → memV (tOf s) x e.c.io = some (v, x)) := by
    intro kk h1 h2 hw
    obtain ⟨v, h', h3, h4, h5⟩ := opF_ok (P := P) (tt := tt) e.c.io e.u call hc s h sn kk h1
    rw [h2] at h3
    exact ⟨v, _, h', h3, ⟨putX_f hd s v, fun _ => h4, fun hw' => by rw [hw] at hw'; simp at hw'⟩, fun hl _ => h5 hl⟩
  have no : k ((putX e.c.dst).f s undef) h (bif e.hv then h :: sn else sn) = .yes → wantedC e.c (tOf s) = false → ∃ v s' h', k s' h' (bif e.hv then h :: sn else sn) = .yes ∧ StepC P tt e.c (tOf s) (hOf h) v (tOf s') (hOf h') ∧
      (isLoad e.c.io = true → wantedC e.c (tOf s) = true → ∀ x, x ∈ (sn.map hOf).take e.u → memV (tOf s) x e.c.io = some (v, x)) := by
    intro h1 hw
    exact ⟨undef, _, h, h1, ⟨putX_f hd s undef, fun hw' => by rw [hw] at hw'; simp at hw', fun _ => ⟨rfl, rfl⟩⟩, fun _ hw' => by rw [hw] at hw'; simp at hw'⟩
  unfold stepF at hy
  split at hy
  · rename_i hg
    exact yes hy (fun _ _ => rfl) (by simp only [wantedC, hg])
  · rename_i d g hg
    rw [tmpX_f] at hy
    unfold guardK at hy
    split at hy
    · rename_i b hb
      cases hbg : (b == g) with
      | true =>
        rw [hbg, bif'_true] at hy
        exact yes hy (fun _ _ => rfl) (by simp only [wantedC, hg, hb]; exact hbg)
      | false =>
        rw [hbg, bif'_false] at hy
        exact no hy (by simp only [wantedC, hg, hb]; exact hbg)
    · rename_i hb
      refine no hy ?_
      simp only [wantedC, hg]
      try (split <;> first | rfl | (rename_i b hb2; exact absurd hb2 (hb b)))

theorem opsF_ok : ∀ {l : List Ent}, (∀ e, e ∈ l → ltO e.c.dst 512 = true) → ∀ {call : CallT}, CallS P call → ∀ {s : Fr} {h : FH} {sn : List FH} {k : KF}, (opsF tt l).f call s h sn k = .yes →
    ∃ s' h', k s' h' = .yes ∧ Trace P tt l (sn.map hOf) (tOf s) (hOf h) (tOf s') (hOf h')
  | [], _, call, _, s, h, sn, k, hy => ⟨s, h, hy, .nil _ _ _⟩
  | e :: l, hd, call, hc, s, h, sn, k, hy => by
    rw [opsF_cons] at hy
    obtain ⟨v, s1, h1, h2, h3, h4⟩ := stepF_ok (hd e (by simp)) hc hy
    obtain ⟨s', h', h5, h6⟩ := opsF_ok (l := l) (fun e' he' => hd e' (by simp [he'])) hc h2
    refine ⟨s', h', h5, .cons e l _ v _ _ _ _ _ _ h3 h4 ?_⟩
    cases hv : e.hv with
    | true => rw [hv] at h6; exact h6
    | false => rw [hv] at h6; exact h6

/-! ## Plans, made -/
def mkEnts (tt : T TI) (ops : Array Oper) (nt : Nat) (bs : List Nat) : List Oper → Nat → Option (List Ent)
  | [], _ => some []
  | o :: l, i => match compC tt ops nt o, nth bs i, mkEnts tt ops nt bs l (i + 1) with
    | some c, some b, some r => some (⟨i, o, c, false, 0, b⟩ :: r)
    | _, _, _ => none

theorem mkEnts_is {ops : Array Oper} {nt : Nat} {bs : List Nat} (hbs : ∀ k b, nth bs k = some b → ∀ j, b.testBit j = true → Bef ops j k) : ∀ (l : List Oper) (i : Nat) (r : List Ent), (∀ k o, l[k]? = some o → ops[i + k]? = some o) →
    mkEnts tt ops nt bs l i = some r → (∀ e, e ∈ r → EntIs tt ops nt e) ∧ r.length = l.length ∧ ∀ k e, r[k]? = some e → e.i = i + k
  | [], i, r, _, h => by simp only [mkEnts, Option.some.injEq] at h; subst h; exact ⟨fun e he => by simp at he, rfl, fun k e he => by simp at he⟩
  | o :: l, i, r, hl, h => by
    simp only [mkEnts] at h
    split at h
    case h_2 => simp at h
    rename_i c b r' h1 h2 h3
    simp only [Option.some.injEq] at h; subst h
    obtain ⟨i1, i2, i3⟩ := mkEnts_is hbs l (i + 1) r' (fun k o' hk => by have := hl (k + 1) o' (by simpa using hk); rwa [show i + (k + 1) = i + 1 + k by omega] at this) h3
    refine ⟨?_, by simp [i2], ?_⟩
    · intro e he
      rcases List.mem_cons.1 he with rfl | he
      · exact ⟨by simpa using hl 0 o (by simp), compC_ok h1, hbs i b h2⟩
      · exact i1 e he
    · intro k e he
      cases k with
      | zero => simp only [List.getElem?_cons_zero, Option.some.injEq] at he; subst he; rfl
      | succ k => have := i3 k e (by simpa using he); omega

/-- in the order of the text -/
theorem trace_seq {ops : Array Oper} {nt : Nat} : ∀ {l : List Ent} {s : List Heap} {t : Fm} {h : Heap} {t' : Fm} {h' : Heap}, Trace P tt l s t h t' h' → (∀ e, e ∈ l → EntIs tt ops nt e) → Seq P tt ops nt (l.map (·.i)) t h t' h' := by
  intro l s t h t' h' tr
  induction tr with
  | nil s t h => intro _; exact .nil t h
  | cons e l s v t h t1 h1 t2 h2 hs hld hl ih =>
    intro he
    have := he e (by simp)
    exact .cons e.i _ e.o e.c v t h t1 h1 t2 h2 this.get this.ok hs (ih fun e' he' => he e' (by simp [he']))

def allDst : List Ent → Bool
  | [] => true
  | e :: l => bif ltO e.c.dst 512 then allDst l else false

theorem allDst_mem : ∀ {l : List Ent}, allDst l = true → ∀ e, e ∈ l → ltO e.c.dst 512 = true
  | [], _, e, h => by simp at h
  | x :: l, h, e, he => by
    obtain ⟨h1, h2⟩ := bif_both h
    rcases List.mem_cons.1 he with rfl | he
    · exact h1
    · exact allDst_mem h2 e he

/-- of a load: how many of the last heavy ones it does not hang on -/
def countOff (b : Nat) : List Nat → Nat
  | [] => 0
  | i :: l => bif Nat.testBit b i then countOff b l else Nat.succ (countOff b l)

def withU (e : Ent) (hs : List Nat) : Ent := bif isLoad e.c.io then { e with u := countOff e.b hs } else e

def takeNeed (need done : Nat) (hs : List Nat) : List Ent → List Ent
  | [] => []
  | e :: l => bif Nat.testBit need e.i && !Nat.testBit done e.i then withU e hs :: takeNeed need done hs l else takeNeed need done hs l

def takeRest (done : Nat) (hs : List Nat) : List Ent → List Ent
  | [] => []
  | e :: l => bif Nat.testBit done e.i then takeRest done hs l else withU e hs :: takeRest done hs l

def orderE (all : List Ent) : List Ent → Nat → List Nat → List Ent
  | [], done, hs => takeRest done hs all
  | c :: cs, done, hs => takeNeed c.b done hs all ++ (c :: orderE all cs (Nat.lor (Nat.lor done c.b) (Nat.shiftLeft 1 c.i)) (c.i :: hs))

def heavyE : List Ent → List Ent
  | [] => []
  | e :: l => bif isHeavy e.c.io then { e with hv := true } :: heavyE l else heavyE l

def markE : List Ent → List Ent
  | [] => []
  | e :: l => (bif isHeavy e.c.io then { e with hv := true } else e) :: markE l

def planT (tt : T TI) (nt : Nat) (ops : Array Oper) : Option (List Ent) := match mkEnts tt ops nt (befs ops.toList []) ops.toList 0 with
  | some l => bif allDst l then some l else none
  | none => none

def planD (tt : T TI) (nt : Nat) (ops : Array Oper) : Option (List Ent) := match mkEnts tt ops nt (befs ops.toList []) ops.toList 0 with
  | some l => (fun r => bif Nat.beq r.length ops.toList.length && entsOk ops.toList.length r r 0 0 [] && allDst r then some r else none) (orderE (markE l) (heavyE l) 0 [])
  | none => none

theorem EntIs.with {ops : Array Oper} {nt : Nat} {e : Ent} (h : EntIs tt ops nt e) (hv : Bool) (u : Nat) : EntIs tt ops nt { e with hv := hv, u := u } := ⟨h.get, h.ok, h.bef⟩

theorem withU_is {ops : Array Oper} {nt : Nat} {e : Ent} {hs : List Nat} (h : EntIs tt ops nt e) : EntIs tt ops nt (withU e hs) := by
  unfold withU
  cases isLoad e.c.io with
  | true => exact ⟨h.get, h.ok, h.bef⟩
  | false => exact h

theorem order_is {ops : Array Oper} {nt : Nat} {all : List Ent} (ha : ∀ e, e ∈ all → EntIs tt ops nt e) : ∀ (cs : List Ent) (done : Nat) (hs : List Nat), (∀ e, e ∈ cs → EntIs tt ops nt e) → ∀ e, e ∈ orderE all cs done hs → EntIs tt ops nt e := by
  have rest : ∀ (done : Nat) (hs : List Nat) (l : List Ent), (∀ e, e ∈ l → EntIs tt ops nt e) → ∀ e, e ∈ takeRest done hs l → EntIs tt ops nt e := by
    intro done hs l
    induction l with
    | nil => intro _ e he; simp [takeRest] at he
    | cons x l ih =>
      intro hl e he
      simp only [takeRest] at he
      cases hb : Nat.testBit done x.i with
      | true => rw [hb, cond_true] at he; exact ih (fun e he => hl e (by simp [he])) e he
      | false =>
        rw [hb, cond_false] at he
        rcases List.mem_cons.1 he with rfl | he
        · exact withU_is (hl x (by simp))
        · exact ih (fun e he => hl e (by simp [he])) e he
  have need : ∀ (nd done : Nat) (hs : List Nat) (l : List Ent), (∀ e, e ∈ l → EntIs tt ops nt e) → ∀ e, e ∈ takeNeed nd done hs l → EntIs tt ops nt e := by
    intro nd done hs l
    induction l with
    | nil => intro _ e he; simp [takeNeed] at he
    | cons x l ih =>
      intro hl e he
      simp only [takeNeed] at he
      cases hb : (Nat.testBit nd x.i && !Nat.testBit done x.i) with
      | false => rw [hb, cond_false] at he; exact ih (fun e he => hl e (by simp [he])) e he
      | true =>
        rw [hb, cond_true] at he
        rcases List.mem_cons.1 he with rfl | he
        · exact withU_is (hl x (by simp))
        · exact ih (fun e he => hl e (by simp [he])) e he
  intro cs
  induction cs with
  | nil => intro done hs _ e he; exact rest done hs all ha e he
  | cons c cs ih =>
    intro done hs hc e he
    simp only [orderE, List.mem_append, List.mem_cons] at he
    rcases he with he | rfl | he
    · exact need _ _ _ all ha e he
    · exact hc _ (by simp)
    · exact ih _ _ (fun e he => hc e (by simp [he])) e he

theorem mark_is {ops : Array Oper} {nt : Nat} : ∀ {l : List Ent}, (∀ e, e ∈ l → EntIs tt ops nt e) → (∀ e, e ∈ markE l → EntIs tt ops nt e) ∧ ∀ e, e ∈ heavyE l → EntIs tt ops nt e
  | [], _ => ⟨fun e he => by simp [markE] at he, fun e he => by simp [heavyE] at he⟩
  | x :: l, h => by
    obtain ⟨h1, h2⟩ := mark_is (l := l) fun e he => h e (by simp [he])
    have hx := h x (by simp)
    constructor
    · intro e he
      simp only [markE, List.mem_cons] at he
      rcases he with rfl | he
      · cases isHeavy x.c.io with
        | true => exact ⟨hx.get, hx.ok, hx.bef⟩
        | false => exact hx
      · exact h1 e he
    · intro e he
      simp only [heavyE] at he
      cases hh : isHeavy x.c.io with
      | true =>
        rw [hh] at he
        rcases List.mem_cons.1 he with rfl | he
        · exact ⟨hx.get, hx.ok, hx.bef⟩
        · exact h2 e he
      | false => rw [hh] at he; exact h2 e he

/-! ## Code -/
structure FC where
  f : CallT → Fr → FH → KF → (Nat → KF) → KF → R

noncomputable def loopF (body : CallT → Fr → FH → KF → (Nat → KF) → KF → R) (n : Nat) (call : CallT) : Fr → FH → KF → (Nat → KF) → KF → R :=
  Nat.rec (motive := fun _ => Fr → FH → KF → (Nat → KF) → KF → R) (fun _ _ _ _ _ => .fail "loop") (fun _ ih t h k ke kr => body call t h (fun t' h' => ih t' h' k ke kr) ke kr) n

noncomputable def regF (tt : T TI) (p : Option (List Ent)) : FC := match p with
  | some l => FOs.rec (motive := fun _ => FC) (fun o => ⟨fun call t h k _ _ => o call t h [] k⟩) (opsF tt l)
  | none => ⟨fun _ _ _ _ _ _ => .fail "region"⟩

noncomputable def codeF (tt : T TI) (nt : Nat) : Code → FC
  | .skip => ⟨fun _ t h k _ _ => k t h⟩
  | .label _ => ⟨fun _ t h k _ _ => k t h⟩
  | .region _ ops draw => regF tt (bif draw then planD tt nt ops else planT tt nt ops)
  | .seq a b => FC.rec (motive := fun _ => FC) (fun a => FC.rec (motive := fun _ => FC) (fun b => ⟨fun call t h k ke kr => a call t h (fun t' h' => b call t' h' k ke kr) ke kr⟩) (codeF tt nt b)) (codeF tt nt a)
  | .cond c a b => bif' (okO c) (X.rec (motive := fun _ => FC) (fun c => FC.rec (motive := fun _ => FC) (fun a => FC.rec (motive := fun _ => FC) (fun b => ⟨fun call t h k ke kr => vBool (c t) fun g => bif' g (a call t h k ke kr) (b call t h k ke kr)⟩) (codeF tt nt b)) (codeF tt nt a)) (opX c)) ⟨fun _ _ _ _ _ _ => .fail "cond"⟩
  | .block id c => FC.rec (motive := fun _ => FC) (fun c => ⟨fun call t h k ke kr => c call t h k (fun i t' h' => bif' (Nat.beq i id) (k t' h') (ke i t' h')) kr⟩) (codeF tt nt c)
  | .loop c => FC.rec (motive := fun _ => FC) (fun c => ⟨fun call t h k ke kr => loopF c 1000000 call t h k ke kr⟩) (codeF tt nt c)
  | .exit id => ⟨fun _ t h _ ke _ => ke id t h⟩
  | .ret => ⟨fun _ t h _ _ kr => kr t h⟩
  | _ => ⟨fun _ _ _ _ _ _ => .fail "code"⟩

def Fin (k : KF) (ke : Nat → KF) (kr : KF) (e : Exit) (s : Fr) (h : FH) : Prop := match e with
  | .normal => k s h = .yes
  | .exit i => ke i s h = .yes
  | .ret => kr s h = .yes
  | _ => False

def FCok (P : Program) (nt : Nat) (c : Code) (fc : FC) : Prop := ∀ call, CallS P call → ∀ s h k ke kr, fc.f call s h k ke kr = .yes → ∃ e s' h', Fin k ke kr e s' h' ∧ CR P nt c (tOf s) (hOf h) e (tOf s') (hOf h')

theorem regF_ok (hT : TOk P tt) (hm : P.follows .mixedOrders = true) {nt id : Nat} {ops : Array Oper} (draw : Bool) : FCok P nt (.region id ops draw) (regF tt (bif draw then planD tt nt ops else planT tt nt ops)) := by
  intro call hc s h k ke kr hy
  have hbs : ∀ k b, nth (befs ops.toList []) k = some b → ∀ j, b.testBit j = true → Bef ops j k :=
    befs_sound ops.toList [] 0 rfl (fun k o hk => by simpa using hk) (fun k b hk => by simp [nth] at hk)
  have hops : ∀ k o, ops.toList[k]? = some o → ops[0 + k]? = some o := fun k o hk => by simpa using hk
  cases draw with
  | false =>
    simp only [cond_false] at hy
    unfold planT at hy
    cases hm2 : mkEnts tt ops nt (befs ops.toList []) ops.toList 0 with
    | none => rw [hm2] at hy; simp [regF] at hy
    | some l =>
      rw [hm2] at hy
      simp only at hy
      obtain ⟨i1, i2, i3⟩ := mkEnts_is hbs ops.toList 0 l hops hm2
      cases hd : allDst l with
      | false => rw [hd] at hy; simp [regF] at hy
      | true =>
        rw [hd] at hy
        simp only [cond_true] at hy
        obtain ⟨s', h', h1, h2⟩ := opsF_ok (P := P) (allDst_mem hd) hc (show (opsF tt l).f call s h [] k = .yes from hy)
        refine ⟨.normal, s', h', h1, ?_⟩
        have hidx : l.map (·.i) = List.range ops.size := by
          apply List.ext_getElem?
          intro j
          rw [List.getElem?_map]
          by_cases hj : j < ops.size
          · rw [List.getElem?_range hj]
            have hl : j < l.length := by rw [i2]; simpa using hj
            rw [List.getElem?_eq_getElem hl, Option.map_some, i3 j _ (List.getElem?_eq_getElem hl), Nat.zero_add]
          · rw [List.getElem?_eq_none (by rw [i2]; simpa using hj), List.getElem?_eq_none (by simpa using hj)]; rfl
        have := trace_seq h2 i1
        rw [hidx] at this
        exact CR.region hT this
  | true =>
    simp only [cond_true] at hy
    unfold planD at hy
    cases hm2 : mkEnts tt ops nt (befs ops.toList []) ops.toList 0 with
    | none => rw [hm2] at hy; simp [regF] at hy
    | some l =>
      rw [hm2] at hy
      simp only at hy
      obtain ⟨i1, i2, i3⟩ := mkEnts_is hbs ops.toList 0 l hops hm2
      generalize hr : orderE (markE l) (heavyE l) 0 [] = r at hy
      cases hd : (Nat.beq r.length ops.toList.length && entsOk ops.toList.length r r 0 0 [] && allDst r) with
      | false => rw [hd] at hy; simp [regF] at hy
      | true =>
        rw [hd] at hy
        simp only [cond_true] at hy
        simp only [Bool.and_eq_true] at hd
        obtain ⟨⟨d1, d2⟩, d3⟩ := hd
        obtain ⟨s', h', h1, h2⟩ := opsF_ok (P := P) (allDst_mem d3) hc (show (opsF tt r).f call s h [] k = .yes from hy)
        refine ⟨.normal, s', h', h1, ?_⟩
        obtain ⟨m1, m2⟩ := mark_is i1
        have his : ∀ e, e ∈ r → EntIs tt ops nt e := by rw [← hr]; exact order_is m1 _ _ _ m2
        obtain ⟨idx, op, cop, T, H, V, pl, q1, q2, q3, q4⟩ := plan_of (P := P) (by simpa using beq_eq' d1) his (by simpa using d2) h2
        have := CR.drawn hT (id := id) pl hm
        rw [q1, q2, q3, q4] at this
        exact this

theorem loopF_ok {nt : Nat} {c : Code} {fc : FC} (hc : FCok P nt c fc) : ∀ (n : Nat) (call : CallT), CallS P call → ∀ s h k ke kr, loopF fc.f n call s h k ke kr = .yes →
    ∃ e s' h', Fin k ke kr e s' h' ∧ e ≠ .normal ∧ LR P nt c (tOf s) (hOf h) e (tOf s') (hOf h')
  | 0, call, _, s, h, k, ke, kr, hy => by simp [loopF] at hy
  | n + 1, call, hcs, s, h, k, ke, kr, hy => by
    obtain ⟨e, s1, h1, hf, hcr⟩ := hc call hcs s h (fun t' h' => loopF fc.f n call t' h' k ke kr) ke kr hy
    cases e with
    | normal =>
      obtain ⟨e2, s2, h2, hf2, hne, hl⟩ := loopF_ok hc n call hcs s1 h1 k ke kr hf
      exact ⟨e2, s2, h2, hf2, hne, .again hcr hl⟩
    | exit i => exact ⟨.exit i, s1, h1, hf, by simp, .out hcr (by simp)⟩
    | ret => exact ⟨.ret, s1, h1, hf, by simp, .out hcr (by simp)⟩
    | _ => exact hf.elim

theorem codeF_ok (hT : TOk P tt) (hm : P.follows .mixedOrders = true) {nt : Nat} : ∀ c : Code, FCok P nt c (codeF tt nt c)
  | .skip => fun call _ s h k ke kr hy => ⟨.normal, s, h, hy, .skip⟩
  | .label _ => fun call _ s h k ke kr hy => ⟨.normal, s, h, hy, .label⟩
  | .exit i => fun call _ s h k ke kr hy => ⟨.exit i, s, h, hy, .exit⟩
  | .ret => fun call _ s h k ke kr hy => ⟨.ret, s, h, hy, .ret⟩
  | .region _ ops draw => regF_ok hT hm draw
  | .seq a b => by
    intro call hcs s h k ke kr hy
    obtain ⟨e, s1, h1, hf, hcr⟩ := codeF_ok hT hm a call hcs s h (fun t' h' => (codeF tt nt b).f call t' h' k ke kr) ke kr hy
    cases e with
    | normal =>
      obtain ⟨e2, s2, h2, hf2, hcr2⟩ := codeF_ok hT hm b call hcs s1 h1 k ke kr hf
      exact ⟨e2, s2, h2, hf2, .seq hcr hcr2⟩
    | exit i => exact ⟨.exit i, s1, h1, hf, .seq_out hcr (by simp)⟩
    | ret => exact ⟨.ret, s1, h1, hf, .seq_out hcr (by simp)⟩
    | _ => exact hf.elim
  | .cond c a b => by
    intro call hcs s h k ke kr hy
    cases hok : okO c with
    | false => simp only [codeF, hok, bif'_false] at hy; simp at hy
    | true =>
      have hy' : vBool ((opX c).f s) (fun g => bif' g ((codeF tt nt a).f call s h k ke kr) ((codeF tt nt b).f call s h k ke kr)) = .yes := by
        simp only [codeF, hok, bif'_true] at hy; exact hy
      rw [opX_f] at hy'
      obtain ⟨g, h1, h2⟩ := vBool_yes hy'
      cases g with
      | true =>
        obtain ⟨e, s1, h3, hf, hcr⟩ := codeF_ok hT hm a call hcs s h k ke kr h2
        exact ⟨e, s1, h3, hf, .cond hok h1 (by simpa using hcr)⟩
      | false =>
        obtain ⟨e, s1, h3, hf, hcr⟩ := codeF_ok hT hm b call hcs s h k ke kr h2
        exact ⟨e, s1, h3, hf, .cond hok h1 (by simpa using hcr)⟩
  | .block id c => by
    intro call hcs s h k ke kr hy
    obtain ⟨e, s1, h1, hf, hcr⟩ := codeF_ok hT hm c call hcs s h k (fun i t' h' => bif' (Nat.beq i id) (k t' h') (ke i t' h')) kr hy
    cases e with
    | normal => exact ⟨.normal, s1, h1, hf, .block hcr (fun j h => by simp at h)⟩
    | exit i =>
      have hf' : bif' (Nat.beq i id) (k s1 h1) (ke i s1 h1) = .yes := hf
      cases hb : Nat.beq i id with
      | true =>
        rw [hb, bif'_true] at hf'
        have := beq_eq' hb; subst this
        exact ⟨.normal, s1, h1, hf', .block_exit hcr⟩
      | false =>
        rw [hb, bif'_false] at hf'
        exact ⟨.exit i, s1, h1, hf', .block hcr (fun j h => by simp only [Exit.exit.injEq] at h; subst h; exact beq_ne' hb)⟩
    | ret => exact ⟨.ret, s1, h1, hf, .block hcr (fun j h => by simp at h)⟩
    | _ => exact hf.elim
  | .loop c => by
    intro call hcs s h k ke kr hy
    obtain ⟨e, s1, h1, hf, _, hl⟩ := loopF_ok (codeF_ok hT hm c) 1000000 call hcs s h k ke kr hy
    exact ⟨e, s1, h1, hf, .loop hl⟩
  | .rangeFunc .. => fun call _ s h k ke kr hy => by simp [codeF] at hy
  | .scope _ => fun call _ s h k ke kr hy => by simp [codeF] at hy
  | .goto _ => fun call _ s h k ke kr hy => by simp [codeF] at hy
  | .refuse _ => fun call _ s h k ke kr hy => by simp [codeF] at hy

end
end Go.Ab
