/- A part of the proof: the trips there and back: nothing is apart where the space lifts; near is near where it takes powers. Condition: the picture is one that may be, its samples are of 32 bits. -/
import Derived.Test.YtimghiiihjphiaaGreatTriN
import Derived.Test.YtimghiiihjphiaaGreatTriP
namespace Go.Proofs.YtimghiiihjphiaaGreat.trips
open Go.RowKit Go.Proofs.YtimghiiihjphiaaGreatW.PrintWords Go.Proofs.YtimghiiihjphiaaGreat.PTri Go.Proofs.YtimghiiihjphiaaGreat.sides
set_option linter.unusedVariables false
set_option linter.unusedSimpArgs false

theorem smp_u {l : List S37} (hu : UL l) (k j : Nat) : 0 ≤ smp l k j ∧ smp l k j ≤ 4294967295 := by
  unfold smp
  by_cases hk : k < l.length
  · exact classes.rd_u (l := (rd_T37 l k).f2) (hu k hk) j
  · have : rd_T37 l k = z37 := by simp [rd_T37, List.getD_eq_getElem?_getD, List.getElem?_eq_none (by omega : l.length ≤ k)]
    rw [this]
    simp [z37, rd]

/-- a picture that may be, in all that is asked of it here -/
structure Fine (sp : Int) (l : List S37) : Prop where
  chk : picture_Check.f 20 sp l = some 0
  good : sides.Good l
  sized : Sized l
  up : UL l
theorem fine_of {sp : Int} {l : List S37} (h : picture_Check.f 20 sp l = some 0) (hu : UL l) : Fine sp l := by
  obtain ⟨e, he, hg⟩ := check_f sp l
  obtain ⟨e2, he2, hg2⟩ := classes.check_f sp l
  rw [h] at he he2
  have g1 := hg (Option.some.inj he).symm
  have g2 := hg2 (Option.some.inj he2).symm
  refine ⟨h, g1, ⟨g1.few, fun j hj => ?_, fun j hj => (g1.ok j hj).small⟩, hu⟩
  have hp := g2.ok j hj
  have hc := hp.chk
  unfold plane_Check.f at hc
  obtain ⟨b, hb, hs⟩ := classes.size_f (rd_T37 l j).f0 (rd_T37 l j).f1
  rw [hb, Option.bind_some] at hc
  cases b with
  | false => simp at hc
  | true =>
    obtain ⟨a1, a2, _⟩ := hs rfl
    have hz := hp.size
    have : 0 < (rd_T37 l j).f0 * (rd_T37 l j).f1 := Int.mul_pos (by omega) (by omega)
    omega
theorem Fine.len {sp : Int} {l : List S37} (h : Fine sp l) (k : Nat) (hk : k < l.length) : (rd_T37 l k).f2.length = (rd_T37 l 0).f2.length := by
  have a := (h.good.ok k hk).size
  have b := (h.good.ok 0 h.good.pos).size
  have c := h.good.same k hk
  rw [c.1, c.2] at a
  have e : ((0 : Nat) : Int) = 0 := rfl
  rw [e] at b
  omega
theorem like_fine {sp sq : Int} {l m : List S37} (h : Fine sp l) (hl : Like l m) (hs : picture_spaceOf.f sq l.length = picture_spaceOf.f sp l.length) (hu : UL m) : Fine sq m :=
  fine_of ((like_f hl hs 20).trans h.chk) hu

theorem apart_like {sp : Int} {l m : List S37} (h : Fine sp l) (hl : Like l m) : apartR sp l sp m = (outer (rd_T37 l 0).f0 l m zeroM l.length, 0) := by
  obtain ⟨b, hb, hr⟩ := fit_f sp sp l m h.good.pos (by have := hl.len; have := h.good.pos; omega)
  have hbt : b = true := hr.2 ⟨rfl, hl.len.symm, (hl.w 0).symm, (hl.h 0).symm⟩
  rw [hbt] at hb
  unfold apartR
  rw [h.chk, (like_f hl rfl 20).trans h.chk, hb]
  rfl
theorem apart_self {sp : Int} {l : List S37} (h : Fine sp l) : apartR sp l sp l = (zeroM, 0) := by
  rw [apart_like h (like_refl l), outer_same _ _ (by decide)]

/-! ### to its own space -/
theorem convP_same {sp : Int} {l : List S37} (h : Fine sp l) : ConvP sp sp l (fun L => L = l) := by
  obtain ⟨h0, h4, _⟩ := space_in (space_of_check h.chk h.good)
  have hsp : sp = 0 ∨ sp = 1 ∨ sp = 2 ∨ sp = 3 ∨ sp = 4 := by omega
  have key : ∀ {w : World} {e : Ending} {w' : World}, (∃ A' c', e = .returned (.tuple #[.agg #[.int .i64 sp, .slice A' l.length c'], .int .i64 0]) ∧ l.length ≤ c' ∧ Kd.C k37 w' A' l.length l ∧ Below w.heap.size w w') → ∃ A' c' L, e = .returned (.tuple #[.agg #[.int .i64 sp, .slice A' L.length c'], .int .i64 0]) ∧ L.length ≤ c' ∧ Kd.C k37 w' A' L.length L ∧ L = l ∧ Below w.heap.size w w' :=
    fun ⟨A', c', he, hle, hC, hb⟩ => ⟨A', c', l, he, hle, hC, rfl, hb⟩
  intro w A cap hr hcap
  rcases hsp with rfl | rfl | rfl | rfl | rfl
  · exact (convert_same0 w 20 A cap l hr hcap h.chk h.sized).mono fun _ _ q => key q
  · exact (convert_same1 w 20 A cap l hr hcap h.chk h.sized).mono fun _ _ q => key q
  · exact (convert_same2 w 20 A cap l hr hcap h.chk h.sized).mono fun _ _ q => key q
  · exact (convert_same3 w 20 A cap l hr hcap h.chk h.sized).mono fun _ _ q => key q
  · exact (convert_same4 w 20 A cap l hr hcap h.chk h.sized).mono fun _ _ q => key q
theorem trip_same (w : World) {sp : Int} {l : List S37} (h : Fine sp l) (A : Option Addr) (cap : Nat) (hr : Kd.C k37 w A l.length l) (hcap : l.length ≤ cap) :
    Calls Tryz.prog 6 #[.agg #[.int .i64 sp, .slice A l.length cap], .int .i64 sp] w fun e w' => e = told zeroM 0 ∧ Below w.heap.size w w' := by
  refine (trip_any w sp sp A cap l (fun L => L = l) (fun L => L = l) hr hcap h.chk h.up (convP_same h) (fun L hL => by subst hL; exact convP_same h) (fun L hL => by subst hL; exact h.up)).mono ?_
  rintro e w' ⟨L, rfl, he, hb⟩
  rw [apart_self h] at he
  exact ⟨he, hb⟩

/-! ### lifted, and back -/
def R14 (_ : Nat) (a b c x y z : Int) : Prop := x = lx a b c ∧ y = ly a b c ∧ z = lz a c
def B3 (l : List S37) (j : Nat) (_ _ _ x y z : Int) : Prop := x = smp l 0 j ∧ y = smp l 1 j ∧ z = smp l 2 j
theorem c14 (a b c : Int) : Conv 1 4 a b c (R14 0 a b c) := fun V => conv_14 a b c _ (fun W => (lift_any a b c W).mono fun e W' h => ⟨_, _, _, h.1, ⟨rfl, rfl, rfl⟩, h.2⟩) V
theorem c41 (a b c : Int) : Conv 4 1 a b c (fun x y z => x = dx a b c ∧ y = dy a b ∧ z = dz a b c) := fun V => conv_41 a b c _ (fun W => (drop_any a b c W).mono fun e W' h => ⟨_, _, _, h.1, ⟨rfl, rfl, rfl⟩, h.2⟩) V
theorem Conv.weak {p q a b c : Int} {R R' : Int → Int → Int → Prop} (h : Conv p q a b c R) (hr : ∀ x y z, R x y z → R' x y z) : Conv p q a b c R' := fun V => (h V).mono fun e V' ⟨x, y, z, h1, h2, h3⟩ => ⟨x, y, z, h1, hr _ _ _ h2, h3⟩
theorem convP_of {p q : Int} {l : List S37} {K : List S37 → Prop} (h : ∀ (w : World) (A : Option Addr) (cap : Nat), Kd.C k37 w A l.length l → l.length ≤ cap →
    Calls Tryz.prog 17 #[.agg #[.int .i64 p, .slice A l.length cap], .int .i64 q] w fun e w' => ∃ A' c' L, e = .returned (.tuple #[.agg #[.int .i64 q, .slice A' l.length c'], .int .i64 0]) ∧ l.length ≤ c' ∧ Kd.C k37 w' A' L.length L ∧ (Like l L ∧ K L) ∧ Below w.heap.size w w') : ConvP p q l K :=
  fun w A cap hr hcap => (h w A cap hr hcap).mono fun e w' ⟨A', c', L, he, hle, hC, hK, hb⟩ => ⟨A', c', L, by rw [hK.1.len]; exact he, by rw [hK.1.len]; exact hle, hC, hK.2, hb⟩
variable {l : List S37}
theorem three_of (h : Fine 1 l) : 3 ≤ l.length := by
  have := (space_in (space_of_check h.chk h.good)).2.2
  omega
theorem convP_14 (h : Fine 1 l) : ConvP 1 4 l (fun L => Stage R14 l L (rd_T37 l 0).f2.length) :=
  convP_of fun w A cap hr hcap => (convert_14 w 20 A cap l _ (fun _ _ _ _ => True) R14 hr hcap h.chk h.sized (three_of h) (fun k hk => h.len k (by have := three_of h; omega)) (fun _ _ => trivial) ((c14 0 0 0).weak fun _ _ _ _ => trivial) (fun j a b c _ => c14 a b c)).mono
    fun e w' ⟨A', c', L, he, hle, hC, hS, hb⟩ => ⟨A', c', L, he, hle, hC, ⟨hS.like, hS⟩, hb⟩
theorem frk_u (x : Int) : 0 ≤ frk x ∧ frk x ≤ 4294967295 := by have := frk_in x; omega
/-- a changed list has samples of 32 bits -/
theorem stage_u {R : Nat → Int → Int → Int → Int → Int → Int → Prop} {l L : List S37} {n : Nat} (hu : UL l) (hn : ∀ k : Nat, k < 3 → (rd_T37 l k).f2.length = n) (hS : Stage R l L n) (hR : ∀ j a b c x y z, R j a b c x y z → U32 x ∧ U32 y ∧ U32 z) : UL L := by
  intro k hk x hx
  by_cases h3 : 3 ≤ k
  · rw [hS.rest k h3] at hx
    exact hu k (by have := hS.like.len; omega) x hx
  · obtain ⟨j, hj, rfl⟩ := List.mem_iff_getElem.1 hx
    have hl : (rd_T37 L k).f2.length = n := (hS.like.n k).trans (hn k (by omega))
    have hr := hR _ _ _ _ _ _ _ (hS.done j (by omega))
    have hs : (rd_T37 L k).f2[j] = smp L k j := by simp [smp, rd, List.getD_eq_getElem?_getD, hj]
    rw [hs]
    have : k = 0 ∨ k = 1 ∨ k = 2 := by omega
    rcases this with rfl | rfl | rfl
    · exact hr.1
    · exact hr.2.1
    · exact hr.2.2
theorem u14 (h : Fine 1 l) {L : List S37} (hS : Stage R14 l L (rd_T37 l 0).f2.length) : UL L :=
  stage_u h.up (fun k hk => h.len k (by have := three_of h; omega)) hS fun j a b c x y z ⟨h1, h2, h3⟩ => ⟨by rw [h1]; exact frk_u _, by rw [h2]; exact frk_u _, by rw [h3]; exact frk_u _⟩
theorem convP_41 (h : Fine 1 l) {L : List S37} (hS : Stage R14 l L (rd_T37 l 0).f2.length) : ConvP 4 1 L (fun M => Stage (B3 l) L M (rd_T37 l 0).f2.length) := by
  have hf : Fine 4 L := like_fine h hS.like (space_134 _).2 (u14 h hS)
  have h3 := three_of h
  have hl := hS.like.len
  refine convP_of fun w A cap hr hcap => (convert_41 w 20 A cap L _ (fun j x y z => R14 0 (smp l 0 j) (smp l 1 j) (smp l 2 j) x y z) (B3 l) hr hcap hf.chk hf.sized (by omega) (fun k hk => (hS.like.n k).trans (h.len k (by omega))) (fun j hj => hS.done j hj) ((c41 0 0 0).weak fun _ _ _ _ => trivial) (fun j a b c hp => ?_)).mono
    fun e w' ⟨A', c', M, he, hle, hC, hS, hb⟩ => ⟨A', c', M, he, hle, hC, ⟨hS.like, hS⟩, hb⟩
  obtain ⟨rfl, rfl, rfl⟩ := hp
  have u0 := smp_u h.up 0 j
  have u1 := smp_u h.up 1 j
  have u2 := smp_u h.up 2 j
  obtain ⟨t0, t1, t2⟩ := trip_lift (a := smp l 0 j) (b := smp l 1 j) (c := smp l 2 j) u0.1 (by omega) u1.1 (by omega) u2.1 (by omega)
  refine (c41 _ _ _).weak fun x y z ⟨h1, h2, h3⟩ => ⟨by rw [h1, t0], by rw [h2, t1], by rw [h3, t2]⟩
theorem plane_ext {a b : S37} (h0 : a.f0 = b.f0) (h1 : a.f1 = b.f1) (h2 : a.f2 = b.f2) : a = b := by cases a; cases b; simp_all
theorem rd_get {l : List S37} {k : Nat} (hk : k < l.length) : l[k] = rd_T37 l k := by simp [rd_T37, List.getD_eq_getElem?_getD, hk]
theorem back_same (h : Fine 1 l) {L M : List S37} (hS : Stage R14 l L (rd_T37 l 0).f2.length) (hB : Stage (B3 l) L M (rd_T37 l 0).f2.length) : M = l := by
  have hL := like_trans hS.like hB.like
  refine List.ext_getElem hL.len fun k h1 h2 => ?_
  rw [rd_get h1, rd_get h2]
  refine plane_ext (hL.w k) (hL.h k) ?_
  by_cases h3 : 3 ≤ k
  · rw [hB.rest k h3, hS.rest k h3]
  · refine List.ext_getElem (hL.n k) fun j g1 g2 => ?_
    have hn : (rd_T37 l k).f2.length = (rd_T37 l 0).f2.length := h.len k h2
    have hd := hB.done j (by omega)
    have e1 : (rd_T37 M k).f2[j] = smp M k j := by simp [smp, rd, List.getD_eq_getElem?_getD, g1]
    have e2 : (rd_T37 l k).f2[j] = smp l k j := by simp [smp, rd, List.getD_eq_getElem?_getD, g2]
    rw [e1, e2]
    have : k = 0 ∨ k = 1 ∨ k = 2 := by omega
    rcases this with rfl | rfl | rfl
    · exact hd.1
    · exact hd.2.1
    · exact hd.2.2
theorem trip_14 (w : World) (h : Fine 1 l) (A : Option Addr) (cap : Nat) (hr : Kd.C k37 w A l.length l) (hcap : l.length ≤ cap) :
    Calls Tryz.prog 6 #[.agg #[.int .i64 1, .slice A l.length cap], .int .i64 4] w fun e w' => e = told zeroM 0 ∧ Below w.heap.size w w' := by
  refine (trip_any w 1 4 A cap l (fun L => Stage R14 l L (rd_T37 l 0).f2.length) (fun M => M = l) hr hcap h.chk h.up (convP_14 h) (fun L hL w A cap hr hcap => (convP_41 h hL w A cap hr hcap).mono fun e w' ⟨A', c', M, he, hle, hC, hB, hb⟩ => ⟨A', c', M, he, hle, hC, back_same h hL hB, hb⟩) (fun L hL => by subst hL; exact h.up)).mono ?_
  rintro e w' ⟨L, rfl, he, hb⟩
  rw [apart_self h] at he
  exact ⟨he, hb⟩

/-! ### by powers, and back -/
def LogI (x y : Int) : Prop := ∃ X Y : Nat, x = X ∧ y = Y ∧ flo.LogOut X Y
def NearI (x r : Int) : Prop := U32 r ∧ (0 < x ∧ x < 2139095040 → r ≤ x + 32 ∧ x ≤ r + 32 ∧ r ≤ 2139095040)
theorem log_u {x y : Int} (h : LogI x y) : U32 y := by
  obtain ⟨X, Y, rfl, rfl, h⟩ := h
  suffices hY : Y < 4294967296 by exact ⟨by omega, by omega⟩
  cases h with
  | low _ => decide
  | made _ => decide
  | high _ => decide
  | one _ => decide
  | way s N e c D h h0 h1 =>
    have := h.c2
    have := h.e2
    have hw : Ieee.single.signWeight = 2147483648 := rfl
    show Ieee.single.word s (e * 8388608 + c) < 4294967296
    unfold Ieee.Format.word
    rw [hw]
    cases s <;> simp <;> omega
theorem below_drawn {w : World} (n : Nat) : Below w.heap.size w (w.drewN n) := pw_below_drewN (Below.refl _ _) n
theorem one_log {x : Int} (h : U32 x) : One 90 x (LogI x) := by
  obtain ⟨h0, h1⟩ := h
  obtain ⟨X, rfl⟩ : ∃ X : Nat, x = X := ⟨x.toNat, by omega⟩
  exact fun W => (flo.log_any X (by omega) W).mono fun e W' ⟨y, n, he, hw, hl⟩ => ⟨y, he, ⟨X, y, rfl, rfl, hl⟩, by rw [hw]; exact below_drawn n⟩
theorem one_exp {x y : Int} (h : LogI x y) : One 89 y (NearI x) := by
  obtain ⟨X, Y, rfl, rfl, h⟩ := h
  exact fun W => (flo.exp_any X Y h W).mono fun e W' ⟨r, n, he, hw, h1, h2⟩ => ⟨r, he, ⟨⟨by omega, by omega⟩, fun hx => by have := h2 ⟨by omega, by omega⟩; omega⟩, by rw [hw]; exact below_drawn n⟩
theorem c13 {a b c : Int} (ha : U32 a) (hb : U32 b) (hc : U32 c) : Conv 1 3 a b c (fun x y z => LogI a x ∧ LogI b y ∧ LogI c z) := fun V => conv_13 a b c _ _ _ (one_log ha) (one_log hb) (one_log hc) V
theorem c31 {a b c x y z : Int} (ha : LogI a x) (hb : LogI b y) (hc : LogI c z) : Conv 3 1 x y z (fun p q r => NearI a p ∧ NearI b q ∧ NearI c r) := fun V => conv_31 x y z _ _ _ (one_exp ha) (one_exp hb) (one_exp hc) V
def R13 (_ : Nat) (a b c x y z : Int) : Prop := LogI a x ∧ LogI b y ∧ LogI c z
def N3 (l : List S37) (j : Nat) (_ _ _ x y z : Int) : Prop := NearI (smp l 0 j) x ∧ NearI (smp l 1 j) y ∧ NearI (smp l 2 j) z
theorem zero_u : U32 0 := ⟨by decide, by decide⟩
theorem log_zero : LogI 1065353216 0 := ⟨1065353216, 0, rfl, rfl, .one rfl⟩
theorem convP_13 (h : Fine 1 l) : ConvP 1 3 l (fun L => Stage R13 l L (rd_T37 l 0).f2.length) :=
  convP_of fun w A cap hr hcap => (convert_13 w 20 A cap l _ (fun _ a b c => U32 a ∧ U32 b ∧ U32 c) R13 hr hcap h.chk h.sized (three_of h) (fun k hk => h.len k (by have := three_of h; omega)) (fun j _ => ⟨smp_u h.up 0 j, smp_u h.up 1 j, smp_u h.up 2 j⟩) ((c13 zero_u zero_u zero_u).weak fun _ _ _ _ => trivial) (fun j a b c hp => c13 hp.1 hp.2.1 hp.2.2)).mono
    fun e w' ⟨A', c', L, he, hle, hC, hS, hb⟩ => ⟨A', c', L, he, hle, hC, ⟨hS.like, hS⟩, hb⟩
theorem u13 (h : Fine 1 l) {L : List S37} (hS : Stage R13 l L (rd_T37 l 0).f2.length) : UL L :=
  stage_u h.up (fun k hk => h.len k (by have := three_of h; omega)) hS fun j a b c x y z ⟨h1, h2, h3⟩ => ⟨log_u h1, log_u h2, log_u h3⟩
theorem convP_31 (h : Fine 1 l) {L : List S37} (hS : Stage R13 l L (rd_T37 l 0).f2.length) : ConvP 3 1 L (fun M => Stage (N3 l) L M (rd_T37 l 0).f2.length) := by
  have hf : Fine 3 L := like_fine h hS.like (space_134 _).1 (u13 h hS)
  have h3 := three_of h
  have hl := hS.like.len
  exact convP_of fun w A cap hr hcap => (convert_31 w 20 A cap L _ (fun j x y z => R13 0 (smp l 0 j) (smp l 1 j) (smp l 2 j) x y z) (N3 l) hr hcap hf.chk hf.sized (by omega) (fun k hk => (hS.like.n k).trans (h.len k (by omega))) (fun j hj => hS.done j hj) ((c31 log_zero log_zero log_zero).weak fun _ _ _ _ => trivial) (fun j a b c hp => c31 hp.1 hp.2.1 hp.2.2)).mono
    fun e w' ⟨A', c', M, he, hle, hC, hS, hb⟩ => ⟨A', c', M, he, hle, hC, ⟨hS.like, hS⟩, hb⟩
/-- what comes back from the powers -/
structure Back (l M : List S37) : Prop where
  like : Like l M
  up : UL M
  near : ∀ k j : Nat, k < 3 → j < (rd_T37 l k).f2.length → NearI (smp l k j) (smp M k j)
  rest : ∀ k : Nat, 3 ≤ k → rd_T37 M k = rd_T37 l k
theorem back_near (h : Fine 1 l) {L M : List S37} (hS : Stage R13 l L (rd_T37 l 0).f2.length) (hB : Stage (N3 l) L M (rd_T37 l 0).f2.length) : Back l M where
  like := like_trans hS.like hB.like
  up := stage_u (u13 h hS) (fun k hk => (hS.like.n k).trans (h.len k (by have := three_of h; omega))) hB fun j a b c x y z ⟨h1, h2, h3⟩ => ⟨h1.1, h2.1, h3.1⟩
  near := fun k j hk hj => by
    have h3 := three_of h
    have hd := hB.done j (by have := h.len k (by omega); omega)
    have : k = 0 ∨ k = 1 ∨ k = 2 := by omega
    rcases this with rfl | rfl | rfl
    · exact hd.1
    · exact hd.2.1
    · exact hd.2.2
  rest := fun k hk => (hB.rest k hk).trans (hS.rest k hk)
/-- all but those of the fourth plane are numbers above naught -/
def Pos (l : List S37) : Prop := ∀ k j : Nat, k < l.length → k ≠ 3 → j < (rd_T37 l k).f2.length → 0 < smp l k j ∧ smp l k j < 2139095040
theorem trip_13 (w : World) (h : Fine 1 l) (A : Option Addr) (cap : Nat) (hr : Kd.C k37 w A l.length l) (hcap : l.length ≤ cap) :
    Calls Tryz.prog 6 #[.agg #[.int .i64 1, .slice A l.length cap], .int .i64 3] w fun e w' => ∃ t : Mt, e = told t 0 ∧ (Pos l → t.m ≤ 32) ∧ Below w.heap.size w w' := by
  refine (trip_any w 1 3 A cap l (fun L => Stage R13 l L (rd_T37 l 0).f2.length) (Back l) hr hcap h.chk h.up (convP_13 h) (fun L hL w A cap hr hcap => (convP_31 h hL w A cap hr hcap).mono fun e w' ⟨A', c', M, he, hle, hC, hB, hb⟩ => ⟨A', c', M, he, hle, hC, back_near h hL hB, hb⟩) (fun L hL => hL.up)).mono ?_
  rintro e w' ⟨M, hM, he, hb⟩
  rw [apart_like h hM.like] at he
  refine ⟨_, he, fun hp => ?_, hb⟩
  refine (Low.outer (t := zeroM) ⟨by decide, by decide⟩ _ l M l.length fun k hk i hi => ?_).2
  have g4 := h.good.few
  by_cases h3 : 3 ≤ k
  · rw [hM.rest k h3, dist_self]; decide
  · have hn := hM.near k i (by omega) hi
    have hq := hp k i hk (by omega) hi
    obtain ⟨⟨u0, u1⟩, hv⟩ := hn
    have := hv hq
    exact dist_near (a := smp l k i) (b := smp M k i) (by omega) (by omega) (by omega) (by omega) (by omega) (by omega)
end Go.Proofs.YtimghiiihjphiaaGreat.trips
