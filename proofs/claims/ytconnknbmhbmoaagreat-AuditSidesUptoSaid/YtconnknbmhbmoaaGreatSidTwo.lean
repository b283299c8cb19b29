/- Parts of the proof, one behind the other. A part of the proof: two meters are the same where all their numbers are. No condition. A part of the proof: the law's own walk, where a picture is not looked at, or two are of no one form. Condition: the samples are of 32 bits. A part of the proof: the law's own walk, where two pictures are of no one form. Condition: the samples are of 32 bits. A part of the proof: the law's own walk, where two pictures are of one form. Condition: the samples are of 32 bits. A part of the proof: the law's own walk, whole. Condition: the samples are of 32 bits. A part of the proof: a picture that comes in, opened: its space, its planes, their samples. No condition. -/
import Derived.Test.YtconnknbmhbmoaaGreatPSidx
import Derived.Test.YtconnknbmhbmoaaGreatWEqStruct
import Derived.Test.YtconnknbmhbmoaaGreatSidOne
import Derived.Test.YtconnknbmhbmoaaGreatAuditRun
import Derived.Deep.Slices
import Derived.Deep.Fields
import Derived.ChangeSame
import Derived.ChangeSlices
import Derived.Lib.SmallJoins
import Derived.OpenShut
namespace Go.Proofs.YtconnknbmhbmoaaGreat.sides
open Go.RowKit Go.Proofs.YtconnknbmhbmoaaGreatW.PrintWords
theorem meter_ne (u m p x y s : Int) (w : World) : (binOp .neq 37 (.agg #[.int .i64 u, .int .i64 m, .int .i64 p, .int .i64 x, .int .i64 y, .int .i64 s]) (.agg #[.int .i64 u, .int .i64 m, .int .i64 p, .int .i64 x, .int .i64 y, .int .i64 s])).run Tryz.prog w = .ok (.bool false) w := by
  have h37 := Tryz.underlying37
  have h3 := Tryz.underlying3
  have hp : Tryz.prog.stoodInHeld 37 = false := by kernel_rfl
  have h : ∀ d, (Op.equalIn (d + 2) 37 (.agg #[.int .i64 u, .int .i64 m, .int .i64 p, .int .i64 x, .int .i64 y, .int .i64 s]) (.agg #[.int .i64 u, .int .i64 m, .int .i64 p, .int .i64 x, .int .i64 y, .int .i64 s])).run Tryz.prog w = .ok true w := by
    intro d
    refine eqA_of h37 hp ?_
    simp [Op.eqFields, part, go_sem, Op.equalIn, run_underlying h3]
  simp only [binOp]
  simp [Op.equal, Op.maxDepth, h 9998]
end Go.Proofs.YtconnknbmhbmoaaGreat.sides
namespace Go.Proofs.YtconnknbmhbmoaaGreat.sides
open Go.RowKit Go.Proofs.YtconnknbmhbmoaaGreatW.PrintWords Go.Proofs.YtconnknbmhbmoaaGreat.PSid
set_option linter.unusedVariables false
set_option linter.unusedSimpArgs false

theorem known_b (w : World) : Calls Tryz.prog 5 #[] w fun e w' => e = .returned (.bool true) ∧ Below w.heap.size w w' := by
  refine Calls.mono (Go.Ab.closed_true auditRun.mixed auditRun.primsOK (Go.Ab.okR_yes auditRun.ran) Tryz.func5 (by kernel_rfl) (by kernel_rfl) w) ?_
  rintro e w' ⟨he, h1, h2, h3, h4, h5, h6⟩
  exact ⟨he, ⟨h3, h4, h5, h2, h1⟩⟩

/-- the three boxes -/
structure Bx (n : Nat) (P Q R : Array Value) (W : World) : Prop where
  p : W.heap[n]? = some (.cells P 24 (0, 0))
  q : W.heap[n + 1]? = some (.cells Q 24 (0, 0))
  r : W.heap[n + 1 + 1]? = some (.cells R 24 (0, 0))
theorem Bx.below {n : Nat} {P Q R : Array Value} {W W' : World} (h : Bx n P Q R W) (hb : Below W.heap.size W W') : Bx n P Q R W' := ⟨blk_below h.p hb, blk_below h.q hb, blk_below h.r hb⟩
theorem Bx.alloc {n : Nat} {P Q R : Array Value} {W : World} (h : Bx n P Q R W) (o : Obj) : Bx n P Q R (W.alloc o) := ⟨blk_alloc h.p o, blk_alloc h.q o, blk_alloc h.r o⟩
theorem Bx.mk3 (w : World) (P Q R : Array Value) : Bx w.heap.size P Q R (((w.alloc (.cells P 24)).alloc (.cells Q 24)).alloc (.cells R 24)) := ⟨first3 _ _ _ _, second3 _ _ _ _, third _ _ _ _⟩
theorem Bx.cells {n : Nat} {a b c d e f : Value} {W : World} (h : Bx n #[a, b] #[c, d] #[e, f] W) :
    W.cell? ⟨n, 0, none⟩ = some a ∧ W.cell? ⟨n, 1, none⟩ = some b ∧ W.cell? ⟨n + 1, 0, none⟩ = some c ∧ W.cell? ⟨n + 1, 1, none⟩ = some d ∧ W.cell? ⟨n + 1 + 1, 0, none⟩ = some e ∧ W.cell? ⟨n + 1 + 1, 1, none⟩ = some f :=
  ⟨blk_cell h.p 0, blk_cell h.p 1, blk_cell h.q 0, blk_cell h.q 1, blk_cell h.r 0, blk_cell h.r 1⟩

section
variable (sp sq sr : Int) (Ap Aq Ar : Option Addr) (cp cq cr : Nat) (lp lq lr : List S58) (w : World)

/-- the three pictures, as they are read -/
structure Three : Prop where
  p : Kd.C k58 w Ap lp.length lp
  pc : lp.length ≤ cp
  pu : UL lp
  q : Kd.C k58 w Aq lq.length lq
  qc : lq.length ≤ cq
  qu : UL lq
  r : Kd.C k58 w Ar lr.length lr
  rc : lr.length ≤ cr
  ru : UL lr
end

def lit3 (sp sq sr : Int) (Ap Aq Ar : Option Addr) (cp cq cr : Nat) (lp lq lr : List S58) : Array Value := #[.agg #[.int .i64 sp, .slice Ap lp.length cp], .agg #[.int .i64 sq, .slice Aq lq.length cq], .agg #[.int .i64 sr, .slice Ar lr.length cr]]

set_option maxHeartbeats 1600000 in
set_option maxRecDepth 100000 in
theorem dark (sp sq sr : Int) (Ap Aq Ar : Option Addr) (cp cq cr : Nat) (lp lq lr : List S58) (w : World) (b1 b2 b3 : Bool) (H : Three Ap Aq Ar cp cq cr lp lq lr w)
    (h1 : halidelaw27_light.f 200 sp lp = some b1) (h2 : halidelaw27_light.f 200 sq lq = some b2) (h3 : halidelaw27_light.f 200 sr lr = some b3) (hb : (b1 && b2 && b3) = false) :
    Calls Tryz.prog 4 #[.agg #[.int .i64 sp, .slice Ap lp.length cp], .agg #[.int .i64 sq, .slice Aq lq.length cq], .agg #[.int .i64 sr, .slice Ar lr.length cr]] w fun e w' => e = .returned (.bool true) ∧ Below w.heap.size w w' := by
  have HH := Aside0.mk H
  have H1 := Aside0.mk h1
  have H2 := Aside0.mk h2
  have H3 := Aside0.mk h3
  clear H h1 h2 h3
  go_enter Tryz.func4, Tryz.ntmps4
  go_wp2_with fail
  have HB0 := Aside0.mk (below_alloc (below_alloc (below_alloc (Below.refl w.heap.size w) (.cells #[.int .i64 sp, .slice Ap lp.length cp] 24)) (.cells #[.int .i64 sq, .slice Aq lq.length cq] 24)) (.cells #[.int .i64 sr, .slice Ar lr.length cr] 24))
  have HX0 := Aside0.mk (Bx.mk3 w #[.int .i64 sp, .slice Ap lp.length cp] #[.int .i64 sq, .slice Aq lq.length cq] #[.int .i64 sr, .slice Ar lr.length cr])
  refine (known_b _).mono ?_
  rintro e w1 ⟨rfl, hb1⟩
  have HB1 := Aside0.mk (below_then HB0.out HB0.out.size hb1)
  have HX1 := Aside0.mk (HX0.out.below hb1)
  clear HB0 HX0 hb1
  obtain ⟨p0, p1, q0, q1, r0, r1⟩ := HX1.out.cells
  cases b1 with
  | false =>
    go_wp2_with fail
    refine (halidelaw27_light.calls 200 sp Ap cp lp false _ (Kd.C_below HH.out.p HB1.out) HH.out.pc H1.out).mono ?_
    rintro e w2 ⟨rfl, hb2⟩
    have HB2 := Aside0.mk (below_then HB1.out HB1.out.size hb2)
    clear hb2 p0 p1 q0 q1 r0 r1
    go_wp2
    go_ret
    exact ⟨rfl, HB2.out⟩
  | true =>
    go_wp2_with fail
    refine (halidelaw27_light.calls 200 sp Ap cp lp true _ (Kd.C_below HH.out.p HB1.out) HH.out.pc H1.out).mono ?_
    rintro e w2 ⟨rfl, hb2⟩
    have HB2 := Aside0.mk (below_then HB1.out HB1.out.size hb2)
    have HX2 := Aside0.mk (HX1.out.below hb2)
    clear hb2 p0 p1 q0 q1 r0 r1
    obtain ⟨p0, p1, q0, q1, r0, r1⟩ := HX2.out.cells
    cases b2 with
    | false =>
      go_wp2_with fail
      refine (halidelaw27_light.calls 200 sq Aq cq lq false _ (Kd.C_below HH.out.q HB2.out) HH.out.qc H2.out).mono ?_
      rintro e w3 ⟨rfl, hb3⟩
      have HB3 := Aside0.mk (below_then HB2.out HB2.out.size hb3)
      clear hb3 p0 p1 q0 q1 r0 r1
      go_wp2
      go_ret
      exact ⟨rfl, HB3.out⟩
    | true =>
      go_wp2_with fail
      refine (halidelaw27_light.calls 200 sq Aq cq lq true _ (Kd.C_below HH.out.q HB2.out) HH.out.qc H2.out).mono ?_
      rintro e w3 ⟨rfl, hb3⟩
      have HB3 := Aside0.mk (below_then HB2.out HB2.out.size hb3)
      have HX3 := Aside0.mk (HX2.out.below hb3)
      clear hb3 p0 p1 q0 q1 r0 r1
      obtain ⟨p0, p1, q0, q1, r0, r1⟩ := HX3.out.cells
      cases b3 with
      | true => simp at hb
      | false =>
        clear hb
        go_wp2_with fail
        refine (halidelaw27_light.calls 200 sr Ar cr lr false _ (Kd.C_below HH.out.r HB3.out) HH.out.rc H3.out).mono ?_
        rintro e w4 ⟨rfl, hb4⟩
        have HB4 := Aside0.mk (below_then HB3.out HB3.out.size hb4)
        clear hb4 p0 p1 q0 q1 r0 r1
        go_wp2
        go_ret
        exact ⟨rfl, HB4.out⟩
end Go.Proofs.YtconnknbmhbmoaaGreat.sides
namespace Go.Proofs.YtconnknbmhbmoaaGreat.sides
open Go.RowKit Go.Proofs.YtconnknbmhbmoaaGreatW.PrintWords Go.Proofs.YtconnknbmhbmoaaGreat.PSid
set_option linter.unusedVariables false
set_option linter.unusedSimpArgs false

theorem apart_at {sp sq : Int} {Ap Aq : Option Addr} {cp cq : Nat} {lp lq : List S58} {w : World} {u m pl x y s e : Int} (hR : apartR sp lp sq lq = (⟨u, m, pl, x, y, s⟩, e))
    (hp : Kd.C k58 w Ap lp.length lp) (hcp : lp.length ≤ cp) (hq : Kd.C k58 w Aq lq.length lq) (hcq : lq.length ≤ cq) (up : UL lp) (uq : UL lq) :
    Calls Tryz.prog 14 #[.agg #[.int .i64 sp, .slice Ap lp.length cp], .agg #[.int .i64 sq, .slice Aq lq.length cq]] w fun en w' => en = .returned (.tuple #[.agg #[.int .i64 u, .int .i64 m, .int .i64 pl, .int .i64 x, .int .i64 y, .int .i64 s], .int .i64 e]) ∧ Below w.heap.size w w' := by
  have := apart_any sp sq Ap Aq cp cq lp lq w hp hcp hq hcq up uq
  rw [hR] at this
  exact this

set_option maxHeartbeats 1600000 in
set_option maxRecDepth 100000 in
theorem far (sp sq sr : Int) (Ap Aq Ar : Option Addr) (cp cq cr : Nat) (lp lq lr : List S58) (w : World) (H : Three Ap Aq Ar cp cq cr lp lq lr w)
    (h1 : halidelaw27_light.f 200 sp lp = some true) (h2 : halidelaw27_light.f 200 sq lq = some true) (h3 : halidelaw27_light.f 200 sr lr = some true)
    {u m pl x y s e u' m' pl' x' y' s' e' : Int} (hR : apartR sp lp sq lq = (⟨u, m, pl, x, y, s⟩, e)) (hR' : apartR sq lq sp lp = (⟨u', m', pl', x', y', s'⟩, e')) (he : e ≠ 0) :
    Calls Tryz.prog 4 #[.agg #[.int .i64 sp, .slice Ap lp.length cp], .agg #[.int .i64 sq, .slice Aq lq.length cq], .agg #[.int .i64 sr, .slice Ar lr.length cr]] w fun e w' => e = .returned (.bool true) ∧ Below w.heap.size w w' := by
  have HH := Aside0.mk H
  have H1 := Aside0.mk h1
  have H2 := Aside0.mk h2
  have H3 := Aside0.mk h3
  have HR := Aside0.mk hR
  have HR' := Aside0.mk hR'
  have he1 : (e != 0) = true := by simp [he]
  have he2 : (e == 0) = false := by simp [he]
  clear H h1 h2 h3 hR hR' he
  go_enter Tryz.func4, Tryz.ntmps4
  go_wp2_with fail
  have HB0 := Aside0.mk (below_alloc (below_alloc (below_alloc (Below.refl w.heap.size w) (.cells #[.int .i64 sp, .slice Ap lp.length cp] 24)) (.cells #[.int .i64 sq, .slice Aq lq.length cq] 24)) (.cells #[.int .i64 sr, .slice Ar lr.length cr] 24))
  have HX0 := Aside0.mk (Bx.mk3 w #[.int .i64 sp, .slice Ap lp.length cp] #[.int .i64 sq, .slice Aq lq.length cq] #[.int .i64 sr, .slice Ar lr.length cr])
  refine (known_b _).mono ?_
  rintro _ w1 ⟨rfl, hb1⟩
  have HB1 := Aside0.mk (below_then HB0.out HB0.out.size hb1)
  have HX1 := Aside0.mk (HX0.out.below hb1)
  clear HB0 HX0 hb1
  obtain ⟨p0, p1, q0, q1, r0, r1⟩ := HX1.out.cells
  go_wp2_with fail
  refine (halidelaw27_light.calls 200 sp Ap cp lp true _ (Kd.C_below HH.out.p HB1.out) HH.out.pc H1.out).mono ?_
  rintro _ w2 ⟨rfl, hb2⟩
  have HB2 := Aside0.mk (below_then HB1.out HB1.out.size hb2)
  have HX2 := Aside0.mk (HX1.out.below hb2)
  clear hb2 p0 p1 q0 q1 r0 r1 HB1 HX1
  obtain ⟨p0, p1, q0, q1, r0, r1⟩ := HX2.out.cells
  go_wp2_with fail
  refine (halidelaw27_light.calls 200 sq Aq cq lq true _ (Kd.C_below HH.out.q HB2.out) HH.out.qc H2.out).mono ?_
  rintro _ w3 ⟨rfl, hb3⟩
  have HB3 := Aside0.mk (below_then HB2.out HB2.out.size hb3)
  have HX3 := Aside0.mk (HX2.out.below hb3)
  clear hb3 p0 p1 q0 q1 r0 r1 HB2 HX2
  obtain ⟨p0, p1, q0, q1, r0, r1⟩ := HX3.out.cells
  go_wp2_with fail
  refine (halidelaw27_light.calls 200 sr Ar cr lr true _ (Kd.C_below HH.out.r HB3.out) HH.out.rc H3.out).mono ?_
  rintro _ w4 ⟨rfl, hb4⟩
  have HB4 := Aside0.mk (below_then HB3.out HB3.out.size hb4)
  have HX4 := Aside0.mk (HX3.out.below hb4)
  clear hb4 p0 p1 q0 q1 r0 r1 HB3 HX3
  obtain ⟨p0, p1, q0, q1, r0, r1⟩ := HX4.out.cells
  go_wp2_with fail
  refine (apart_at HR.out (Kd.C_below HH.out.p HB4.out) HH.out.pc (Kd.C_below HH.out.q HB4.out) HH.out.qc HH.out.pu HH.out.qu).mono ?_
  rintro _ w5 ⟨rfl, hb5⟩
  have HB5 := Aside0.mk (below_then HB4.out HB4.out.size hb5)
  have HX5 := Aside0.mk (HX4.out.below hb5)
  clear hb5 p0 p1 q0 q1 r0 r1 HB4 HX4
  have HB5a := Aside0.mk (below_alloc HB5.out (.cells #[.int .i64 u, .int .i64 m, .int .i64 pl, .int .i64 x, .int .i64 y, .int .i64 s] 37))
  have HX5a := Aside0.mk (HX5.out.alloc (.cells #[.int .i64 u, .int .i64 m, .int .i64 pl, .int .i64 x, .int .i64 y, .int .i64 s] 37))
  obtain ⟨p0, p1, q0, q1, r0, r1⟩ := HX5a.out.cells
  go_wp2_with fail
  refine (apart_at HR'.out (Kd.C_below HH.out.q HB5a.out) HH.out.qc (Kd.C_below HH.out.p HB5a.out) HH.out.pc HH.out.qu HH.out.pu).mono ?_
  rintro _ w6 ⟨rfl, hb6⟩
  have HB6 := Aside0.mk (below_then HB5a.out HB5a.out.size hb6)
  clear hb6 p0 p1 q0 q1 r0 r1 HB5 HX5 HX5a HB5a
  go_wp2
  go_ret
  exact ⟨rfl, below_alloc HB6.out _⟩
end Go.Proofs.YtconnknbmhbmoaaGreat.sides
namespace Go.Proofs.YtconnknbmhbmoaaGreat.sides
open Go.RowKit Go.Proofs.YtconnknbmhbmoaaGreatW.PrintWords Go.Proofs.YtconnknbmhbmoaaGreat.PSid
set_option linter.unusedVariables false
set_option linter.unusedSimpArgs false

set_option maxHeartbeats 1600000 in
set_option maxRecDepth 100000 in
theorem near (b : Bool) (sp sq sr : Int) (Ap Aq Ar : Option Addr) (cp cq cr : Nat) (lp lq lr : List S58) (w : World) (H : Three Ap Aq Ar cp cq cr lp lq lr w)
    (h1 : halidelaw27_light.f 200 sp lp = some true) (h2 : halidelaw27_light.f 200 sq lq = some true) (h3 : halidelaw27_light.f 200 sr lr = some true)
    {u m pl x y s u3 m3 pl3 x3 y3 s3 e3 u4 m4 pl4 x4 y4 s4 : Int} (hR : apartR sp lp sq lq = (⟨u, m, pl, x, y, s⟩, 0)) (hR' : apartR sq lq sp lp = (⟨u, m, pl, x, y, s⟩, 0)) (hP : halidehelp_Picture.f 65550 sp lp sq lq = some b)
    (hR3 : apartR sq lq sr lr = (⟨u3, m3, pl3, x3, y3, s3⟩, e3)) (hR4 : apartR sp lp sr lr = (⟨u4, m4, pl4, x4, y4, s4⟩, e3))
    (tu : (u == 0) = b) (tm : (m == 0) = b) (ts : (s == 0) = b) (g1 : decide (s < m) = false) (g2 : decide (s < u) = false) (g3 : decide (u * m < s) = false) (k1 : 0 ≤ u * m) (k2 : u * m ≤ 9223372036854775807)
    (a1 : 0 ≤ u) (a2 : u ≤ 262144) (a3 : 0 ≤ m) (a4 : m ≤ 1125899906842624) (a5 : 0 ≤ s) (a6 : s ≤ 1125899906842624)
    (he : e3 ≠ 0 ∨ e3 = 0 ∧ (0 ≤ u3 ∧ u3 ≤ 262144) ∧ (0 ≤ m3 ∧ m3 ≤ 1125899906842624) ∧ (0 ≤ s3 ∧ s3 ≤ 1125899906842624) ∧ m4 ≤ m + m3 ∧ s4 ≤ s + s3 ∧ u4 ≤ u + u3) :
    Calls Tryz.prog 4 #[.agg #[.int .i64 sp, .slice Ap lp.length cp], .agg #[.int .i64 sq, .slice Aq lq.length cq], .agg #[.int .i64 sr, .slice Ar lr.length cr]] w fun e w' => e = .returned (.bool true) ∧ Below w.heap.size w w' := by
  have HH := Aside0.mk H
  have H1 := Aside0.mk h1
  have H2 := Aside0.mk h2
  have H3 := Aside0.mk h3
  have HR := Aside0.mk hR
  have HR' := Aside0.mk hR'
  have HP := Aside0.mk hP
  have HR3 := Aside0.mk hR3
  have HR4 := Aside0.mk hR4
  have HE := Aside0.mk he
  clear H h1 h2 h3 hR hR' hP hR3 hR4 he
  go_enter Tryz.func4, Tryz.ntmps4
  go_wp2_with fail
  have HB0 := Aside0.mk (below_alloc (below_alloc (below_alloc (Below.refl w.heap.size w) (.cells #[.int .i64 sp, .slice Ap lp.length cp] 24)) (.cells #[.int .i64 sq, .slice Aq lq.length cq] 24)) (.cells #[.int .i64 sr, .slice Ar lr.length cr] 24))
  have HX0 := Aside0.mk (Bx.mk3 w #[.int .i64 sp, .slice Ap lp.length cp] #[.int .i64 sq, .slice Aq lq.length cq] #[.int .i64 sr, .slice Ar lr.length cr])
  refine (known_b _).mono ?_
  rintro _ w1 ⟨rfl, hb1⟩
  have HB1 := Aside0.mk (below_then HB0.out HB0.out.size hb1)
  have HX1 := Aside0.mk (HX0.out.below hb1)
  clear HB0 HX0 hb1
  obtain ⟨p0, p1, q0, q1, r0, r1⟩ := HX1.out.cells
  go_wp2_with fail
  refine (halidelaw27_light.calls 200 sp Ap cp lp true _ (Kd.C_below HH.out.p HB1.out) HH.out.pc H1.out).mono ?_
  rintro _ w2 ⟨rfl, hb2⟩
  have HB2 := Aside0.mk (below_then HB1.out HB1.out.size hb2)
  have HX2 := Aside0.mk (HX1.out.below hb2)
  clear hb2 p0 p1 q0 q1 r0 r1 HB1 HX1
  obtain ⟨p0, p1, q0, q1, r0, r1⟩ := HX2.out.cells
  go_wp2_with fail
  refine (halidelaw27_light.calls 200 sq Aq cq lq true _ (Kd.C_below HH.out.q HB2.out) HH.out.qc H2.out).mono ?_
  rintro _ w3 ⟨rfl, hb3⟩
  have HB3 := Aside0.mk (below_then HB2.out HB2.out.size hb3)
  have HX3 := Aside0.mk (HX2.out.below hb3)
  clear hb3 p0 p1 q0 q1 r0 r1 HB2 HX2
  obtain ⟨p0, p1, q0, q1, r0, r1⟩ := HX3.out.cells
  go_wp2_with fail
  refine (halidelaw27_light.calls 200 sr Ar cr lr true _ (Kd.C_below HH.out.r HB3.out) HH.out.rc H3.out).mono ?_
  rintro _ w4 ⟨rfl, hb4⟩
  have HB4 := Aside0.mk (below_then HB3.out HB3.out.size hb4)
  have HX4 := Aside0.mk (HX3.out.below hb4)
  clear hb4 p0 p1 q0 q1 r0 r1 HB3 HX3
  obtain ⟨p0, p1, q0, q1, r0, r1⟩ := HX4.out.cells
  go_wp2_with fail
  refine (apart_at HR.out (Kd.C_below HH.out.p HB4.out) HH.out.pc (Kd.C_below HH.out.q HB4.out) HH.out.qc HH.out.pu HH.out.qu).mono ?_
  rintro _ w5 ⟨rfl, hb5⟩
  have HB5 := Aside0.mk (below_then HB4.out HB4.out.size hb5)
  have HX5 := Aside0.mk (HX4.out.below hb5)
  clear hb5 p0 p1 q0 q1 r0 r1 HB4 HX4
  have HB5a := Aside0.mk (below_alloc HB5.out (.cells #[.int .i64 u, .int .i64 m, .int .i64 pl, .int .i64 x, .int .i64 y, .int .i64 s] 37))
  have HX5a := Aside0.mk (HX5.out.alloc (.cells #[.int .i64 u, .int .i64 m, .int .i64 pl, .int .i64 x, .int .i64 y, .int .i64 s] 37))
  obtain ⟨p0, p1, q0, q1, r0, r1⟩ := HX5a.out.cells
  go_wp2_with fail
  refine (apart_at HR'.out (Kd.C_below HH.out.q HB5a.out) HH.out.qc (Kd.C_below HH.out.p HB5a.out) HH.out.pc HH.out.qu HH.out.pu).mono ?_
  rintro _ w6 ⟨rfl, hb6⟩
  have HB6 := Aside0.mk (below_then HB5a.out HB5a.out.size hb6)
  have HX6 := Aside0.mk (HX5a.out.below hb6)
  have HM6 := Aside0.mk (blk_below (blk_new w5 (.cells #[.int .i64 u, .int .i64 m, .int .i64 pl, .int .i64 x, .int .i64 y, .int .i64 s] 37)) hb6)
  clear hb6 p0 p1 q0 q1 r0 r1 HB5 HX5 HX5a HB5a
  have HB6a := Aside0.mk (below_alloc HB6.out (.cells #[.int .i64 u, .int .i64 m, .int .i64 pl, .int .i64 x, .int .i64 y, .int .i64 s] 37))
  have HX6a := Aside0.mk (HX6.out.alloc (.cells #[.int .i64 u, .int .i64 m, .int .i64 pl, .int .i64 x, .int .i64 y, .int .i64 s] 37))
  obtain ⟨p0, p1, q0, q1, r0, r1⟩ := HX6a.out.cells
  go_wp2_with fail
  refine (halidehelp_Picture.calls 65550 sp Ap cp lp sq Aq cq lq b _ (Kd.C_below HH.out.p HB6a.out) HH.out.pc (Kd.C_below HH.out.q HB6a.out) HH.out.qc HP.out).mono ?_
  rintro _ w7 ⟨rfl, hb7⟩
  have HB7 := Aside0.mk (below_then HB6a.out HB6a.out.size hb7)
  have HX7 := Aside0.mk (HX6a.out.below hb7)
  have HM7 := Aside0.mk (blk_below (blk_alloc HM6.out _) hb7)
  have HN7 := Aside0.mk (blk_below (blk_new w6 (.cells #[.int .i64 u, .int .i64 m, .int .i64 pl, .int .i64 x, .int .i64 y, .int .i64 s] 37)) hb7)
  clear hb7 p0 p1 q0 q1 r0 r1 HB6 HX6 HM6 HX6a HB6a
  obtain ⟨p0, p1, q0, q1, r0, r1⟩ := HX7.out.cells
  have hne := meter_ne u m pl x y s
  have m0 := blk_cell HM7.out 0
  have m1 := blk_cell HM7.out 1
  have m2 := blk_cell HM7.out 2
  have m3_ := blk_cell HM7.out 3
  have m4_ := blk_cell HM7.out 4
  have m5 := blk_cell HM7.out 5
  have n0 := blk_cell HN7.out 0
  have n1 := blk_cell HN7.out 1
  have n2 := blk_cell HN7.out 2
  have n3 := blk_cell HN7.out 3
  have n4 := blk_cell HN7.out 4
  have n5 := blk_cell HN7.out 5
  simp at m0 m1 m2 m3_ m4_ m5 n0 n1 n2 n3 n4 n5
  go_wp2_with fail
  refine (apart_at HR3.out (Kd.C_below HH.out.q HB7.out) HH.out.qc (Kd.C_below HH.out.r HB7.out) HH.out.rc HH.out.qu HH.out.ru).mono ?_
  rintro _ w8 ⟨rfl, hb8⟩
  have HB8 := Aside0.mk (below_then HB7.out HB7.out.size hb8)
  have HX8 := Aside0.mk (HX7.out.below hb8)
  have HM8 := Aside0.mk (blk_below HM7.out hb8)
  clear hb8 p0 p1 q0 q1 r0 r1 m0 m1 m2 m3_ m4_ m5 n0 n1 n2 n3 n4 n5 HB7 HX7 HM7 HN7 hne tu tm ts g1 g2 g3 k1 k2
  have HB8a := Aside0.mk (below_alloc HB8.out (.cells #[.int .i64 u3, .int .i64 m3, .int .i64 pl3, .int .i64 x3, .int .i64 y3, .int .i64 s3] 37))
  have HX8a := Aside0.mk (HX8.out.alloc (.cells #[.int .i64 u3, .int .i64 m3, .int .i64 pl3, .int .i64 x3, .int .i64 y3, .int .i64 s3] 37))
  obtain ⟨p0, p1, q0, q1, r0, r1⟩ := HX8a.out.cells
  go_wp2_with fail
  refine (apart_at HR4.out (Kd.C_below HH.out.p HB8a.out) HH.out.pc (Kd.C_below HH.out.r HB8a.out) HH.out.rc HH.out.pu HH.out.ru).mono ?_
  rintro _ w9 ⟨rfl, hb9⟩
  have HB9 := Aside0.mk (below_then HB8a.out HB8a.out.size hb9)
  have HM9 := Aside0.mk (blk_below (blk_alloc HM8.out _) hb9)
  have HN9 := Aside0.mk (blk_below (blk_new w8 (.cells #[.int .i64 u3, .int .i64 m3, .int .i64 pl3, .int .i64 x3, .int .i64 y3, .int .i64 s3] 37)) hb9)
  clear hb9 p0 p1 q0 q1 r0 r1 HB8 HX8 HX8a HB8a HM8
  have l1 := blk_lt HM9.out
  have l2 := blk_lt HN9.out
  have m0 := blk_cell HM9.out 0
  have m1 := blk_cell HM9.out 1
  have m5 := blk_cell HM9.out 5
  have n0 := blk_cell HN9.out 0
  have n1 := blk_cell HN9.out 1
  have n5 := blk_cell HN9.out 5
  simp at m0 m1 m5 n0 n1 n5
  rcases HE.out with he | ⟨he, ⟨b1, b2⟩, ⟨b3, b4⟩, ⟨b5, b6⟩, c1, c2, c3⟩
  · have he1 : (e3 != 0) = true := by simp [he]
    have he2 : (e3 == 0) = false := by simp [he]
    clear he HE
    go_wp2
    go_ret
    exact ⟨by simp, below_alloc HB9.out _⟩
  · have d1 : decide (m4 ≤ m + m3) = true := decide_eq_true c1
    have d2 : decide (s4 ≤ s + s3) = true := decide_eq_true c2
    have d3 : decide (u4 ≤ u + u3) = true := decide_eq_true c3
    clear HE c1 c2 c3
    subst he
    go_wp2
    go_ret
    exact ⟨by simp, below_alloc HB9.out _⟩
end Go.Proofs.YtconnknbmhbmoaaGreat.sides
namespace Go.Proofs.YtconnknbmhbmoaaGreat.sides
open Go.RowKit Go.Proofs.YtconnknbmhbmoaaGreatW.PrintWords Go.Proofs.YtconnknbmhbmoaaGreat.PSid
set_option linter.unusedVariables false

theorem all_walk (sp sq sr : Int) (Ap Aq Ar : Option Addr) (cp cq cr : Nat) (lp lq lr : List S58) (w : World) (H : Three Ap Aq Ar cp cq cr lp lq lr w) :
    Calls Tryz.prog 4 #[.agg #[.int .i64 sp, .slice Ap lp.length cp], .agg #[.int .i64 sq, .slice Aq lq.length cq], .agg #[.int .i64 sr, .slice Ar lr.length cr]] w fun e w' => e = .returned (.bool true) ∧ Below w.heap.size w w' := by
  obtain ⟨b1, h1⟩ := light_f sp lp
  obtain ⟨b2, h2⟩ := light_f sq lq
  obtain ⟨b3, h3⟩ := light_f sr lr
  cases hb : (b1 && b2 && b3) with
  | false => exact dark sp sq sr Ap Aq Ar cp cq cr lp lq lr w b1 b2 b3 H h1 h2 h3 hb
  | true =>
    simp only [Bool.and_eq_true] at hb
    obtain ⟨⟨rfl, rfl⟩, rfl⟩ := hb
    by_cases he : (apartR sp lp sq lq).2 = 0
    · have hb := both_ways he
      obtain ⟨hI, hU, b, hP, hz⟩ := one he H.pu H.qu
      have h34 := third_err (sr := sr) (lr := lr) he
      have hrest : (apartR sq lq sr lr).2 ≠ 0 ∨ (apartR sq lq sr lr).2 = 0 ∧ (0 ≤ (apartR sq lq sr lr).1.u ∧ (apartR sq lq sr lr).1.u ≤ 262144) ∧ (0 ≤ (apartR sq lq sr lr).1.m ∧ (apartR sq lq sr lr).1.m ≤ 1125899906842624) ∧ (0 ≤ (apartR sq lq sr lr).1.s ∧ (apartR sq lq sr lr).1.s ≤ 1125899906842624) ∧
          (apartR sp lp sr lr).1.m ≤ (apartR sp lp sq lq).1.m + (apartR sq lq sr lr).1.m ∧ (apartR sp lp sr lr).1.s ≤ (apartR sp lp sq lq).1.s + (apartR sq lq sr lr).1.s ∧ (apartR sp lp sr lr).1.u ≤ (apartR sp lp sq lq).1.u + (apartR sq lq sr lr).1.u := by
        by_cases h0 : (apartR sq lq sr lr).2 = 0
        · obtain ⟨hI3, hU3, _⟩ := one h0 H.qu H.ru
          have ht := three he h0
          have i1 := hI3.ms
          have i2 := hU3.s
          exact .inr ⟨h0, ⟨hU3.u0, hU3.u⟩, ⟨hI3.m, by omega⟩, ⟨hU3.s0, by omega⟩, ht.m, ht.s, ht.u⟩
        · exact .inl h0
      obtain ⟨z1, z2⟩ := hI.zero
      have i1 := hI.ms
      have i2 := hU.s
      have i3 := hI.us
      have i4 := hI.su
      have i5 := hI.m
      have i6 := hU.u0
      have i7 := hU.u
      have i8 := hU.s0
      have i9 := hU.mm
      generalize hR : apartR sp lp sq lq = R at *
      generalize hR3 : apartR sq lq sr lr = R3 at *
      generalize hR4 : apartR sp lp sr lr = R4 at *
      obtain ⟨⟨u, m, pl, x, y, s⟩, e⟩ := R
      obtain ⟨⟨u3, m3, pl3, x3, y3, s3⟩, e3⟩ := R3
      obtain ⟨⟨u4, m4, pl4, x4, y4, s4⟩, e4⟩ := R4
      simp only at he hz h34 hrest z1 z2 i1 i2 i3 i4 i5 i6 i7 i8 i9
      subst he h34
      have k1 : 0 ≤ u * m := Int.mul_nonneg i6 i5
      have k2 : u * m ≤ 262144 * 4294967295 := Int.mul_le_mul i7 i9 i5 (by omega)
      have tb : ∀ {n : Int}, (n = 0 ↔ s = 0) → (n == 0) = b := fun {n} h => by
        rw [Bool.eq_iff_iff, beq_iff_eq, h, hz]
      exact near b sp sq sr Ap Aq Ar cp cq cr lp lq lr w H h1 h2 h3 hR hb hP hR3 hR4 (tb z1) (tb z2) (tb Iff.rfl) (decide_eq_false (by omega)) (decide_eq_false (by omega)) (decide_eq_false (by omega)) k1 (by omega) i6 i7 i5 (by omega) i8 (by omega) hrest
    · generalize hR : apartR sp lp sq lq = R at *
      generalize hR' : apartR sq lq sp lp = R' at *
      obtain ⟨⟨u, m, pl, x, y, s⟩, e⟩ := R
      obtain ⟨⟨u', m', pl', x', y', s'⟩, e'⟩ := R'
      exact far sp sq sr Ap Aq Ar cp cq cr lp lq lr w H h1 h2 h3 hR hR' he
end Go.Proofs.YtconnknbmhbmoaaGreat.sides
namespace Go.Proofs.YtconnknbmhbmoaaGreat.sides
open Go.ChangeShapes Go.WideShapes Go.ChangeAt Go.RowKit Go.Deep Go.Proofs.YtconnknbmhbmoaaGreatW.PrintWords Go.Proofs.YtconnknbmhbmoaaGreat.PSid
set_option linter.unusedVariables false

theorem cells24 : Tryz.prog.cellsOf 24 = 2 := by kernel_rfl
theorem cells58 : Tryz.prog.cellsOf 58 = 3 := by kernel_rfl
theorem cells3 : Tryz.prog.cellsOf 3 = 1 := by kernel_rfl
theorem cells46 : Tryz.prog.cellsOf 46 = 1 := by kernel_rfl
theorem cells42 : Tryz.prog.cellsOf 42 = 1 := by kernel_rfl
theorem one24 : oneCellFields Tryz.prog #[{ name := "Space", type := 3, offset := 0, embedded := false, tag := "", pkgPath := "", byteOffset := 0 }, { name := "Planes", type := 22, offset := 1, embedded := false, tag := "", pkgPath := "", byteOffset := 8 }] = true := by kernel_rfl

section
variable {H : Type} {enc : TypeId × Value → H} {W : World} {base : Nat} {spare : Nat → Bool} {held : Bool}

/-- a list of things, each of which is so -/
theorem choose_list {α : Type} (z : α) (Q : Nat → α → Prop) : ∀ n, (∀ i, i < n → ∃ x, Q i x) → ∃ l : List α, l.length = n ∧ ∀ i, i < n → ∃ x, l[i]? = some x ∧ Q i x
  | 0, _ => ⟨[], rfl, fun i h => by omega⟩
  | n + 1, h => by
    obtain ⟨l, hl, hq⟩ := choose_list z Q n fun i hi => h i (by omega)
    obtain ⟨x, hx⟩ := h n (by omega)
    refine ⟨l ++ [x], by simp [hl], fun i hi => ?_⟩
    by_cases e : i < n
    · obtain ⟨y, hy, hQ⟩ := hq i e
      exact ⟨y, by rw [List.getElem?_append_left (by omega)]; exact hy, hQ⟩
    · obtain rfl : i = n := by omega
      exact ⟨x, by simp [← hl], hx⟩

theorem u32_of {n : Int} (h : (Lit.int .u32 n).wf = true) : U32 n := by
  simp [Lit.wf, IntKind.min, IntKind.max, IntKind.signed, IntKind.bits] at h
  exact h

/-- a list of samples -/
theorem open_samples {fuel : Nat} {v : Value} {x : DataW H × List MemPlace} (h : DataW.trod enc Tryz.prog W base spare held fuel 46 [v] = some x) :
    ∃ (A : Option Addr) (c : Nat) (l : List Int), v = .slice A l.length c ∧ l.length ≤ c ∧ (Kd.int .u32).C W A l.length l ∧ AllU l := by
  rcases open_ints Tryz.underlying46 Tryz.underlying42 cells42 h with ⟨hcs, _⟩ | ⟨a, len, cap, zs, hcs, _, hl, hm, hz, _, hcell, hwz⟩
  · obtain rfl := (List.cons.inj hcs).1
    exact ⟨none, 0, [], rfl, Nat.le_refl _, Kd.C_nil _ _, fun x hx => by simp at hx⟩
  · obtain rfl := (List.cons.inj hcs).1
    have hlz : len ≤ zs.length := by rw [hz]; split <;> omega
    have hln : (zs.take len).length = len := by simp; omega
    refine ⟨some a, cap, zs.take len, by rw [hln], by rw [hln]; exact hl, ?_, fun x hx => u32_of (hwz x (List.mem_of_mem_take hx))⟩
    rw [hln]
    refine Kd.C_of_reads (d := (0 : Int)) (h1 := fun _ => rfl) ⟨hln, by unfold maxLen at hm; omega, fun h0 => ⟨a, rfl, fun j hj => ?_⟩⟩
    rw [hcell j (by omega)]
    simp only [List.getD_eq_getElem?_getD, List.getElem?_take, if_pos hj]

set_option maxRecDepth 100000 in
theorem open_picture {r : Reach} {b0 : Nat} {v : Value} {d : DataW H} {p : List MemPlace} (hv : Value.okWide Tryz.prog W r b0 24 v) (h : DataW.Trod enc Tryz.prog W base spare held 24 v d p) :
    ∃ (sp : Int) (A : Option Addr) (c : Nat) (l : List S58), v = .agg #[.int .i64 sp, .slice A l.length c] ∧ l.length ≤ c ∧ Kd.C k58 W A l.length l ∧ UL l := by
  obtain ⟨v0, v1, y0, y1, n, rfl, _, _, h0, h1⟩ := Joins.open_agg2 Tryz.underlying24 one24 cells24 hv h
  obtain ⟨sp, hs, _, _⟩ := DataW.trod_int Tryz.underlying3 h0
  obtain rfl := (List.cons.inj hs).1
  rcases open_slice Tryz.underlying22 h1 with ⟨hcs, _⟩ | ⟨a, len, cap, m, n', D, Pl, hcs, hb, hl, hm, hmm, hx, hi⟩
  · obtain rfl := (List.cons.inj hcs).1
    exact ⟨sp, none, 0, [], rfl, Nat.le_refl _, Kd.C_nil _ _, fun j hj => by simp at hj⟩
  · obtain rfl := (List.cons.inj hcs).1
    have hlm : len ≤ m := by rw [hmm]; split <;> omega
    have hel : ∀ i, i < len → ∃ x : S58, (∃ cs, cs.length = 3 ∧ k58.K W x cs ∧ ∀ j u, cs[j]? = some u → W.cell? (a.add (i * 3 + j)) = some u) ∧ AllU x.f2 := by
      intro i hil
      obtain ⟨cs, hc, ht⟩ := hi i (by omega)
      rw [cells58] at hc
      obtain ⟨ys, n2, hn, hy, hcl, hyl, hf⟩ := DataW.trod_struct Tryz.underlying58 ht
      obtain ⟨_, hcl', hat⟩ := World.cells?_some hc
      match cs, hcl' with
      | [c0, c1, c2], _ =>
        have f0 := hf 0 _ rfl
        have f1 := hf 1 _ rfl
        have f2 := hf 2 _ rfl
        match ys, hyl with
        | [z0, z1, z2], _ =>
          simp [cells3, cells46] at f0 f1 f2
          obtain ⟨wd, e0, _, _⟩ := DataW.trod_int Tryz.underlying3 f0
          obtain ⟨hg, e1, _, _⟩ := DataW.trod_int Tryz.underlying3 f1
          obtain ⟨A2, cc, l2, rfl, hlc, hC2, hU2⟩ := open_samples f2
          obtain rfl := (List.cons.inj e0).1
          obtain rfl := (List.cons.inj e1).1
          refine ⟨⟨wd, hg, l2⟩, ⟨[.int .i64 wd, .int .i64 hg, .slice A2 l2.length cc], rfl, k58_mk W ⟨wd, hg, l2⟩ hlc hC2, fun j u hu => ?_⟩, hU2⟩
          have hj : j < 3 := by
            have := (List.getElem?_eq_some_iff.1 hu).1
            simpa using this
          rw [← Go.Deep.add_add, hat j hj]
          exact hu
    obtain ⟨l, hln, hq⟩ := choose_list (⟨0, 0, []⟩ : S58) (fun i x => (∃ cs, cs.length = 3 ∧ k58.K W x cs ∧ ∀ j u, cs[j]? = some u → W.cell? (a.add (i * 3 + j)) = some u) ∧ AllU x.f2) len hel
    refine ⟨sp, some a, cap, l, by rw [hln], by omega, ⟨rfl, by unfold maxLen at hm; omega, fun h0 => ⟨a, rfl, fun j x hx => ?_⟩⟩, fun j hj => ?_⟩
    · have hj : j < len := by have := (List.getElem?_eq_some_iff.1 hx).1; omega
      obtain ⟨x', hx', ⟨cs, h1, h2, h3⟩, _⟩ := hq j hj
      rw [hx] at hx'
      obtain rfl := Option.some.inj hx'
      exact ⟨cs, h1, h2, h3⟩
    · obtain ⟨x', hx', _, hU⟩ := hq j (by omega)
      have : rd_T58 l j = x' := by unfold rd_T58; rw [Int.toNat_natCast, List.getD_eq_getElem?_getD, hx']; rfl
      rw [this]
      exact hU
end
end Go.Proofs.YtconnknbmhbmoaaGreat.sides
