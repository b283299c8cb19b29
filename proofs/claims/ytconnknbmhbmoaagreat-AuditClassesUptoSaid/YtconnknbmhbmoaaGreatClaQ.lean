/- A part of the proof: the law's own walk, whole. Condition: the samples are of 32 bits, and not so many that no memory holds them. -/
import Derived.Test.YtconnknbmhbmoaaGreatClaJ
import Derived.Test.YtconnknbmhbmoaaGreatClaL
import Derived.Test.YtconnknbmhbmoaaGreatClaN
import Derived.Test.YtconnknbmhbmoaaGreatClaP
namespace Go.Proofs.YtconnknbmhbmoaaGreat.classes
open Go.RowKit Go.Proofs.YtconnknbmhbmoaaGreatW.PrintWords Go.Proofs.YtconnknbmhbmoaaGreat.PCla
set_option linter.unusedVariables false
set_option linter.unusedSimpArgs false

theorem refBits_loop (sp : Int) (l : List S58) (hn : l.length ≤ 4) (rs : Nat → List Int) (B : Nat)
    (hR : ∀ j : Nat, j < l.length → ∀ K, B ≤ K → halideref18_Rests.f K (rd_T58 l j).f0 (rd_T58 l j).f1 (rd_T58 l j).f2 = some (rs j, 0))
    (hC : ∀ j : Nat, j < l.length → ∀ K, B ≤ K → halideref17_Cost.f K (rs j) = some ((stS (rs j) (rs j).length).2.2, 0)) :
    ∀ (d i K : Nat), i + d = l.length → B + d + 1 ≤ K → halideref27_Bits.l0 K (bitsOf rs i) i sp l = some (bitsOf rs l.length, 0) := by
  intro d
  induction d with
  | zero =>
    intro i K hi hK
    obtain ⟨K', rfl⟩ : ∃ K', K = K' + 1 := ⟨K - 1, by omega⟩
    obtain rfl : i = l.length := by omega
    rw [halideref27_Bits.l0, if_neg (by omega)]
  | succ d ih =>
    intro i K hi hK
    obtain ⟨K', rfl⟩ : ∃ K', K = K' + 1 := ⟨K - 1, by omega⟩
    have h := ih (i + 1) K' (by omega) (by omega)
    rw [halideref27_Bits.l0, if_pos (by omega), if_pos (by omega), hR i (by omega) K' (by omega), Option.bind_some, hC i (by omega) K' (by omega), Option.bind_some, if_pos (by rw [bitsOf_length]; omega), wrap_id (x := (i : Int) + 1) (by omega) (by omega)]
    rw [bitsOf_succ, Int.natCast_add, Int.natCast_one] at h
    exact h

theorem law_all (w : World) (sp : Int) (A : Option Addr) (cap : Nat) (l : List S58) (hr : Kd.C k58 w A l.length l) (hcap : l.length ≤ cap) (hU : UL l) (hn : l.length ≤ 2000000) (hs : ∀ j : Nat, j < l.length → (rd_T58 l j).f2.length ≤ 2000000) :
    Calls Tryz.prog 3 #[.agg #[.int .i64 sp, .slice A l.length cap]] w fun e w' => e = .returned (.bool true) ∧ Below w.heap.size w w' := by
  obtain ⟨b, hl⟩ := light_f sp l
  cases b with
  | false => exact law_dark w sp A cap l hr hcap 200 hl
  | true =>
    obtain ⟨er, hck, hgood⟩ := check_f sp l
    obtain ⟨k, hk⟩ : ∃ k : Nat, 5000000 ≤ k := ⟨_, Nat.le_refl _⟩
    have hlk : halidelaw27_light.f k sp l = some true := up_to (f := fun k => halidelaw27_light.f k sp l) (fun k => halidelaw27_light.mono _ _ k) hl (by omega)
    have hckk : picture_Check.f k sp l = some er := up_to (f := fun k => picture_Check.f k sp l) (fun k => picture_Check.mono _ _ k) hck (by omega)
    have hp := pic_f sp l hn hs k (by omega)
    by_cases he : er = 0
    · subst he
      obtain ⟨g1, g2, g3, g4⟩ := hgood rfl
      have hsm : ∀ j : Nat, j < l.length → (rd_T58 l j).f2.length ≤ 65536 := fun j hj => (g3 j hj).small
      have hls := light_small sp l g2 hsm k hlk
      have hex : ∀ j : Nat, ∃ r : List Int, j < l.length → r.length = (rd_T58 l j).f2.length ∧ AllU r ∧ codec_Rests.f 70000 (rd_T58 l j).f0 (rd_T58 l j).f1 (rd_T58 l j).f2 = some (r, 0) ∧ halideref18_Rests.f 70000 (rd_T58 l j).f0 (rd_T58 l j).f1 (rd_T58 l j).f2 = some (r, 0) := by
        intro j
        by_cases hj : j < l.length
        · have := hsm j hj
          obtain ⟨r, h1, h2, h3, h4⟩ := rests_f (g3 j hj) (hU j hj) (g3 j hj).chk 70000 (by omega)
          exact ⟨r, fun _ => ⟨h1, h2, h3, h4⟩⟩
        · exact ⟨[], fun h => absurd h hj⟩
      obtain ⟨rs, hrs⟩ := Classical.axiomOfChoice hex
      have hrl : ∀ j : Nat, j < l.length → (rs j).length ≤ 2000 := fun j hj => by have h1 := (hrs j hj).1; have h2 := hls j hj; omega
      have hcod : ∀ j : Nat, j < l.length → codec_Rests.f k (rd_T58 l j).f0 (rd_T58 l j).f1 (rd_T58 l j).f2 = some (rs j, 0) ∧ (rs j).length ≤ 2000 := fun j hj =>
        ⟨up_to (f := fun k => codec_Rests.f k (rd_T58 l j).f0 (rd_T58 l j).f1 (rd_T58 l j).f2) (fun k => codec_Rests.mono _ _ _ k) (hrs j hj).2.2.1 (by omega), hrl j hj⟩
      have hR : ∀ j : Nat, j < l.length → ∀ K, 70000 ≤ K → halideref18_Rests.f K (rd_T58 l j).f0 (rd_T58 l j).f1 (rd_T58 l j).f2 = some (rs j, 0) := fun j hj K hK =>
        up_to (f := fun k => halideref18_Rests.f k (rd_T58 l j).f0 (rd_T58 l j).f1 (rd_T58 l j).f2) (fun k => halideref18_Rests.mono _ _ _ k) (hrs j hj).2.2.2 hK
      have hC : ∀ j : Nat, j < l.length → ∀ K, 70000 ≤ K → halideref17_Cost.f K (rs j) = some ((stS (rs j) (rs j).length).2.2, 0) := fun j hj K hK => cost_g (hrs j hj).2.1 (hrl j hj) K (by omega)
      have h9 : halideref27_Classes.f k sp l = some (call l l.length, 0) := up_to (f := fun k => halideref27_Classes.f k sp l) (fun k => halideref27_Classes.mono _ _ k) (classes_f sp l hU g2 hsm hck) (by omega)
      have h11 : halideref27_Bits.f k sp l = some (bitsOf rs l.length, 0) := by
        unfold halideref27_Bits.f
        rw [check_eq, hckk, Option.bind_some, if_pos rfl]
        exact refBits_loop sp l g2 rs 70000 hR hC l.length 0 k (by omega) (by omega)
      refine law_light w sp A cap l hr hcap hn hs k hlk (call l l.length) (bitsOf rs l.length) 0 ?_ ?_ h9 h11 (ints_f _ (by rw [call_length]; omega) k (by rw [call_length]; omega)) (ints_f _ (by rw [bitsOf_length]; omega) k (by rw [bitsOf_length]; omega)) hp
      · intro w A c hr hc
        exact classes_good w sp A c l hr hc k hckk (by omega) (fun j hj => by have := hsm j hj; omega)
      · intro w A c hr hc
        refine (bits_good w sp A c l rs hr hc k hckk (by omega) hcod).mono ?_
        rintro e w' ⟨v, rfl, ho, hb⟩
        obtain ⟨A', c', rfl, h1, h2⟩ := Kd.R_reads ho
        exact ⟨A', c', rfl, h1, h2, hb⟩
    · have h9 : halideref27_Classes.f k sp l = some ([], er) := up_to (f := fun k => halideref27_Classes.f k sp l) (fun k => halideref27_Classes.mono _ _ k) (classes_f_bad sp l er he hck) (by omega)
      have h11 : halideref27_Bits.f k sp l = some ([], er) := by
        unfold halideref27_Bits.f
        rw [check_eq, hckk, Option.bind_some, if_neg he]
      refine law_light w sp A cap l hr hcap hn hs k hlk [] [] er ?_ ?_ h9 h11 (ints_f _ (by simp) k (by simp; omega)) (ints_f _ (by simp) k (by simp; omega)) hp
      · intro w A c hr hc
        refine (classes_bad w sp A c l er hr hc k hckk he).mono ?_
        rintro e w' ⟨rfl, hb⟩
        exact ⟨none, 0, rfl, Nat.le_refl _, Kd.C_nil _ _, hb⟩
      · intro w A c hr hc
        refine (bits_bad w sp A c l er hr hc k hckk he).mono ?_
        rintro e w' ⟨rfl, hb⟩
        exact ⟨none, 0, rfl, Nat.le_refl _, Kd.C_nil _ _, hb⟩
end Go.Proofs.YtconnknbmhbmoaaGreat.classes
