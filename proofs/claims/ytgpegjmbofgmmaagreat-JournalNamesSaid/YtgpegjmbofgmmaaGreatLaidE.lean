/- A fact on the program that wants much memory: alone in its text. No condition. -/
import Derived.Test.YtgpegjmbofgmmaaGreatProg
import Derived.Test.YtgpegjmbofgmmaaGreatLaidD
import Derived.WalkKit
import Derived.ProofKit
import Derived.OpenShut
namespace Go.Proofs.YtgpegjmbofgmmaaGreat.laid
/-- the closure, what is seen as bits of a number -/
def viaB (P : Program) : Nat → List FuncId → List FuncId → Nat → List FuncId
  | 0, _, seen, _ => seen.reverse
  | _ + 1, [], seen, _ => seen.reverse
  | n + 1, f :: todo, seen, mask => bif mask.testBit f then viaB P n todo seen mask else viaB P n ((P.funcs[f]?).elim [] P.leadsTo ++ todo) (f :: seen) (mask ||| 1 <<< f)

theorem viaB_eq (P : Program) : ∀ (n : Nat) (todo seen : List FuncId) (mask : Nat), (∀ f, mask.testBit f = seen.contains f) → viaB P n todo seen mask = P.closureVia n todo seen
  | 0, todo, seen, mask, h => by simp [viaB, Program.closureVia]
  | n + 1, [], seen, mask, h => by simp [viaB, Program.closureVia]
  | n + 1, f :: todo, seen, mask, h => by
    rw [viaB, Program.closureVia, h f]
    cases hc : seen.contains f with
    | true => simp only [cond_true, if_true]; exact viaB_eq P n todo seen mask h
    | false =>
      simp only [cond_false, Bool.false_eq_true, if_false]
      refine viaB_eq P n _ _ _ fun g => ?_
      rw [Nat.testBit_or, h g, List.contains_cons, Nat.shiftLeft_eq, Nat.one_mul, Nat.testBit_two_pow]
      by_cases hg : g = f
      · subst hg; simp
      · have h1 : (g == f) = false := by simpa using hg
        have h2 : ¬ f = g := fun e => hg e.symm
        simp [h1, h2]

def all : List FuncId := [3, 7, 11, 36, 67, 112, 68, 37, 69, 38, 70, 113, 114, 115, 116, 169, 118, 117, 170, 239, 171, 172, 119, 173, 174, 240, 333, 332, 120, 175, 241, 242, 334, 335, 336, 337, 338, 243, 176, 121, 122, 39, 41, 40, 42, 71, 12, 15, 48, 77, 78, 49, 79, 50, 80, 81, 126, 181, 246, 247, 248, 249, 182, 250, 341, 183, 251, 342, 454, 456, 455, 343, 344, 252, 184, 82, 84, 83, 51, 13, 43, 44, 45, 72, 18, 17, 53, 85, 127, 185, 186, 149, 131, 132, 221, 187, 253, 345, 346, 347, 348, 458, 459, 460, 457, 349, 350, 461, 462, 351, 254, 255, 352, 463, 358, 475, 464, 538, 485, 465, 353, 355, 469, 471, 470, 472, 473, 539, 487, 354, 466, 467, 468, 362, 190, 256, 356, 257, 258, 357, 474, 540, 541, 592, 543, 544, 542, 259, 260, 261, 359, 476, 481, 262, 480, 263, 264, 315, 360, 477, 478, 479, 361, 265, 266, 363, 482, 483, 545, 593, 546, 594, 595, 599, 547, 548, 596, 549, 491, 550, 551, 597, 552, 553, 364, 366, 365, 484, 267, 268, 367, 368, 369, 486, 269, 270, 370, 371, 488, 554, 555, 556, 557, 558, 559, 372, 374, 376, 375, 373, 271, 272, 377, 378, 273, 275, 276, 379, 380, 381, 382, 385, 384, 490, 383, 489, 274, 277, 386, 387, 492, 493, 498, 562, 601, 602, 603, 563, 564, 565, 566, 604, 624, 218, 320, 623, 636, 648, 649, 661, 666, 560, 495, 494, 561, 598, 622, 635, 600, 496, 388, 497, 389, 390, 499, 500, 504, 567, 501, 502, 505, 506, 391, 503, 392, 393, 394, 395, 507, 508, 568, 605, 625, 289, 418, 419, 637, 650, 651, 662, 652, 521, 522, 653, 663, 664, 667, 654, 655, 656, 657, 626, 627, 638, 397, 512, 396, 510, 509, 569, 511, 570, 606, 398, 399, 513, 400, 514, 188, 189, 86, 54, 87, 89, 88, 19, 20, 55, 90, 98, 148, 128, 135, 129, 191, 130, 137, 193, 278, 401, 515, 571, 572, 607, 628, 608, 517, 573, 609, 201, 288, 409, 415, 410, 520, 411, 412, 523, 524, 583, 413, 414, 416, 417, 629, 575, 612, 633, 640, 641, 658, 642, 643, 659, 660, 665, 644, 645, 646, 647, 613, 574, 610, 630, 611, 632, 631, 639, 576, 516, 402, 97, 279, 403, 404, 280, 405, 281, 406, 518, 577, 615, 614, 578, 616, 579, 617, 580, 519, 581, 582, 618, 203, 290, 291, 420, 525, 421, 526, 527, 282, 407, 408, 194, 283, 215, 319, 437, 318, 435, 535, 436, 536, 584, 585, 619, 586, 587, 620, 621, 634, 588, 589, 590, 591, 219, 217, 195, 284, 285, 286, 197, 198, 196, 287, 199, 220, 192, 91, 133, 59, 134, 92, 136, 93, 94, 138, 139, 140, 200, 211, 312, 202, 210, 204, 141, 205, 292, 293, 294, 295, 296, 297, 298, 422, 299, 423, 300, 301, 424, 302, 425, 303, 304, 206, 207, 208, 306, 143, 212, 313, 429, 307, 430, 528, 529, 530, 531, 532, 431, 213, 314, 432, 533, 534, 214, 316, 317, 433, 434, 305, 426, 427, 209, 308, 309, 428, 310, 311, 142, 144, 216, 21, 22, 56, 23, 24, 57, 95, 145, 96, 147, 146, 25, 58, 26]
theorem closureB : viaB Tryz.prog 2103 [3] [] 0 = all := by kernel_rfl
theorem closure3 : Tryz.prog.closure 3 = all := by
  unfold Program.closure
  rw [fuel, ← viaB_eq Tryz.prog 2103 [3] [] 0 (fun f => by simp)]
  exact closureB
end Go.Proofs.YtgpegjmbofgmmaaGreat.laid
