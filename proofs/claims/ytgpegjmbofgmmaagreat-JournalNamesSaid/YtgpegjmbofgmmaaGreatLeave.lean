/- A part of the proof: a call of one goroutine is a call at whose return the others are only leaving. No condition. -/
import Derived.Conc.HoldsTime
import Derived.Clock
import Derived.Leaving
namespace Go.Proofs.YtgpegjmbofgmmaaGreat.leave
open Go

/-- Nobody else is there: so nobody else but leaves. -/
theorem leaving_of_handed {a : Assume} {C : Checked} {os : Os} {f : FuncId} {r : Reach} {Pre : World → Array Value → Prop} {Post : World → Array Value → Value → World → Prop}
    (h : ReturnsInHanded a C os f r Pre Post) : ReturnsInLeavingWide a C os f r Pre Post := fun enter => by
  obtain ⟨e, own, st, wit, run⟩ := h enter
  refine ⟨e, own, st, wit, fun w tape i hh => ?_⟩
  obtain ⟨N, v, w', hn, hc, hroom, hp, ⟨M, last, h2, h3, hq, ho, he⟩, hal⟩ := run w tape i hh
  exact ⟨N, v, w', hn, hc, hroom, hp, ⟨M, last, h2, h3, ho, onlyLeaving_of_quiet hq, he⟩, hal⟩
end Go.Proofs.YtgpegjmbofgmmaaGreat.leave
