/- A part of the proof. No condition. -/
import Derived.Test.YtgpegjmbofgmmaaGreatProg
import Derived.Test.YtgpegjmbofgmmaaGreatRLaidD
import Derived.WalkKit
import Derived.ProofKit
import Derived.OpenShut
namespace Go.Proofs.YtgpegjmbofgmmaaGreat.laid
def viaB (P:Program):Nat->List FuncId->List FuncId->Nat->List FuncId
 | 0,_,seen,_=>seen.reverse
 | _+1,[],seen,_=>seen.reverse
 | n+1,f::todo,seen,mask=>bif mask.testBit f then viaB P n todo seen mask else viaB P n ((P.funcs[f]?).elim [] P.leadsTo++todo) (f::seen) (mask|||1<<<f)
theorem viaB_eq (P:Program) : ∀(n:Nat) (todo seen:List FuncId) (mask:Nat),(∀f,mask.testBit f=seen.contains f)->viaB P n todo seen mask=P.closureVia n todo seen
 | 0,todo,seen,mask,h=>by simp[viaB,Program.closureVia]
 | n+1,[],seen,mask,h=>by simp[viaB,Program.closureVia]
 | n+1,f::todo,seen,mask,h=>by
  rw[viaB,Program.closureVia,h f]
  cases hc:seen.contains f with
  | true=>simp only[cond_true,if_true];exact viaB_eq P n todo seen mask h
  | false =>
   simp only[cond_false,Bool.false_eq_true,if_false]
   refine viaB_eq P n _ _ _ fun g=>?_
   rw[Nat.testBit_or,h g,List.contains_cons,Nat.shiftLeft_eq,Nat.one_mul,Nat.testBit_two_pow]
   by_cases hg:g=f
   ·subst hg;simp
   ·have h1:(g==f)=false:=by simpa using hg
    have h2 : ¬f=g:=fun e=>hg e.symm
    simp[h1,h2]
end Go.Proofs.YtgpegjmbofgmmaaGreat.laid
