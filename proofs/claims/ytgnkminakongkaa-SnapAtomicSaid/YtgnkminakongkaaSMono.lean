/- Calls: what follows from what is asked. -/
import Derived.Test.YtgnkminakongkaaRounds
namespace Go.Proofs.Ytgnkminakongkaa
open Go Go.Sep
theorem ret_mono {P : Program} {f : FuncId} {args : Array Value} {w : World} {k k' : Value → World → Prop} (h : Calls P f args w (Ret k)) (hk : ∀ v w, k v w → k' v w) : Calls P f args w (Ret k') :=
  h.mono fun e w he => by
    cases e with
    | returned v => exact hk _ _ he
    | panicked c => exact he.elim
    | outgrown => exact he.elim
theorem callY_mono {P : Program} {f : Value} {args : List Value} {w : World} {k k' : Value → K} (h : CallY P f args k w) (hk : ∀ v w, k v w → k' v w) : CallY P f args k' w := by
  obtain ⟨l, hl, fn, tm, sg, bd, hy, hr⟩ := h
  refine ⟨l, hl, fn, tm, sg, bd, hy, hr.mono fun e w he => ?_⟩
  cases e with
  | returned v => exact hk _ _ he
  | panicked c => exact he.elim
  | outgrown => exact he.elim
end Go.Proofs.Ytgnkminakongkaa
