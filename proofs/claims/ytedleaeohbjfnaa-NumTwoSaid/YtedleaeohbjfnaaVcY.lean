/- Branches that the context decides. No condition. -/
import Derived.Test.YtedleaeohbjfnaaVcX
namespace Go.Vc
theorem br_yes {c : Prop} {x y : Unit → Prop} (h : c) : br c x y = x () := propext ⟨fun H => H.1 h, fun H => ⟨fun _ => H, fun n => absurd h n⟩⟩
theorem br_no {c : Prop} {x y : Unit → Prop} (h : ¬ c) : br c x y = y () := propext ⟨fun H => H.2 h, fun H => ⟨fun n => absurd n h, fun _ => H⟩⟩
theorem dec_yes {c : Prop} [Decidable c] (h : c) : decide c = true := decide_eq_true h
theorem dec_no {c : Prop} [Decidable c] (h : ¬ c) : decide c = false := decide_eq_false h
set_option linter.defProp false in
def va := And.intro @br_yes (And.intro @br_no (And.intro @dec_yes @dec_no))
end Go.Vc
