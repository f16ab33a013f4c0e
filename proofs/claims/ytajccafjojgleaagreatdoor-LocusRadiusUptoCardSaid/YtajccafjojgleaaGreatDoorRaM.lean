/- Short words for proofs. Conditions: each theorem's own. -/
namespace Go.Abs
abbrev AD:=List (List Rat)
theorem AA {P:Prop} (h:P:=by omega):P:=h
theorem AE {P:Prop} (h:P:=by decide):P:=h
theorem Ai {P:Prop} (h:P:=by simp):P:=h
end Go.Abs
