/- Short words for proofs. Conditions: each theorem's own. -/
namespace Go.Abs
abbrev AH:=List (List Rat)
theorem AA {P:Prop} (h:P:=by omega):P:=h
theorem AF {P:Prop} (h:P:=by decide):P:=h
theorem AZ {P:Prop} (h:P:=by simp):P:=h
end Go.Abs
