/- Short words for proofs. Conditions: each theorem's own. -/
namespace Go.Abs
abbrev AG:=List (List Rat)
theorem AA {P:Prop} (h:P:=by omega):P:=h
theorem AD {P:Prop} (h:P:=by decide):P:=h
theorem AS {P:Prop} (h:P:=by simp):P:=h
end Go.Abs
