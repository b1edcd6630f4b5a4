/- Part of the proof: side proofs by default arguments. -/
import Derived.KernelRfl
namespace Go.Proofs.YtiebppkhaiofeaaGreat
theorem vB {p:Prop} (h:p:=by omega):p:=h
theorem xB {p:Prop} (h:p:=by kernel_rfl):p:=h
theorem yB {p:Prop} (h:p:=by decide):p:=h
theorem zB {p:Prop} (h:p:=by simp):p:=h
end Go.Proofs.YtiebppkhaiofeaaGreat
