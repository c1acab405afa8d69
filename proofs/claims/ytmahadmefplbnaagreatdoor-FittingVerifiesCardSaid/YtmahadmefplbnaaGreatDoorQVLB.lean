/- Short names. -/
import Derived.Test.YtmahadmefplbnaaGreatDoorQVLA
import Derived.Lib.Hide
import Derived.KernelRfl
set_option maxRecDepth 100000
theorem ag {p:Prop} (h:p:=by kernel_rfl):p:=h
theorem ak {α:Type} {a b:α} (h:a=b:=by kernel_rfl):some a=some b:=congrArg some h
theorem ai {p:Prop} (h:p):Go.RowKit.Hid p:=h
theorem Go.RowKit.Hid.o {p:Prop} (h:Go.RowKit.Hid p):p:=h.out
theorem aj:(false=true)=False:=Bool.false_eq_true
