/- Short names. -/
import Derived.Test.YtmahadmefplbnaaGreatDoorQFUA
import Derived.Lib.Hide
import Derived.KernelRfl
set_option maxRecDepth 100000
theorem ag {p:Prop} (h:p:=by kernel_rfl):p:=h
theorem ai {p:Prop} (h:p):Go.RowKit.Hid p:=h
theorem Go.RowKit.Hid.o {p:Prop} (h:Go.RowKit.Hid p):p:=h.out
theorem aj:(false=true)=False:=Bool.false_eq_true
