/- Short names. -/
set_option maxRecDepth 100000
theorem ae {p:Prop} (h:p:=by omega):p:=h
theorem af {p:Prop} (h:p:=by decide):p:=h
theorem ah {p:Prop} (h:p:=by first|omega|(simp only [];omega)|(simp;omega)):p:=h
