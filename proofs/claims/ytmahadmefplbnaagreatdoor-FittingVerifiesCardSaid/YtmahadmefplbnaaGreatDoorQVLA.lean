/- Short names. -/
set_option maxRecDepth 100000
theorem ae {p:Prop} (h:p:=by omega):p:=h
theorem af {p:Prop} (h:p:=by decide):p:=h
theorem aq {α:Type} (l:List α) (i:Nat) (a:α):l.toArray.setIfInBounds i a=(l.set i a).toArray:=List.setIfInBounds_toArray ..
theorem au {α:Type} {x:α} {xs:List α} {a:α}:(x::xs).set 0 a=a::xs:=rfl
theorem av {α:Type} {x:α} {xs:List α} {i:Nat} {a:α}:(x::xs).set (i+1) a=x::xs.set i a:=rfl
theorem ah {p:Prop} (h:p:=by first|omega|(simp only [];omega)|(simp;omega)):p:=h
