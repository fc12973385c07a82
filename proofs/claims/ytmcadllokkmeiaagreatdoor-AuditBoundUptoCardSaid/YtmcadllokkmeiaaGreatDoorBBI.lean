import Derived.Test.YtmcadllokkmeiaaGreatDoorBBH
set_option linter.all false
namespace Go.Tev
section
theorem TG(env:List AV)(t:Nat)(ps:List Nat)(v:AV)(vs:List AV):vL env (t::ps) (v::vs)=vL (fP env (some t) v) ps vs:=rfl
theorem ZT(env:List AV)(vs:List AV):vL env [] vs=env:=by cases vs<;>rfl
attribute [go_sem] TG ZT
section
variable{pg:Pg}
end
end
section
theorem aAq{k:aA}{ds:List Val}{p:dK}(hx:cL k ds=0)(h:o7 k ds p=true)(at_ w:Int)(hw:w∈cC at_ (aD k)):0<=(plc p.P w.toNat).1/\(plc p.P w.toNat).1<=p.pk:=by
 simp only[o7,aF,aR,eA,eJ]at h;obtain⟨⟨⟨⟨b1,b2⟩,b3⟩,b4⟩,b5⟩:=h;obtain⟨_,hsl,_⟩:=nP (ds:=ds) (cA (cD hx).1);obtain⟨u,u1,u2,u3⟩:=eE.1 hw;have hl:=(cJ.1 u2).1;simp only[fQ,aF,eA,eJ]at u3;have:=zV (sz:=bK k ds) (sp:=aD k) (pk:=p.pk) p.P 0 w.toNat b5 (by omega);rw[bF]at this;have hs:¬(plc (aD k) w.toNat).1 = -2:=by rw[FU u2];exact u3.1.1
 simp only[okP,if_neg hs,aF,aR]at this;have:=qD hx w.toNat;omega
end
end Go.Tev
