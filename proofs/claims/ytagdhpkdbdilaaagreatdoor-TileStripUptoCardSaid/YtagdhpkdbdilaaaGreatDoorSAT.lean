import Derived.Test.YtagdhpkdbdilaaaGreatDoorSAS
set_option linter.all false
namespace Go.Tev
section
def aHm(q:aX):List Int:=KF q.body++if decide (q.kind=3) then KF q.index++[q.source] else []
section
variable{pg:Pg}{kb:Nat}
theorem TT{esz bytes s k1:Nat}{ag:Bool}{h:Hp}{v:AV}{es xs:List AV}{nl cl:Bool}{Q:AV->Eff->Prop}{t:Tok Q}(o:Own h k1 esz ag v es)(hk1:k1≠kb+s)(he:∀x∈es,El esz ag x)(hx:∀x∈xs,El esz ag x)
  (hl:es.length+xs.length<=1073741824) (hb:bytes<=65536)
  (q1:xs=[]->∀rd,(rd=[]\/rd=[k1])->Q v (.pat rd []))
  (q2:xs≠[]->∀v' rd pa,Own (Eff.app h (.pat rd pa)) (kb+s) esz ag v' (es++xs)->(∀k,k≠kb+s->k≠k1->(Eff.app h (.pat rd pa)).get k=h.get k) ->
   ((∃e ob,rd=[kb+s]/\pa=[⟨kb+s,e,ob⟩])\/(∃e1 o1 e ob,rd=[kb+s,k1]/\pa=[⟨k1,e1,o1⟩,⟨kb+s,e,ob⟩]))->Q v' (.pat rd pa)) :
  XO pg kb (.app esz ag bytes) s h [v,.sl nl xs cl] Q t:=by
 rw[kY];obtain⟨ds,d1,d2,d3,_⟩:=bE hx;simp only[lH,bI,d1,Option.map_some];by_cases hxs:xs=[]
 subst hxs;cases d1;rcases o with ⟨rfl,nl',cl',rfl,hc⟩|⟨e,cs,rfl,hg,hu⟩
 simp only[fM,List.length_nil,if_true];exact q1 rfl _ (.inl rfl);obtain⟨cs',c1,c2,_,_⟩:=bE he;rw[hu]at c1;cases c1;simp only[fM,hg,List.length_nil,if_true,true_and,Nat.zero_add];rw[if_pos (by omega)];exact q1 rfl _ (.inr rfl);have hn:xs.length≠0:=by simpa using hxs
 rcases o with ⟨rfl,nl',cl',rfl,hc⟩|⟨e,cs,rfl,hg,hu⟩
 simp only[fM,hn,if_false,hc,List.length_nil,Nat.zero_add,Bool.true_and];have hlx:xs.length<=1073741824:=by simpa using hl
 simp only[hlx,hb,decide_true,Bool.and_self,if_true,aP,List.nil_append];refine q2 hxs _ _ _ (.inr ⟨_,ds,rfl,?_,by simpa using d1⟩) ?_ (.inl ⟨_,_,rfl,rfl⟩);rw[eS,aI,if_pos rfl];intro k hk _;rw[eS,aI,if_neg (Ne.symm hk)];obtain⟨cs',c1,c2,_,_⟩:=bE he;rw[hu]at c1;cases c1;have h1:¬(es.length+xs.length<=es.length):=by omega
 have h2:(k1==kb+s)=false:=by simpa using hk1
 simp only[fM,hg,hn,if_false,true_and,Nat.zero_add];rw[if_pos (by omega)];simp only[h1,if_false,hl,hb,decide_true,Bool.true_and,h2,Bool.not_false,if_true,Bool.false_eq_true];refine q2 hxs _ _ _ (.inr ⟨h.next (kb+s),cs++ds,by simp,?_,cG hu d1⟩) ?_ (.inr ⟨_,_,_,_,rfl,rfl⟩);rw[l6,aI,if_pos rfl];simp[<-c2];intro k hk hk2;rw[l6,aI,if_neg (Ne.symm hk),aI,if_neg (Ne.symm hk2)]
end
section
variable{pg:Pg}
end
end
section
end
section
section
variable{pg:Pg}
end
end
section
section
variable{pg:Pg}
end
end
end Go.Tev
