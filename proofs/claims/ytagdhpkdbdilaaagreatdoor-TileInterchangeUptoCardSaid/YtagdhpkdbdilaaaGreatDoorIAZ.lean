import Derived.Test.YtagdhpkdbdilaaaGreatDoorIAY
import Derived.Test.YtagdhpkdbdilaaaGreatDoorIAS
set_option linter.all false
namespace Go.Tev
section
def gC(p:aE)(num value:Int)(name:Str)(at_:Sl Lin)(dyn:Bool)(check:Int)(fn:Sl aI):aE:=.mk p.op num value name at_ dyn check fn p.knl p.kids p.kcl
theorem gA(p:aE)(num value:Int)(name:Str)(at_:Sl Lin)(dyn:Bool)(check:Int)(fn:Sl aI):(gC p num value name at_ dyn check fn).op=p.op:=rfl
theorem eV(p:aE)(num value:Int)(name:Str)(at_:Sl Lin)(dyn:Bool)(check:Int)(fn:Sl aI):(gC p num value name at_ dyn check fn).num=num:=rfl
theorem cR(p:aE)(num value:Int)(name:Str)(at_:Sl Lin)(dyn:Bool)(check:Int)(fn:Sl aI):(gC p num value name at_ dyn check fn).value=value:=rfl
theorem dY(p:aE)(num value:Int)(name:Str)(at_:Sl Lin)(dyn:Bool)(check:Int)(fn:Sl aI):(gC p num value name at_ dyn check fn).name=name:=rfl
theorem eX(p:aE)(num value:Int)(name:Str)(at_:Sl Lin)(dyn:Bool)(check:Int)(fn:Sl aI):(gC p num value name at_ dyn check fn).at_=at_:=rfl
theorem eW(p:aE)(num value:Int)(name:Str)(at_:Sl Lin)(dyn:Bool)(check:Int)(fn:Sl aI):(gC p num value name at_ dyn check fn).dyn=dyn:=rfl
theorem cS(p:aE)(num value:Int)(name:Str)(at_:Sl Lin)(dyn:Bool)(check:Int)(fn:Sl aI):(gC p num value name at_ dyn check fn).check=check:=rfl
theorem gB(p:aE)(num value:Int)(name:Str)(at_:Sl Lin)(dyn:Bool)(check:Int)(fn:Sl aI):(gC p num value name at_ dyn check fn).fn=fn:=rfl
theorem dZ(p:aE)(num value:Int)(name:Str)(at_:Sl Lin)(dyn:Bool)(check:Int)(fn:Sl aI):(gC p num value name at_ dyn check fn).kids=p.kids:=rfl
theorem fP(p:aE)(num value:Int)(name:Str)(at_:Sl Lin)(dyn:Bool)(check:Int)(fn:Sl aI):(gC p num value name at_ dyn check fn).knl=p.knl:=rfl
theorem fQ(p:aE)(num value:Int)(name:Str)(at_:Sl Lin)(dyn:Bool)(check:Int)(fn:Sl aI):(gC p num value name at_ dyn check fn).kcl=p.kcl:=rfl
theorem iX(p:aE)(num value:Int)(name:Str)(at_:Sl Lin)(dyn:Bool)(check:Int)(fn:Sl aI) :
  cB p (gC p num value name at_ dyn check fn)=(decide (p.num=num)&&decide (p.value=value)&&decide (p.name.bs=name.bs)&&(p.dyn==dyn)&&decide (p.check=check)&&eqL bQ p.at_.es at_.es&&eqL iU p.fn.es fn.es):=by
 rw[oJ,kM];simp only[gA,eV,cR,dY,eX,eW,cS,gB,dZ];rw[cD lK];simp;rfl
theorem bq1:(true==false)=false:=rfl
theorem bq2:(false==false)=true:=rfl
theorem bq3:(true==true)=true:=rfl
def cL(p:aE):aE:=
 if p.op.bs=[99,111,110,115,116] then gC p p.num 0 dS (eO Lin) false 0 (eO aI)
 else if p.op.bs=[108,105,110,101,97,114] then gC p 0 0 dS p.at_ false 0 (eO aI)
 else if p.op.bs=[114,101,97,100] then gC p 0 p.value dS p.at_ p.dyn (if p.dyn then p.check else 0) (eO aI)
 else if p.op.bs=[105,102] then gC p 0 0 dS p.at_ false 0 (eO aI)
 else if p.op.bs=[114,101,100,117,99,101] then gC p 0 0 p.name p.at_ false 0 p.fn
 else if p.op.bs=[99,111,100,101] then gC p 0 0 dS (eO Lin) false 0 p.fn
 else gC p 0 0 dS (eO Lin) false 0 (eO aI)
def c8(p:aE):Bool:=
 if p.op.bs=[99,111,110,115,116] then decide ((p.kids.length:Int)=0)&&decide ((p.at_.es.length:Int)=0)
 else if p.op.bs=[108,105,110,101,97,114] then decide ((p.kids.length:Int)=0)&&decide ((p.at_.es.length:Int)=1)
 else if p.op.bs=[114,101,97,100] then
  (if p.dyn then decide ((p.kids.length:Int)=1)&&decide ((p.at_.es.length:Int)<=5) else decide ((p.kids.length:Int)=0)&&decide ((p.at_.es.length:Int)<=6))
 else if p.op.bs=[105,102] then decide ((p.kids.length:Int)=2)&&decide ((p.at_.es.length:Int)=1)
 else if p.op.bs=[114,101,100,117,99,101] then decide ((p.kids.length:Int)=2)&&decide ((p.at_.es.length:Int)=1)
 else if p.op.bs=[99,111,100,101] then decide ((p.kids.length:Int)<=20)&&decide ((p.at_.es.length:Int)=0)
 else match j8 p.op.bs with
  |none=>false
  |some q=>decide ((p.kids.length:Int)=(q.params.length:Int))&&decide ((p.at_.es.length:Int)=0)
def jX(p:aE)(vars:List Str)(v:Int):Bool:=
 if p.op.bs=[99,111,110,115,116] then jP p.num
 else if p.op.bs=[114,101,97,100] then decide (0<=p.value)&&decide (p.value<v)&&decide (0<=p.check)
 else if p.op.bs=[114,101,100,117,99,101] then gX p.name.bs && !fT vars p.name.bs&&cN p.fn.es 2
 else if p.op.bs=[99,111,100,101] then cN p.fn.es p.kids.length
 else true
theorem BS(p:aE)(vars:List Str)(v:Int):(c8 p&&cB p (cL p)&&jX p vars v)=gO p vars v:=by
 by_cases o1:p.op.bs=[99,111,110,115,116]
 simp only[c8,cL,jX,gO,o1,if_true,iX,eO,dS,lY,eU];cases p.dyn<;>simp only[bq1,bq2,bq3,Bool.not_true,Bool.not_false,Bool.false_or,Bool.true_or,Bool.false_and,Bool.and_false,Bool.true_and,Bool.and_true,decide_true]
 (refine Bool.eq_iff_iff.2 ?_;simp only[aF];constructor<;>(intro h;simp only[h,and_self]))
 by_cases o2:p.op.bs=[108,105,110,101,97,114]
 have n1:¬p.op.bs=[114,101,97,100]:=by rw[o2];decide
 have n2:¬p.op.bs=[114,101,100,117,99,101]:=by rw[o2];decide
 have n3:¬p.op.bs=[99,111,100,101]:=by rw[o2];decide
 simp only[c8,cL,jX,gO,o1,n1,n2,n3,if_false];simp only[o2,if_true,iX,eO,dS,lY,eU,cD d6];cases p.dyn<;>simp only[bq1,bq2,bq3,Bool.not_true,Bool.not_false,Bool.false_or,Bool.true_or,Bool.false_and,Bool.and_false,Bool.true_and,Bool.and_true]
 (refine Bool.eq_iff_iff.2 ?_;simp only[aF];constructor<;>(intro h;simp only[h,and_self]))
 by_cases o3:p.op.bs=[114,101,97,100]
 simp only[c8,cL,jX,gO,o1,o2,if_false];simp only[o3,if_true,iX,eO,dS,lY,eU,cD d6,qW];cases p.dyn<;>simp only[bq1,bq2,bq3,Bool.not_true,Bool.not_false,Bool.false_or,Bool.true_or,Bool.false_and,Bool.and_false,Bool.true_and,Bool.and_true,Bool.false_eq_true,if_true,if_false,decide_true];cases h:decide (p.check=0);simp;have:decide (0<=p.check)=true:=by simp at h ⊢;omega
 simp only[this,Bool.and_true,Bool.true_and]
 (refine Bool.eq_iff_iff.2 ?_;simp only[aF];constructor<;>(intro h;simp only[h,and_self]))
 (refine Bool.eq_iff_iff.2 ?_;simp only[aF];constructor<;>(intro h;simp only[h,and_self]))
 by_cases o4:p.op.bs=[105,102]
 have n2:¬p.op.bs=[114,101,100,117,99,101]:=by rw[o4];decide
 have n3:¬p.op.bs=[99,111,100,101]:=by rw[o4];decide
 simp only[c8,cL,jX,gO,o1,o2,o3,n2,n3,if_false];simp only[o4,if_true,iX,eO,dS,lY,eU,cD d6];cases p.dyn<;>simp only[bq1,bq2,bq3,Bool.not_true,Bool.not_false,Bool.false_or,Bool.true_or,Bool.false_and,Bool.and_false,Bool.true_and,Bool.and_true]
 (refine Bool.eq_iff_iff.2 ?_;simp only[aF];constructor<;>(intro h;simp only[h,and_self]))
 by_cases o5:p.op.bs=[114,101,100,117,99,101]
 simp only[c8,cL,jX,gO,o1,o2,o3,o4,if_false];simp only[o5,if_true,iX,eO,dS,eU,cD d6,cD lF];cases p.dyn<;>simp only[bq1,bq2,bq3,Bool.not_true,Bool.not_false,Bool.false_or,Bool.true_or,Bool.false_and,Bool.and_false,Bool.true_and,Bool.and_true,decide_true]
 (refine Bool.eq_iff_iff.2 ?_;simp only[aF];constructor<;>(intro h;simp only[h,and_self]))
 by_cases o6:p.op.bs=[99,111,100,101]
 simp only[c8,cL,jX,gO,o1,o2,o3,o4,o5,if_false];simp only[o6,if_true,iX,eO,dS,eU,lY,cD lF];have hc:(decide ((p.kids.length:Int)<=20)&&cN p.fn.es p.kids.length)=cN p.fn.es p.kids.length:=by simp only[cN];cases decide ((p.kids.length:Int)<=20)<;>simp
 rw[<-hc];cases p.dyn<;>simp only[bq1,bq2,bq3,Bool.not_true,Bool.not_false,Bool.false_or,Bool.true_or,Bool.false_and,Bool.and_false,Bool.true_and,Bool.and_true,decide_true];cases decide ((p.kids.length:Int)<=20)<;>simp only[Bool.false_and,Bool.true_and,Bool.and_false]
 (refine Bool.eq_iff_iff.2 ?_;simp only[aF];constructor<;>(intro h;simp only[h,and_self]))
 simp only[c8,cL,jX,gO,o1,o2,o3,o4,o5,o6,if_false];cases hpt:j8 p.op.bs with
 |none=>simp
 |some q=>
  simp only[iX,eO,dS,eU,lY];cases p.dyn<;>simp only[bq1,bq2,bq3,Bool.not_true,Bool.not_false,Bool.false_or,Bool.true_or,Bool.false_and,Bool.and_false,Bool.true_and,Bool.and_true,decide_true]
  (refine Bool.eq_iff_iff.2 ?_;simp only[aF];constructor<;>(intro h;simp only[h,and_self]))
theorem mnA(a b:Int):(k6 min2 (.int .i64 a) [.int .i64 b]).bind val=val (.int .i64 (if b<a then b else a)):=by simp[k6,min2]
theorem kO(n m:Int):decide (n=if m<n then m else n)=decide (n<=m):=by rw[cA];split<;>omega
section
variable{pg:Pg}
set_option maxHeartbeats 1000000 in
theorem c192(hf:pg.fs 192=some A3)(h125:∀op,cW pg 125 [.str op] (mM op))(p:aE):Ret pg 192 [p.av] (.tup [(cL p).av,.bool (c8 p)]):=by
 refine Ret.ofX hf ?_;unfold A3;cases o0:decide (p.op.bs=[99,111,110,115,116])
 case true=>
  have h0:=aU o0;have hP:(cL p).av = .agg [.str p.op.bs,.int .i64 p.num,.int .i64 0,.str [],.sl true [] true,.bool false,.int .i64 0,.sl true [] true,.sl p.knl (p.kids.map aE.av) p.kcl]:=by rw[aE.avc];simp only[cL];simp only[h0,if_true,if_false,gA,eV,cR,dY,eX,eW,cS,gB,dZ,fP,fQ,dS,eO,List.map_nil]
  have hB:c8 p=(decide ((p.kids.length:Int)=0)&&decide ((p.at_.es.length:Int)=0)):=by simp only[c8];simp only[h0,if_true,if_false]
  rw[hP,hB];clear hP hB h125;cases k1:decide ((p.kids.length:Int)=0);simp only[o0,k1,go_sem,seval];show _=true;kernel_rfl;cases k2:decide ((p.at_.es.length:Int)=0);simp only[o0,k1,k2,go_sem,seval];show _=true;kernel_rfl;simp only[o0,k1,k2,go_sem,seval];show _=true;kernel_rfl
 case false=>
 have h0:=bW o0;cases o1:decide (p.op.bs=[108,105,110,101,97,114])
 case true=>
  have h1:=aU o1;have hP:(cL p).av = .agg [.str p.op.bs,.int .i64 0,.int .i64 0,.str [],.sl p.at_.nl (p.at_.es.map Lin.av) p.at_.cl,.bool false,.int .i64 0,.sl true [] true,.sl p.knl (p.kids.map aE.av) p.kcl]:=by rw[aE.avc];simp only[cL,h0,if_false];simp only[h1,if_true,if_false,gA,eV,cR,dY,eX,eW,cS,gB,dZ,fP,fQ,dS,eO,List.map_nil]
  have hB:c8 p=(decide ((p.kids.length:Int)=0)&&decide ((p.at_.es.length:Int)=1)):=by simp only[c8,h0,if_false];simp only[h1,if_true,if_false]
  rw[hP,hB];clear hP hB h125;cases k1:decide ((p.kids.length:Int)=0);simp only[o0,o1,k1,go_sem,seval];show _=true;kernel_rfl;cases k2:decide ((p.at_.es.length:Int)=1);simp only[o0,o1,k1,k2,go_sem,seval];show _=true;kernel_rfl;simp only[o0,o1,k1,k2,go_sem,seval];show _=true;kernel_rfl
 case false=>
 have h1:=bW o1;cases o2:decide (p.op.bs=[114,101,97,100])
 case true=>
  have h2:=aU o2;cases hd:p.dyn
  case true=>
   have hP:(cL p).av = .agg [.str p.op.bs,.int .i64 0,.int .i64 p.value,.str [],.sl p.at_.nl (p.at_.es.map Lin.av) p.at_.cl,.bool true,.int .i64 p.check,.sl true [] true,.sl p.knl (p.kids.map aE.av) p.kcl]:=by rw[aE.avc];simp only[cL,h0,h1,if_false];simp only[hd,h2,if_true,if_false,gA,eV,cR,dY,eX,eW,cS,gB,dZ,fP,fQ,dS,eO,List.map_nil]
   have hB:c8 p=(decide ((p.kids.length:Int)=1)&&decide ((p.at_.es.length:Int)<=5)):=by simp only[c8,h0,h1,if_false];simp only[hd,h2,if_true,if_false]
   rw[hP,hB];clear hP hB h125;cases k1:decide ((p.kids.length:Int)=1)
   ·repeat (first|simp only[o0,o1,o2,hd,mnA,kO,k1,go_sem,seval]|refine cO ?_)
    show _=true;kernel_rfl
   cases k2:decide ((p.at_.es.length:Int)<=5)
   ·repeat (first|simp only[o0,o1,o2,hd,mnA,kO,k1,k2,go_sem,seval]|refine cO ?_)
    show _=true;kernel_rfl
   ·repeat (first|simp only[o0,o1,o2,hd,mnA,kO,k1,k2,go_sem,seval]|refine cO ?_)
    show _=true;kernel_rfl
  case false=>
   have hP:(cL p).av = .agg [.str p.op.bs,.int .i64 0,.int .i64 p.value,.str [],.sl p.at_.nl (p.at_.es.map Lin.av) p.at_.cl,.bool false,.int .i64 0,.sl true [] true,.sl p.knl (p.kids.map aE.av) p.kcl]:=by rw[aE.avc];simp only[cL,h0,h1,if_false];simp only[hd,Bool.false_eq_true,h2,if_true,if_false,gA,eV,cR,dY,eX,eW,cS,gB,dZ,fP,fQ,dS,eO,List.map_nil]
   have hB:c8 p=(decide ((p.kids.length:Int)=0)&&decide ((p.at_.es.length:Int)<=6)):=by simp only[c8,h0,h1,if_false];simp only[hd,Bool.false_eq_true,h2,if_true,if_false]
   rw[hP,hB];clear hP hB h125;cases k1:decide ((p.kids.length:Int)=0)
   ·repeat (first|simp only[o0,o1,o2,hd,mnA,kO,k1,go_sem,seval]|refine cO ?_)
    show _=true;kernel_rfl
   cases k2:decide ((p.at_.es.length:Int)<=6)
   ·repeat (first|simp only[o0,o1,o2,hd,mnA,kO,k1,k2,go_sem,seval]|refine cO ?_)
    show _=true;kernel_rfl
   ·repeat (first|simp only[o0,o1,o2,hd,mnA,kO,k1,k2,go_sem,seval]|refine cO ?_)
    show _=true;kernel_rfl
 case false=>
 have h2:=bW o2;cases o3:decide (p.op.bs=[105,102])
 case true=>
  have h3:=aU o3;have hP:(cL p).av = .agg [.str p.op.bs,.int .i64 0,.int .i64 0,.str [],.sl p.at_.nl (p.at_.es.map Lin.av) p.at_.cl,.bool false,.int .i64 0,.sl true [] true,.sl p.knl (p.kids.map aE.av) p.kcl]:=by rw[aE.avc];simp only[cL,h0,h1,h2,if_false];simp only[h3,if_true,if_false,gA,eV,cR,dY,eX,eW,cS,gB,dZ,fP,fQ,dS,eO,List.map_nil]
  have hB:c8 p=(decide ((p.kids.length:Int)=2)&&decide ((p.at_.es.length:Int)=1)):=by simp only[c8,h0,h1,h2,if_false];simp only[h3,if_true,if_false]
  rw[hP,hB];clear hP hB h125;cases k1:decide ((p.kids.length:Int)=2);simp only[o0,o1,o2,o3,k1,go_sem,seval];show _=true;kernel_rfl;cases k2:decide ((p.at_.es.length:Int)=1);simp only[o0,o1,o2,o3,k1,k2,go_sem,seval];show _=true;kernel_rfl;simp only[o0,o1,o2,o3,k1,k2,go_sem,seval];show _=true;kernel_rfl
 case false=>
 have h3:=bW o3;cases o4:decide (p.op.bs=[114,101,100,117,99,101])
 case true=>
  have h4:=aU o4;have hP:(cL p).av = .agg [.str p.op.bs,.int .i64 0,.int .i64 0,.str p.name.bs,.sl p.at_.nl (p.at_.es.map Lin.av) p.at_.cl,.bool false,.int .i64 0,.sl p.fn.nl (p.fn.es.map aI.av) p.fn.cl,.sl p.knl (p.kids.map aE.av) p.kcl]:=by rw[aE.avc];simp only[cL,h0,h1,h2,h3,if_false];simp only[h4,if_true,if_false,gA,eV,cR,dY,eX,eW,cS,gB,dZ,fP,fQ,dS,eO,List.map_nil]
  have hB:c8 p=(decide ((p.kids.length:Int)=2)&&decide ((p.at_.es.length:Int)=1)):=by simp only[c8,h0,h1,h2,h3,if_false];simp only[h4,if_true,if_false]
  rw[hP,hB];clear hP hB h125;cases k1:decide ((p.kids.length:Int)=2)
  ·repeat (first|simp only[o0,o1,o2,o3,o4,k1,go_sem,seval]|refine cO ?_)
   show _=true;kernel_rfl
  cases k2:decide ((p.at_.es.length:Int)=1)
  ·repeat (first|simp only[o0,o1,o2,o3,o4,k1,k2,go_sem,seval]|refine cO ?_)
   show _=true;kernel_rfl
  ·repeat (first|simp only[o0,o1,o2,o3,o4,k1,k2,go_sem,seval]|refine cO ?_)
   show _=true;kernel_rfl
 case false=>
 have h4:=bW o4;cases o5:decide (p.op.bs=[99,111,100,101])
 case true=>
  have h5:=aU o5;have hP:(cL p).av = .agg [.str p.op.bs,.int .i64 0,.int .i64 0,.str [],.sl true [] true,.bool false,.int .i64 0,.sl p.fn.nl (p.fn.es.map aI.av) p.fn.cl,.sl p.knl (p.kids.map aE.av) p.kcl]:=by rw[aE.avc];simp only[cL,h0,h1,h2,h3,h4,if_false];simp only[h5,if_true,if_false,gA,eV,cR,dY,eX,eW,cS,gB,dZ,fP,fQ,dS,eO,List.map_nil]
  have hB:c8 p=(decide ((p.kids.length:Int)<=20)&&decide ((p.at_.es.length:Int)=0)):=by simp only[c8,h0,h1,h2,h3,h4,if_false];simp only[h5,if_true,if_false]
  rw[hP,hB];clear hP hB h125;cases k1:decide ((p.kids.length:Int)<=20)
  ·repeat (first|simp only[o0,o1,o2,o3,o4,o5,mnA,kO,k1,go_sem,seval]|refine cO ?_)
   show _=true;kernel_rfl
  cases k2:decide ((p.at_.es.length:Int)=0)
  ·repeat (first|simp only[o0,o1,o2,o3,o4,o5,mnA,kO,k1,k2,go_sem,seval]|refine cO ?_)
   show _=true;kernel_rfl
  ·repeat (first|simp only[o0,o1,o2,o3,o4,o5,mnA,kO,k1,k2,go_sem,seval]|refine cO ?_)
   show _=true;kernel_rfl
 case false=>
 have h5:=bW o5;have hP:(cL p).av = .agg [.str p.op.bs,.int .i64 0,.int .i64 0,.str [],.sl true [] true,.bool false,.int .i64 0,.sl true [] true,.sl p.knl (p.kids.map aE.av) p.kcl]:=by rw[aE.avc];simp only[cL,h0,h1,h2,h3,h4,h5,if_false,gA,eV,cR,dY,eX,eW,cS,gB,dZ,fP,fQ,dS,eO,List.map_nil]
 have hB:c8 p=(match j8 p.op.bs with
  |none=>false
  |some q=>decide ((p.kids.length:Int)=(q.params.length:Int))&&decide ((p.at_.es.length:Int)=0)):=by simp only[c8,h0,h1,h2,h3,h4,h5,if_false]
 rw[hP,hB];clear hP hB;obtain⟨rr,hr,hR⟩:=h125 p.op.bs;simp only[mM]at hR;cases hpt:j8 p.op.bs with
 |none=>rw[hpt]at hR;dsimp only at hR;subst hR;simp only[o0,o1,o2,o3,o4,o5,go_sem,seval];refine aG hr ?_;simp only[go_sem,seval]
 |some q=>rw[hpt]at hR;dsimp only at hR;obtain⟨nl2,cl2,rfl⟩:=hR;dsimp only;simp only[o0,o1,o2,o3,o4,o5,go_sem,seval];refine aG hr ?_;cases k1:decide ((p.kids.length:Int)=(q.params.length:Int));simp only[k1,go_sem,seval];show _=true;kernel_rfl;cases k2:decide ((p.at_.es.length:Int)=0);simp only[k1,k2,go_sem,seval];show _=true;kernel_rfl;simp only[k1,k2,go_sem,seval];show _=true;kernel_rfl
end
end
section
section
variable{pg:Pg}
theorem iP{kb esz bytes s:Nat}{ag:Bool}{h:Hp}{xs:List AV}{nl cl nl0:Bool}{Q:AV->Eff->Prop}{t:Tok Q}(hx:∀x∈xs,El esz ag x)(hl:xs.length<=1073741824)(hb:bytes<=65536)
  (q1:xs=[]->Q (.sl nl0 [] true) (.pat [] []))
  (q2:xs≠[]->∀cs,bF esz ag xs=some cs->Q (.rf (kb+s) (h.next (kb+s)) 0 xs.length xs.length) (.pat [kb+s] [⟨kb+s,h.next (kb+s),.blk cs esz ag false false⟩])) :
  XO pg kb (.app esz ag bytes) s h [.sl nl0 [] true,.sl nl xs cl] Q t:=by
 rw[s8];obtain⟨ds,d1,d2,d3,_⟩:=cE hx;simp only[pN,bP,d1,Option.map_some];by_cases hxs:xs=[]
 subst hxs;cases d1;simp only[iH,List.length_nil,if_true];exact q1 rfl;have hn:xs.length≠0:=by simpa using hxs
 simp only[iH,hn,if_false,List.length_nil,Nat.zero_add,Bool.or_true,Bool.true_and,hl,hb,decide_true,Bool.and_self,if_true,bF,List.nil_append];exact q2 hxs ds d1
theorem pA{kb esz bytes s k e n:Nat}{ag:Bool}{h:Hp}{cs:List AV}{es xs:List AV}{nl cl:Bool}{Q:AV->Eff->Prop}{t:Tok Q}
  (hne:n=es.length) (hg:h.get k=some (e,.blk cs esz ag false false)) (hu:bF esz ag es=some cs) (hk:(k==kb+s)=false) (he:∀x∈es,El esz ag x) (hx:∀x∈xs,El esz ag x) (hxs:xs≠[])
  (hl:es.length+xs.length<=1073741824) (hb:bytes<=65536)
  (q2:∀cs',bF esz ag (es++xs)=some cs'->Q (.rf (kb+s) (h.next (kb+s)) 0 (n+xs.length) (n+xs.length)) (.pat [kb+s,k] [⟨k,e,.dead⟩,⟨kb+s,h.next (kb+s),.blk cs' esz ag false false⟩])) :
  XO pg kb (.app esz ag bytes) s h [.rf k e 0 n n,.sl nl xs cl] Q t:=by
 subst hne;rw[s8];obtain⟨ds,d1,d2,d3,_⟩:=cE hx;simp only[pN,bP,d1,Option.map_some];have hn:xs.length≠0:=by simpa using hxs
 obtain⟨cs',c1,c2,_,_⟩:=cE he;rw[hu]at c1;cases c1;have h1:¬(es.length+xs.length<=es.length):=by omega
 simp only[iH,hg,hn,if_false,true_and,Nat.zero_add];rw[if_pos (by omega)];simp only[h1,if_false,hl,hb,decide_true,Bool.true_and,hk,Bool.not_false,if_true,Bool.false_eq_true];have h3:(List.drop 0 cs).take (es.length*esz)++ds=cs++ds:=by simp[<-c2]
 rw[h3];exact q2 _ (eL hu d1)
def aPp(hp:Hp)(nl cl:Bool)(vars:List Str)(name:Str)(red:Bool)(iv:AV):Prop:=
 (red=false/\iv = .sl nl (vars.map Str.av) cl)\/(red=true/\∃k,Own hp k 1 false iv ((vars++[name]).map Str.av))
set_option maxHeartbeats 1000000 in
theorem F7(v:Int)(p:aE)(nl cl:Bool)(vars:List Str)(hk:p.kids.length<=big)(hks:∀q∈p.kids,q.ok)(hb:vars.length+1+aE.szL p.kids<=big)
  (ih:∀q∈p.kids,q.ok->∀(nl cl:Bool)(vars:List Str),vars.length+q.sz<=big->Ret pg 164 [q.av,.sl nl (vars.map Str.av) cl,.int .i64 v] (.bool (gL v q vars)))
  (iv:AV) (red b R:Bool) (env:List AV) (hp:Hp)
  (henv:clear yC env=kU (.sl nl (vars.map Str.av) cl) (.int .i64 v) (.pt 1 0 0) (.bool b) iv (.int .i64 0))
  (g1:hp.get 1=some (0,.blk [.str p.op.bs,.int .i64 p.num,.int .i64 p.value,.str p.name.bs,.sl p.at_.nl (p.at_.es.map Lin.av) p.at_.cl,.bool p.dyn,.int .i64 p.check,.sl p.fn.nl (p.fn.es.map aI.av) p.fn.cl,.sl p.knl (p.kids.map aE.av) p.kcl] 9 true true false))
  (hiv:aPp hp nl cl vars p.name red iv) (hR:R=(b&&eF v red p.name vars 0 p.kids)) :
  XX pg 0 (.loop kT yC) ⟨env,hp⟩
   (kX 1 (iT (λst'=>XX pg 0 (.seq (.reg [⟨some 110,.mov,[.t 8],none,0,0⟩,⟨some 6,.mov,[.t 110],none,0,0⟩] false) .ret) st' (AH [.inl 6] (.bool R)) ⟨⟩) (AH [.inl 6] (.bool R)))) ⟨⟩:=by
 refine aX p.kids (λd r env hp=>∃ok:Bool,env=kU (.sl nl (vars.map Str.av) cl) (.int .i64 v) (.pt 1 0 0) (.bool ok) iv (.int .i64 d.length) /\
  hp.get 1=some (0,.blk [.str p.op.bs,.int .i64 p.num,.int .i64 p.value,.str p.name.bs,.sl p.at_.nl (p.at_.es.map Lin.av) p.at_.cl,.bool p.dyn,.int .i64 p.check,.sl p.fn.nl (p.fn.es.map aI.av) p.fn.cl,.sl p.knl (p.kids.map aE.av) p.kcl] 9 true true false) /\
  aPp hp nl cl vars p.name red iv/\R=(ok&&eF v red p.name vars d.length r)) ?_ ?_ ?_
 exact⟨b,henv,g1,hiv,hR⟩;clear hiv g1 henv hR hp env;rintro env hp ⟨ok,rfl,g1,hiv,hR⟩;simp only[kT,kU,g1,bA,go_sem,seval];rw[hR];simp[eF]
 ·clear hiv g1 henv hR hp env;rintro d x r env hp hes ⟨ok,rfl,g1,hiv,hR⟩;obtain⟨hget,e1,e2,ew⟩:=cG hes hk;have hxm:x∈p.kids:=by rw[hes];simp
  have hxs:x.sz<=aE.szL p.kids:=aE.szL_mem hxm;have hx:=ih x hxm (hks x hxm);clear ih hks;cases ok
  case false=>simp only[kT,kU,g1,e1,go_sem,seval];rw[hR];simp
  case true=>
  simp only[eF,Bool.true_and]at hR;have hd1:eF v red p.name vars (d++[x]).length r=eF v red p.name vars (d.length+1) r:=by simp
  cases c2:decide ((d.length:Int)=1)
  case false=>have a1:=hx nl cl vars (by omega);simp only[kT,kU,g1,e1,e2,hget,c2,go_sem,seval];refine aG a1 ?_;simp only[ew,go_sem,seval];refine⟨_,rfl,g1,hiv,?_⟩;rw[hR,c2,hd1];simp
  case true=>
  rcases hiv with ⟨hr,hv⟩|⟨hr,kk,ho⟩
  have a1:=hx nl cl vars (by omega);subst hv;simp only[kT,kU,g1,e1,e2,hget,c2,go_sem,seval];refine aG a1 ?_;simp only[ew,go_sem,seval];refine⟨_,rfl,g1,.inl ⟨hr,rfl⟩,?_⟩;rw[hR,c2,hd1,hr];simp;obtain⟨nl2,cl2,keys,hsn,hnl⟩:=ho.snap (El.strs (vars++[p.name])) 62;have a1:=hx nl2 cl2 (vars++[p.name]) (by simp;omega);simp only[kT,kU,g1,e1,e2,hget,c2,go_sem,seval];refine cV a1 (kP (by simp only[go_sem,seval]) hsn (by simp only[go_sem,seval])) (v:=.bool (gL v x (vars++[p.name]))) (pa:=[]) rfl ?_;simp only[ew,go_sem,seval];refine⟨_,rfl,g1,.inr ⟨hr,kk,ho⟩,?_⟩;rw[hR,c2,hd1,hr];simp
set_option maxHeartbeats 2000000 in
theorem c164(hf:pg.fs 164=some A4)(h192:∀p:aE,Ret pg 192 [p.av] (.tup [(cL p).av,.bool (c8 p)]))
  (h118:∀p:aE,p.ok->∀q:aE,Ret pg 118 [p.av,q.av] (.bool (cB p q)))
  (h193:∀(nl cl:Bool)(ls:List Lin),ls.length<=big->∀(nl' cl':Bool)(vars:List Str),vars.length<=big->Ret pg 193 [.sl nl (ls.map Lin.av) cl,.sl nl' (vars.map Str.av) cl'] (.bool (bM ls vars)))
  (h124:pg.fs 124=some mJ) (h77:∀s:Str,Ret pg 77 [.str s.bs] (.bool (gX s.bs))) (h194:pg.fs 194=some sV)
  (h87:∀(nl cl:Bool)(fn:List aI),fn.length<=big->∀n:Int,Ret pg 87 [.sl nl (fn.map aI.av) cl,.int .i64 n] (.bool (cN fn n))) (v:Int) :
  ∀p:aE,p.ok->∀(nl cl:Bool)(vars:List Str),vars.length+p.sz<=big->Ret pg 164 [p.av,.sl nl (vars.map Str.av) cl,.int .i64 v] (.bool (gL v p vars)):=by
 refine aE.ind' λp ih hp nl cl vars hb=>?_;obtain⟨hk,hks⟩:=(aE.ok_iff p).1 hp;have hsz:=aE.sz_eq p;have a1:=h192 p;have a2:=h118 p hp (cL p);rw[aE.avc p]at a1 a2;have a2':=a2;rw[aE.avc (cL p)]at a2';have a3:=h193 p.at_.nl p.at_.cl p.at_.es p.at_.ok nl cl vars (by omega);have a4:=aEj h124 p.num;have a5:=h77 p.name;have a6:=c194 h194 nl cl vars (by omega) p.name.bs;have a7:=h87 p.fn.nl p.fn.cl p.fn.es p.fn.ok 2;have a8:=h87 p.fn.nl p.fn.cl p.fn.es p.fn.ok p.kids.length;clear h192 h118 h193 h124 h77 h194 h87;have hspec:gL v p vars=(c8 p&&(cB p (cL p)&&(bM p.at_.es vars&&(jX p vars v&&eF v (decide (p.op.bs=[114,101,100,117,99,101])) p.name vars 0 p.kids)))):=by
  rw[EK,<-BS]
  (refine Bool.eq_iff_iff.2 ?_;simp only[aF];constructor<;>(intro h;simp only[h,and_self]))
 rw[hspec];refine Ret.ofX hf ?_;unfold A4;refine Wk ?_;refine eI a1 (by simp only[go_sem,seval]) (by rfl) ?_;have hro:jX p vars v=(if p.op.bs=[99,111,110,115,116] then jP p.num
  else if p.op.bs=[114,101,97,100] then decide (0<=p.value)&&decide (p.value<v)&&decide (0<=p.check)
  else if p.op.bs=[114,101,100,117,99,101] then gX p.name.bs && !fT vars p.name.bs&&cN p.fn.es 2
  else if p.op.bs=[99,111,100,101] then cN p.fn.es p.kids.length
  else true):=rfl
 generalize hob:c8 p=ob at *;cases ob
 case false=>simp only[go_sem,seval]
 case true=>
 refine Wk ?_;refine aG a2' ?_;generalize hpe:cB p (cL p)=pe at *;cases pe
 case false=>simp only[go_sem,seval]
 case true=>
 refine Wk ?_;refine aG a3 ?_;generalize hov:bM p.at_.es vars=ov at *;cases ov
 case false=>simp only[go_sem,seval]
 case true=>
 refine Wk ?_;have hL:=λiv b R env hp h1 h2 h3 h4=>F7 v p nl cl vars hk hks (by omega) ih iv (decide (p.op.bs=[114,101,100,117,99,101])) b R env hp h1 h2 h3 h4;clear ih hks a1 a2 a2' a3;cases o1:decide (p.op.bs=[99,111,110,115,116])
 case true=>
  have h:=aU o1;have hr:decide (p.op.bs=[114,101,100,117,99,101])=false:=by rw[h];decide
  rw[hro,if_pos h];refine Wk ?_;refine aG a4 (Wk ?_);exact hL _ _ _ _ _ rfl rfl (.inl ⟨hr,rfl⟩) rfl
 case false=>
 rw[hro,if_neg (bW o1)];refine Wk ?_;cases o2:decide (p.op.bs=[114,101,97,100])
 case true=>
  have h:=aU o2;have hr:decide (p.op.bs=[114,101,100,117,99,101])=false:=by rw[h];decide
  rw[if_pos h];cases q1:decide (0<=p.value)
  case false=>simp only[q1,go_sem,seval];exact hL _ _ _ _ _ rfl rfl (.inl ⟨hr,rfl⟩) rfl
  case true=>
  cases q2:decide (p.value<v)
  case false=>simp only[q1,q2,go_sem,seval];exact hL _ _ _ _ _ rfl rfl (.inl ⟨hr,rfl⟩) rfl
  case true=>simp only[q1,q2,go_sem,seval];exact hL _ _ _ _ _ rfl rfl (.inl ⟨hr,rfl⟩) rfl
 case false=>
 rw[if_neg (bW o2)];refine Wk ?_;cases o3:decide (p.op.bs=[114,101,100,117,99,101])
 case true=>
  have h:=aU o3;rw[if_pos h];refine Wk ?_;refine aG a5 ?_;have hvl:vars.length+1<=1073741824:=by simp only[big]at hb;omega
  have hS:∀x∈[AV.str p.name.bs],El 1 false x:=by intro x hx;simp at hx;subst hx;exact⟨rfl,rfl,rfl⟩
  cases nm:gX p.name.bs
  case false=>
   refine Wk ?_;refine iP (El.strs vars) (by simp;omega) (by decide) (λhe=>?_) (λhe cs hcs=>?_);have hv:vars=[]:=by simpa using he
   refine Wk ?_;refine iP hS (by simp) (by decide) (λh=>by cases h) (λ_ cs2 hcs2=>?_);cases hcs2;refine Wk ?_;refine cO ?_;exact hL _ _ _ _ _ rfl rfl (.inr ⟨o3,41,.inr ⟨_,_,by rw[hv];rfl,rfl,by rw[hv];rfl⟩⟩) (by rw[o3];rfl);refine Wk ?_;refine pA (es:=vars.map Str.av) (by simp) rfl hcs rfl (El.strs vars) hS (by simp) (by simp;omega) (by decide) (λcs2 hcs2=>?_);refine Wk ?_;refine cO ?_;exact hL _ _ _ _ _ rfl rfl (.inr ⟨o3,41,.inr ⟨_,_,by simp,rfl,by rw[List.map_append];exact hcs2⟩⟩) (by rw[o3];rfl)
  case true=>
  refine Wk ?_;refine aG a6 ?_;cases hs:fT vars p.name.bs
  case true=>
   refine Wk ?_;refine iP (El.strs vars) (by simp;omega) (by decide) (λhe=>?_) (λhe cs hcs=>?_);have hv:vars=[]:=by simpa using he
   refine Wk ?_;refine iP hS (by simp) (by decide) (λh=>by cases h) (λ_ cs2 hcs2=>?_);cases hcs2;refine Wk ?_;refine cO ?_;exact hL _ _ _ _ _ rfl rfl (.inr ⟨o3,41,.inr ⟨_,_,by rw[hv];rfl,rfl,by rw[hv];rfl⟩⟩) (by rw[o3];rfl);refine Wk ?_;refine pA (es:=vars.map Str.av) (by simp) rfl hcs rfl (El.strs vars) hS (by simp) (by simp;omega) (by decide) (λcs2 hcs2=>?_);refine Wk ?_;refine cO ?_;exact hL _ _ _ _ _ rfl rfl (.inr ⟨o3,41,.inr ⟨_,_,by simp,rfl,by rw[List.map_append];exact hcs2⟩⟩) (by rw[o3];rfl)
  case false=>
  refine Wk ?_;refine aG a7 (Wk ?_);refine iP (El.strs vars) (by simp;omega) (by decide) (λhe=>?_) (λhe cs hcs=>?_);have hv:vars=[]:=by simpa using he
  refine Wk ?_;refine iP hS (by simp) (by decide) (λh=>by cases h) (λ_ cs2 hcs2=>?_);cases hcs2;refine Wk ?_;refine cO ?_;exact hL _ _ _ _ _ rfl rfl (.inr ⟨o3,41,.inr ⟨_,_,by rw[hv];rfl,rfl,by rw[hv];rfl⟩⟩) (by rw[o3];rfl);refine Wk ?_;refine pA (es:=vars.map Str.av) (by simp) rfl hcs rfl (El.strs vars) hS (by simp) (by simp;omega) (by decide) (λcs2 hcs2=>?_);refine Wk ?_;refine cO ?_;exact hL _ _ _ _ _ rfl rfl (.inr ⟨o3,41,.inr ⟨_,_,by simp,rfl,by rw[List.map_append];exact hcs2⟩⟩) (by rw[o3];rfl)
 case false=>
 rw[if_neg (bW o3)];refine Wk ?_;cases o4:decide (p.op.bs=[99,111,100,101])
 case true=>have h:=aU o4;rw[if_pos h];refine Wk ?_;refine aG a8 (Wk ?_);exact hL _ _ _ _ _ rfl rfl (.inl ⟨o3,rfl⟩) (by rw[o3];rfl)
 case false=>rw[if_neg (bW o4)];refine Wk ?_;exact hL _ _ _ _ _ rfl rfl (.inl ⟨o3,rfl⟩) (by rw[o3];rfl)
end
end
section
section
variable{pg:Pg}
theorem c123(hf:pg.fs 123=some A7)(h40:pg.fs 40=some C9)(h164:∀v:Int,∀p:aE,p.ok->∀(nl cl:Bool) (vars:List Str),vars.length+p.sz<=big->Ret pg 164 [p.av,.sl nl (vars.map Str.av) cl,.int .i64 v] (.bool (gL v p vars)))
  (p:aE) (hp:p.ok) (nl cl:Bool) (vars:List Str) (hb:vars.length+p.sz<=big) (v:Int):Ret pg 123 [p.av,.sl nl (vars.map Str.av) cl,.int .i64 v] (.bool (gM p vars v)):=by
 have a1:=c40 h40 p hp;have a2:=h164 v p hp nl cl vars hb;rw[aE.avc]at a1 a2;refine Ret.ofX hf ?_;clear h40 h164;unfold A7;refine Wk ?_;refine aG a1 ?_;cases c1:decide (hQ p<=4000);simp only[c1,go_sem,seval];simp[gM,c1];simp only[c1,go_sem,seval];refine aG a2 (Wk ?_);simp[gM,c1]
end
end
section
section
variable{pg:Pg}
theorem c572(hf:pg.fs 572=some sT)(nl cl:Bool)(vars:List Str)(hb:vars.length<=big)(s:List UInt8):Ret pg 572 [.sl nl (vars.map Str.av) cl,.str s] (.bool (fT vars s)):=by
 refine Ret.ofX hf ?_;unfold sT;refine Wk ?_;refine aX vars (λd r env hp=>env=qF (.sl nl (vars.map Str.av) cl) (.str s) (.int .i64 d.length)/\fT vars s=fT r s) ?_ ?_ ?_;exact⟨rfl,rfl⟩;rintro env hp ⟨rfl,hI⟩;simp only[qE,qF,bA,go_sem,seval];rw[hI];rfl;rintro d x r env hp hes ⟨rfl,hI⟩;obtain⟨hget,e1,e2,ew⟩:=cG hes hb;have hsym:decide (x.bs=s)=decide (s=x.bs):=by rw[cA];exact eq_comm
 cases hx:decide (s=x.bs);simp only[qE,qF,e1,e2,hget,hsym,hx,ew,go_sem,seval];refine⟨rfl,?_⟩;rw[hI];simp[fT,hx];simp only[qE,qF,e1,e2,hget,hsym,hx,go_sem,seval];rw[hI];simp[fT,hx]
theorem c595(hf:pg.fs 595=some u9)(l:Lin):cW pg 595 [l.av] (GG 1 false (l.ts.es.map λx => .str x.v.bs)):=by
 refine cW.ofX hf ?_;have hb:=l.ts.ok
 have hel:∀d:List aW,∀x∈d.map (λx:aW=>AV.str x.v.bs),El 1 false x:=by intro d x hx;simp only[List.mem_map]at hx;obtain⟨y,_,rfl⟩:=hx;exact El.str _
 unfold u9;refine Wk ?_;refine aX l.ts.es (λd r env hp=>∃v,env=xU (.pt 1 0 0) v (.int .i64 d.length)/\hp.get 1=some (0,.blk [.int .i64 l.c,.sl l.ts.nl (l.ts.es.map aW.av) l.ts.cl] 2 true true false)/\Own hp 5 1 false v (d.map λx => .str x.v.bs)) ?_ ?_ ?_;exact⟨_,rfl,rfl,Own.nil _ _ _ _ _ _ rfl⟩;rintro env hp ⟨v,rfl,h1,ho⟩;simp only[xS,xU,h1,bA,go_sem,seval];exact ho.conv (hel _);rintro d x r env hp hes ⟨v,rfl,h1,ho⟩;obtain⟨hget,e1,e2,ew⟩:=cG hes hb;simp only[xS,xU,h1,e1,e2,hget,go_sem,seval];refine o9 (kb:=0) (s:=5) (bytes:=16) (es:=d.map λx => .str x.v.bs) ho (hel _) (xs:=[.str x.v.bs]) (by intro y hy;simp at hy;subst hy;exact El.str _) ?_ (by decide) ?_;have:l.ts.es.length=d.length+(r.length+1):=by rw[hes];simp
 simp[big]at hb ⊢;omega;intro v' rd pa ho' hk hpa;simp only[ew,go_sem,seval];exact⟨v',rfl,by rw[hk 1 (by omega)];exact h1,by simpa using ho'⟩
theorem c573(hf:pg.fs 573=some AR)(h54:∀l:Lin,Ret pg 54 [l.av] (.bool (e9 l)))(h595:pg.fs 595=some u9)(h572:pg.fs 572=some sT)(l:Lin)(nl cl:Bool)(vars:List Str)(hb:vars.length<=big) :
  Ret pg 573 [l.av,.sl nl (vars.map Str.av) cl] (.bool (i6 vars l)):=by
 have a1:=h54 l;have a2:=c595 h595 l;rw[Lin.avc]at a1 a2;refine Ret.ofX hf ?_;unfold AR;refine Wk ?_;refine aG (a1) ?_;cases b1:e9 l;refine Wk ?_;simp[i6,b1];refine Wk ?_;refine aQk a2 (by simp only[go_sem,seval]) ?_;intro nl2 cl2 _;refine Wk ?_;have hlb:=l.ts.ok;refine aX l.ts.es (λd r env hp=>env=xY (.sl nl (vars.map Str.av) cl) (.sl nl2 (l.ts.es.map λx => .str x.v.bs) cl2) (.int .i64 d.length)/\l.ts.es.all (λx=>fT vars x.v.bs)=r.all (λx=>fT vars x.v.bs)) ?_ ?_ ?_;exact⟨rfl,rfl⟩;rintro env hp ⟨rfl,hI⟩;simp only[xX,xY,bA,go_sem,seval];simp[i6,b1,hI];rintro d x r env hp hes ⟨rfl,hI⟩;obtain⟨hget,e1,e2,ew⟩:=cG hes hlb;simp only[xX,xY,e1,e2,hget,go_sem,seval];refine aG (c572 h572 nl cl vars hb x.v.bs) ?_;cases hv:fT vars x.v.bs;refine Wk ?_;simp[i6,b1,hI,hv];simp only[ew,go_sem,seval];exact⟨rfl,by rw[hI];simp[hv]⟩
theorem c574(hf:pg.fs 574=some AQ)(h118:∀p q:aE,p.ok->Ret pg 118 [p.av,q.av] (.bool (cB p q)))(p:aE)(hp:p.ok):Ret pg 574 [p.av] (.bool (cB p jH)):=by have a4:=h118 p jH hp;rw[aE.avc]at a4;have z4:jH.av=_:=aE.avc jH;refine Ret.ofX hf ?_;unfold AQ;refine Wk ?_;refine aG a4 ?_;simp only[go_sem,seval]
theorem f9(x:Lin)(r:List Lin)(vars:List Str):bM (x::r) vars=(i6 vars x&&bM r vars):=by simp[bM,i6]
end
end
end Go.Tev
