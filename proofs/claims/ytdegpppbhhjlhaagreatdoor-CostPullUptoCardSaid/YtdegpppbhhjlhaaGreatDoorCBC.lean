import Derived.Test.YtdegpppbhhjlhaaGreatDoorCAW
import Derived.Test.YtdegpppbhhjlhaaGreatDoorCBB
import Derived.Test.YtdegpppbhhjlhaaGreatDoorCAI
import Derived.Test.YtdegpppbhhjlhaaGreatDoorCAM
import Derived.Test.YtdegpppbhhjlhaaGreatDoorCAY
import Derived.Test.YtdegpppbhhjlhaaGreatDoorCAR
set_option linter.all false
namespace Go.Tev
section
section
variable{pg:Pg}
end
end
section
def tK(n:Int):Int:=wr .i64 (wr .i32 n)
def mH(b:Bool):Int:=if b then 1 else 0
def vQ(a b:Int):Int:=if b=0 then 0 else if a.tmod b=0 then wr .i64 (a.tdiv b) else if decide (a<0)=decide (b<0) then wr .i64 (a.tdiv b) else wr .i64 (wr .i64 (a.tdiv b)-1)
private theorem bft:(false==true)=false:=rfl
private theorem btf:(true==false)=false:=rfl
section
variable{pg:Pg}
theorem c950(hf:pg.fs 950=some xC)(n:Int):Ret pg 950 [.int .i64 n] (.int .i64 (tK n)):=by refine Ret.ofX hf ?_;unfold xC;simp only[tK,go_sem,seval]
theorem c965(hf:pg.fs 965=some A6)(b:Bool):Ret pg 965 [.bool b] (.int .i64 (mH b)):=by refine Ret.ofX hf ?_;unfold A6;cases b<;>simp only[mH,go_sem,seval]
theorem c966(hf:pg.fs 966=some DR)(a b:Int):Ret pg 966 [.int .i64 a,.int .i64 b] (.int .i64 (vQ a b)):=by
 refine Ret.ofX hf ?_;unfold DR;by_cases h0:b=0;subst h0;simp only[vQ,go_sem,seval];have h1:decide (b=0)=false:=by simp[h0]
 by_cases h2:a.tmod b=0<;>cases h3:decide (a<0)<;>cases h4:decide (b<0)<;>simp only[vQ,h0,h1,h2,h3,h4,bft,btf,go_sem,seval]
end
end
section
def vG(op:List UInt8)(a:Int):Int:=
 bif decide (op=[110,101,103]) then tK (wr .i64 (0-a)) else
 bif decide (op=[97,98,115]) then (if a<0 then tK (wr .i64 (0-a)) else a) else
 bif decide (op=[115,105,103,110]) then wr .i64 (mH (decide (0<a))-mH (decide (a<0))) else
 bif decide (op=[110,111,116]) then wr .i64 (1-a) else
 a
def jB(op:List UInt8)(a b:Int):Int:=
 bif decide (op=[97,100,100]) then tK (wr .i64 (a+b)) else
 bif decide (op=[115,117,98]) then tK (wr .i64 (a-b)) else
 bif decide (op=[109,117,108]) then tK (wr .i64 (a*b)) else
 bif decide (op=[100,105,118]) then tK (vQ a b) else
 bif decide (op=[109,111,100]) then (if b=0 then 0 else wr .i64 (a-wr .i64 (b*vQ a b))) else
 bif decide (op=[109,105,110]) then (if b<a then b else a) else
 bif decide (op=[109,97,120]) then (if a<b then b else a) else
 bif decide (op=[108,116]) then mH (decide (a<b)) else
 bif decide (op=[108,101]) then mH (decide (a<=b)) else
 bif decide (op=[103,116]) then mH (decide (b<a)) else
 bif decide (op=[103,101]) then mH (decide (b<=a)) else
 bif decide (op=[101,113]) then mH (decide (a=b)) else
 bif decide (op=[110,101]) then mH (!decide (a=b)) else
 bif decide (op=[120,111,114]) then mH (!decide (a=b)) else
 bif decide (op=[97,110,100]) then wr .i64 (a*b) else
 (if a<b then b else a)
section
variable{pg:Pg}
set_option maxRecDepth 100000 in
theorem c960(hf:pg.fs 960=some KD)(h950:pg.fs 950=some xC)(h965:pg.fs 965=some A6)(op:List UInt8)(a:Int):Ret pg 960 [.str op,.int .i64 a] (.int .i64 (vG op a)):=by
 refine Ret.ofX hf ?_;unfold KD;cases d0:decide (op=[110,101,103])
 rotate_left
 simp only[vG,d0,go_sem,seval];refine aC (c950 h950 (wr .i64 (0-a))) ?_;simp only[vG,d0,go_sem,seval];cases d1:decide (op=[97,98,115])
 rotate_left
 by_cases h:a<0;have dh:decide (a<0)=true:=by simp[h]
 simp only[vG,d0,d1,h,dh,go_sem,seval];refine aC (c950 h950 (wr .i64 (0-a))) ?_;simp only[vG,d0,d1,h,dh,go_sem,seval];have dh:decide (a<0)=false:=by simp[h]
 simp only[vG,d0,d1,h,dh,go_sem,seval];cases d2:decide (op=[115,105,103,110])
 rotate_left
 simp only[vG,d0,d1,d2,go_sem,seval];refine aC (c965 h965 (decide (0<a))) ?_;simp only[vG,d0,d1,d2,go_sem,seval];refine aC (c965 h965 (decide (a<0))) ?_;simp only[vG,d0,d1,d2,go_sem,seval];cases d3:decide (op=[110,111,116])
 rotate_left
 simp only[vG,d0,d1,d2,d3,go_sem,seval];simp only[vG,d0,d1,d2,d3,lV,max2,go_sem,seval]
set_option maxRecDepth 100000 in
theorem c961(hf:pg.fs 961=some KC)(h950:pg.fs 950=some xC)(h965:pg.fs 965=some A6)(h966:pg.fs 966=some DR)(op:List UInt8)(a b:Int):Ret pg 961 [.str op,.int .i64 a,.int .i64 b] (.int .i64 (jB op a b)):=by
 refine Ret.ofX hf ?_;unfold KC;cases d0:decide (op=[97,100,100])
 rotate_left
 simp only[jB,d0,go_sem,seval];refine aC (c950 h950 (wr .i64 (a+b))) ?_;simp only[jB,d0,go_sem,seval];cases d1:decide (op=[115,117,98])
 rotate_left
 simp only[jB,d0,d1,go_sem,seval];refine aC (c950 h950 (wr .i64 (a-b))) ?_;simp only[jB,d0,d1,go_sem,seval];cases d2:decide (op=[109,117,108])
 rotate_left
 simp only[jB,d0,d1,d2,go_sem,seval];refine aC (c950 h950 (wr .i64 (a*b))) ?_;simp only[jB,d0,d1,d2,go_sem,seval];cases d3:decide (op=[100,105,118])
 rotate_left
 simp only[jB,d0,d1,d2,d3,go_sem,seval];refine aC (c966 h966 a b) ?_;simp only[jB,d0,d1,d2,d3,go_sem,seval];refine aC (c950 h950 (vQ a b)) ?_;simp only[jB,d0,d1,d2,d3,go_sem,seval];cases d4:decide (op=[109,111,100])
 rotate_left
 by_cases h:b=0;have dh:decide (b=0)=true:=by simp[h]
 simp only[jB,d0,d1,d2,d3,d4,h,dh,go_sem,seval];have dh:decide (b=0)=false:=by simp[h]
 simp only[jB,d0,d1,d2,d3,d4,h,dh,go_sem,seval];refine aC (c966 h966 a b) ?_;simp only[jB,d0,d1,d2,d3,d4,h,dh,go_sem,seval];cases d5:decide (op=[109,105,110])
 rotate_left
 simp only[jB,d0,d1,d2,d3,d4,d5,lV,min2,max2,go_sem,seval];cases d6:decide (op=[109,97,120])
 rotate_left
 simp only[jB,d0,d1,d2,d3,d4,d5,d6,lV,min2,max2,go_sem,seval];cases d7:decide (op=[108,116])
 rotate_left
 simp only[jB,d0,d1,d2,d3,d4,d5,d6,d7,go_sem,seval];refine aC (c965 h965 (decide (a<b))) ?_;simp only[jB,d0,d1,d2,d3,d4,d5,d6,d7,go_sem,seval];cases d8:decide (op=[108,101])
 rotate_left
 simp only[jB,d0,d1,d2,d3,d4,d5,d6,d7,d8,go_sem,seval];refine aC (c965 h965 (decide (a<=b))) ?_;simp only[jB,d0,d1,d2,d3,d4,d5,d6,d7,d8,go_sem,seval];cases d9:decide (op=[103,116])
 rotate_left
 simp only[jB,d0,d1,d2,d3,d4,d5,d6,d7,d8,d9,go_sem,seval];refine aC (c965 h965 (decide (b<a))) ?_;simp only[jB,d0,d1,d2,d3,d4,d5,d6,d7,d8,d9,go_sem,seval];cases d10:decide (op=[103,101])
 rotate_left
 simp only[jB,d0,d1,d2,d3,d4,d5,d6,d7,d8,d9,d10,go_sem,seval];refine aC (c965 h965 (decide (b<=a))) ?_;simp only[jB,d0,d1,d2,d3,d4,d5,d6,d7,d8,d9,d10,go_sem,seval];cases d11:decide (op=[101,113])
 rotate_left
 simp only[jB,d0,d1,d2,d3,d4,d5,d6,d7,d8,d9,d10,d11,go_sem,seval];refine aC (c965 h965 (decide (a=b))) ?_;simp only[jB,d0,d1,d2,d3,d4,d5,d6,d7,d8,d9,d10,d11,go_sem,seval];cases d12:decide (op=[110,101])
 rotate_left
 simp only[jB,d0,d1,d2,d3,d4,d5,d6,d7,d8,d9,d10,d11,d12,go_sem,seval];refine aC (c965 h965 (!decide (a=b))) ?_;simp only[jB,d0,d1,d2,d3,d4,d5,d6,d7,d8,d9,d10,d11,d12,go_sem,seval];cases d13:decide (op=[120,111,114])
 rotate_left
 simp only[jB,d0,d1,d2,d3,d4,d5,d6,d7,d8,d9,d10,d11,d12,d13,go_sem,seval];refine aC (c965 h965 (!decide (a=b))) ?_;simp only[jB,d0,d1,d2,d3,d4,d5,d6,d7,d8,d9,d10,d11,d12,d13,go_sem,seval];cases d14:decide (op=[97,110,100])
 rotate_left
 simp only[jB,d0,d1,d2,d3,d4,d5,d6,d7,d8,d9,d10,d11,d12,d13,d14,go_sem,seval];simp only[jB,d0,d1,d2,d3,d4,d5,d6,d7,d8,d9,d10,d11,d12,d13,d14,lV,max2,go_sem,seval]
end
end
section
def w7(x:Int)(p:List UInt8):Bool:=bif decide (p=[98,111,111,108]) then kO x else eP x
def lB(op:List UInt8)(xs:List Int):Bool:=
 match cX op with
 |none=>false
 |some p=>eqL w7 xs p.params
def wE(op:List UInt8):List Int->Int
 |[a]=>vG op a
 |[a,b]=>jB op a b
 |a::b::c::_=>bif decide (a=1) then b else c
 |[]=>0
def lA(op:List UInt8)(xs:List Int):AV:=.tup [.int .i64 (bif lB op xs then wE op xs else 0),.bool (lB op xs)]
theorem TB{op:List UInt8}{p:pO}(h:cX op=some p):p.params.length=1\/p.params.length=2\/p.params.length=3:=by
 have all:∀p∈fL,p.params.length=1\/p.params.length=2\/p.params.length=3:=by decide
 exact all p (List.mem_of_find?_eq_some h)
section
variable{pg:Pg}
set_option maxRecDepth 100000 in
theorem c954(hf:pg.fs 954=some KH)(h124:pg.fs 124=some mY)(h125:∀op,cA pg 125 [.str op] (iP op))(h960:∀op a,Ret pg 960 [.str op,.int .i64 a] (.int .i64 (vG op a)))(h961:∀op a b,Ret pg 961 [.str op,.int .i64 a,.int .i64 b] (.int .i64 (jB op a b)))
  (op:List UInt8) (nl cl:Bool) (xs:List Int) (hb:xs.length<=big):Ret pg 954 [.str op,.sl nl (xs.map aH) cl] (lA op xs):=by
 refine Ret.ofX hf ?_;unfold KH;obtain⟨r,hr,hP⟩:=h125 op;unfold iP at hP;cases hp:cX op with
 |none=>
  rw[hp]at hP;simp only at hP;subst hP;have hB:lB op xs=false:=by simp[lB,hp]
  refine Wk ?_;refine aC (hr) ?_;simp only[lA,hB,go_sem,seval]
 |some p=>
  rw[hp]at hP;simp only at hP;obtain⟨pn,pc,rfl⟩:=hP;have hB:lB op xs=eqL w7 xs p.params:=by simp[lB,hp]
  have hl3:=TB hp;generalize p.params=ps at *;refine Wk ?_;refine aC (hr) ?_;cases b2:decide ((ps.length:Int)=(xs.length:Int))
  case false=>
   have hB':lB op xs=false:=by rw[hB];exact AQ (by simp at b2 ⊢;omega)
   simp only[b2,lA,hB',go_sem,seval]
  case true=>
  have hl:xs.length=ps.length:=by have:=aF b2;omega
  simp only[b2,go_sem,seval];refine aN xs (λd r env hp=>env=yE (.str op) (.sl nl (xs.map aH) cl) (.sl pn (ps.map .str) pc) (.int .i64 d.length)/\lB op xs=eqL w7 r (ps.drop d.length)) ?_ ?_ ?_;exact⟨rfl,hB⟩;rintro env hp ⟨rfl,hI⟩;have hB':lB op xs=true:=by rw[hI,oF hl]
  simp only[yD,yE,bH,go_sem,seval];rcases xs with _|⟨a,_|⟨b,_|⟨c,_|⟨d,s⟩⟩⟩⟩
  simp at hl;omega;refine Wk ?_;refine aC (h960 op a) ?_;simp only[lA,hB',wE,go_sem,seval];refine Wk ?_;refine aC (h961 op a b) ?_;simp only[lA,hB',wE,go_sem,seval];kernel_rfl;cases ha:decide (a=1)<;>simp only[ha,lA,hB',wE,go_sem,seval];simp at hl;omega;rintro d x r env hp hes ⟨rfl,hI⟩;obtain⟨hget,e1,e2,ew⟩:=cY hes hb;obtain⟨y,gy,f1,f2,hq⟩:=I6 (q:=w7) hes hl;rw[hq]at hI;cases hy:decide (y=[98,111,111,108]);have hQ:w7 x y=eP x:=by simp only[w7,hy,cond_false]
  rw[hQ]at hI;simp only[yD,yE,e1,e2,hget,gy,f1,f2,hy,go_sem,seval];refine aC (LE h124 x) ?_;cases hx:eP x;rw[hx]at hI;simp only[lA,hI,go_sem,seval];rw[hx]at hI;simp only[ew,go_sem,seval];exact⟨rfl,by simpa using hI⟩;have hQ:w7 x y=kO x:=by simp only[w7,hy,cond_true]
  rw[hQ]at hI;simp only[yD,yE,e1,e2,hget,gy,f1,f2,hy,go_sem,seval];refine aC (WB h124 x) ?_;cases hx:kO x;rw[hx]at hI;simp only[lA,hI,go_sem,seval];rw[hx]at hI;simp only[ew,go_sem,seval];exact⟨rfl,by simpa using hI⟩
end
end
section
section
variable{pg:Pg}
end
end
section
section
variable{pg:Pg}
end
end
section
def tR(l:List Int)(ix:List Int):List Int:=ix.map λi=>l[i.toNat]?.getD 0
section
variable{pg:Pg}
end
end
section
def lI(s:aE):Bool:=decide (s.op.bs=[99,111,110,115,116])||decide (s.op.bs=[116,114,117,116,104])
def xQ:List Int->List aE->Option (List Int)
 |l,[]=>some l
 |l,s::r=>bif lI s then xQ (l++[s.num]) r else bif lB s.op.bs (tR l s.args.es) then xQ (l++[wE s.op.bs (tR l s.args.es)]) r else none
def OV(l:List Int):Int:=l.getLast?.getD 0
def pW(fn:List aE)(xs:List Int):Bool:=cC fn xs.length&&(xs.all eP&&(xQ xs fn).isSome)
def SZ(fn:List aE)(xs:List Int):Int:=OV ((xQ xs fn).getD [])
def L3(fn:List aE)(xs:List Int):AV:=.tup [.int .i64 (bif pW fn xs then SZ fn xs else 0),.bool (pW fn xs)]
def Gr(h:Hp)(k:Nat)(v:AV)(es:List Int):Prop:=
 (∃nl cl,v = .sl nl (es.map aH) cl/\(nl||cl)=true)\/(∃e,v = .rf k e 0 es.length es.length/\h.get k=some (e,.blk (es.map aH) 1 false false false))
theorem s8:∀(es:List Int)(tl:List AV),kA 1 false es.length (es.map aH++tl)=some (es.map aH)
 |[],_=>rfl
 |x::r,tl=>by simp only[List.length_cons,kA,List.map_cons,List.cons_append,Bool.false_eq_true,if_false,aH,AV.isAgg];rw[s8 r tl];rfl
theorem Gr.snap{h:Hp}{k:Nat}{v:AV}{es:List Int}(g:Gr h k v es):∃nl cl keys,Tev.snap depth h v=some (.sl nl (es.map aH) cl,keys)/\(keys=[]\/keys=[k]):=by
 rcases g with ⟨nl,cl,rfl,_⟩|⟨e,rfl,hg⟩
 refine⟨nl,cl,[],?_,.inl rfl⟩;have ht:(AV.sl nl (es.map aH) cl).tree=true:=by simp only[AV.tree,oW]
 show Tev.snap (63+1) h _=_;unfold Tev.snap;rw[if_pos ht];refine⟨false,false&&es.length==es.length,[k],?_,.inr rfl⟩;show Tev.snap (63+1) h _=_;have hc:kA 1 false es.length (es.map aH)=some (es.map aH):=by simpa using s8 es []
 unfold Tev.snap;simp only[AV.tree,Bool.false_eq_true,if_false,hg,if_true,List.drop_zero,hc,eK 62 h (oW es),Option.map_some]
theorem Gr.mono{h h':Hp}{k:Nat}{v:AV}{es:List Int}(g:Gr h k v es)(hk:h'.get k=h.get k):Gr h' k v es:=by
 rcases g with g|⟨e,rfl,hg⟩
 exact .inl g;exact .inr ⟨e,rfl,hk.trans hg⟩
section
variable{pg:Pg}{kb:Nat}
theorem BN{bytes s k1:Nat}{h:Hp}{v:AV}{es:List Int}{x:Int}{nl cl:Bool}{Q:AV->Eff->Prop}{t:Tok Q}(o:Gr h k1 v es)(hl:es.length+1<=1073741824)(hb:bytes<=65536)
  (q:∀v' rd pa,Gr (Eff.app h (.pat rd pa)) (kb+s) v' (es++[x])->(∀k,k≠kb+s->k≠k1->(Eff.app h (.pat rd pa)).get k=h.get k)->Q v' (.pat rd pa)) :
  XO pg kb (.app 1 false bytes) s h [v,.sl nl [.int .i64 x] cl] Q t:=by
 rw[eQ];have hsrc:aO h 1 false (.sl nl [.int .i64 x] cl)=some ([.int .i64 x],1,[]):=rfl;simp only[jN,hsrc];have hm:es.map aH++[AV.int .i64 x]=(es++[x]).map aH:=by simp[aH]
 rcases o with ⟨nl',cl',rfl,hc⟩|⟨e,rfl,hg⟩
 simp only[i6,Nat.one_ne_zero,if_false,hc,bU,hl,hb,decide_true,Bool.and_self,if_true,fJ];refine q _ _ _ (.inr ⟨h.next (kb+s),by simp,?_⟩) ?_;rw[iZ,aB,if_pos rfl,hm];intro k hk _;rw[iZ,aB,if_neg (Ne.symm hk)];have h1:¬(es.length+1<=es.length):=by omega
 have ht:List.take es.length (es.map aH)=es.map aH:=List.take_of_length_le (by simp);by_cases hk1:k1=kb+s;subst hk1;simp only[i6,hg,Nat.one_ne_zero,if_false,true_and,Nat.zero_add,Nat.mul_one,bU,Nat.le_refl,if_true,h1,hl,hb,decide_true,Bool.true_and,beq_self_eq_true,Bool.not_true,Bool.and_false,Bool.false_eq_true,Bool.not_false,List.drop_zero,ht,hm];refine q _ _ _ (.inr ⟨e+1,by simp,?_⟩) ?_;rw[iZ,aB,if_pos rfl];intro k hk _;rw[iZ,aB,if_neg (Ne.symm hk)];have h2:(k1==kb+s)=false:=by simpa using hk1
 simp only[i6,hg,Nat.one_ne_zero,if_false,true_and,Nat.zero_add,Nat.mul_one,bU,Nat.le_refl,if_true,h1,hl,hb,decide_true,Bool.true_and,h2,Bool.not_false,Bool.false_eq_true,List.drop_zero,ht,hm];refine q _ _ _ (.inr ⟨h.next (kb+s),by simp,?_⟩) ?_;rw[uX,aB,if_pos rfl];intro k hk hk2;rw[uX,aB,if_neg (Ne.symm hk),aB,if_neg (Ne.symm hk2)]
end
theorem sH:∀{fn:List aE}{n:Int}{d:List aE}{x:aE}{r:List aE},bZ n fn=true->fn=d++x::r->eV x (n+d.length)=true
 |_,n,[],x,r,h,rfl=>by simp only[List.nil_append,bZ,aD]at h;simpa using h.1
 |_,n,y::d,x,r,h,rfl=>by simp only[List.cons_append,bZ,aD]at h;have:=sH h.2 rfl;simp only[List.length_cons,Int.natCast_add,Int.natCast_one]at this ⊢;rw[show n+((d.length:Int)+1)=n+1+d.length by omega];exact this
theorem Q1{l:List Int}(h:l≠[]):l[(l.length-1)]?=some (OV l):=by
 rw[OV,List.getLast?_eq_getElem?];cases h2:l[l.length-1]? with
 |some y=>rfl
 |none=>rw[List.getElem?_eq_none_iff]at h2;have:=List.length_pos_iff.2 h;omega
section
variable{pg:Pg}
end
end
section
theorem Gr.at{h:Hp}{k:Nat}{v:AV}{es:List Int}{i x:Int}(g:Gr h k v es)(h0:0<=i)(hx:es[i.toNat]?=some x) :
  ∃p rd,AL 1 false none [v,.int .i64 i]=some (p,.pat [] [])/\vT h 1 false [p]=some (.int .i64 x,.pat rd []):=by
 have hlt:i<(es.length:Int):=by have:=(cP.1 hx).1;omega
 rcases g with ⟨nl,cl,rfl,_⟩|⟨e,rfl,hg⟩
 refine⟨.fp (.int .i64 x),[],?_,rfl⟩;simp only[AL,if_pos h0,List.getElem?_map,hx,Option.map_some,aH,AV.fits,Bool.not_false,Bool.true_and,beq_self_eq_true,if_true];rfl;refine⟨.pt k e (0+i.toNat*1),[k],?_,?_⟩;simp only[AL,if_pos (And.intro h0 hlt)];rfl;simp only[vT,hg,if_true,fM,Nat.zero_add,Nat.mul_one,Bool.false_eq_true,if_false,List.getElem?_map,hx,Option.map_some,aH]
theorem Gr.flen{h:Hp}{k:Nat}{v:AV}{es:List Int}(g:Gr h k v es)(h':Hp):wX h' 1 [v]=some (.int .i64 es.length,.pat [] []):=by
 rcases g with ⟨nl,cl,rfl,_⟩|⟨e,rfl,hg⟩
 simp only[wX,bU];rfl;rfl
theorem Gr.snap1{h:Hp}{k:Nat}{v:AV}{es:List Int}(g:Gr h k v es):∃nl cl keys,mapS (Tev.snap depth h) [v]=some ([.sl nl (es.map aH) cl],keys)/\(keys=[]\/keys=[k]):=by obtain⟨nl,cl,keys,h1,h2⟩:=g.snap;refine⟨nl,cl,keys,?_,h2⟩;rw[eG,h1,iK];simp
theorem eY{h:Hp}{x:AV}{vs ts:List AV}{keys:List Nat}(hx:x.tree=true)(hm:mapS (snap depth h) vs=some (ts,keys)):mapS (snap depth h) (x::vs)=some (x::ts,keys):=by
 have e:snap depth h x=some (x,[]):=by show snap (63+1) h x=_;unfold snap;rw[if_pos hx]
 rw[eG,e,hm];rfl
section
variable{pg:Pg}{kb:Nat}
theorem fB{f s:Nat}{h:Hp}{vs ts:List AV}{keys:List Nat}{r:AV}{Q:AV->Eff->Prop}{t:Tok Q}(hr:Ret pg f ts r)(hm:mapS (snap depth h) vs=some (ts,keys))(hfl:r.flat=true)(hos:r.notOs=true)
  (q:Q r (.pat ((kb+s)::keys) [])):XO pg kb (.call f false false) s h vs Q t:=by
 refine i7 hr hm (v:=r) (pa:=[]) (by cases r<;>first|rfl|cases hos) ?_;rw[hfl];exact q
end
section
variable{pg:Pg}
theorem c959(hf:pg.fs 959=some KE)(h125:∀op,cA pg 125 [.str op] (iP op))(op:List UInt8):Ret pg 959 [.str op] (.bool (cX op).isSome):=by
 refine Ret.ofX hf ?_;unfold KE;obtain⟨r,hr,hP⟩:=h125 op;unfold iP at hP;cases hp:cX op with
 |none=>rw[hp]at hP;simp only at hP;subst hP;refine Wk ?_;refine aC (hr) ?_;simp only[go_sem,seval]
 |some p=>rw[hp]at hP;simp only at hP;obtain⟨pn,pc,rfl⟩:=hP;refine Wk ?_;refine aC (hr) ?_;simp only[go_sem,seval]
set_option maxRecDepth 100000 in
theorem c958(hf:pg.fs 958=some KF)(h124:pg.fs 124=some mY)(h87:∀nl cl (fn:List aE),fn.length<=big->∀n:Int,Ret pg 87 [.sl nl (fn.map aE.av) cl,.int .i64 n] (.bool (cC fn n)))
  (h954:∀op nl cl (xs:List Int),xs.length<=big->Ret pg 954 [.str op,.sl nl (xs.map aH) cl] (lA op xs))
  (nl cl:Bool) (fn:List aE) (hb:fn.length<=big) (nl' cl':Bool) (xs:List Int) (hx:xs.length<=big):Ret pg 958 [.sl nl (fn.map aE.av) cl,.sl nl' (xs.map aH) cl'] (L3 fn xs):=by
 refine Ret.ofX hf ?_;unfold KF;refine Wk ?_;refine aC (h87 nl cl fn hb xs.length) ?_;cases hc:cC fn xs.length
 case false=>
  have:pW fn xs=false:=by simp[pW,hc]
  simp only[L3,this,go_sem,seval]
 have hc2:(xs.length:Int)<=20/\(fn.length:Int)<=60/\(xs.length+fn.length:Int)≠0/\bZ xs.length fn=true:=by simp only[cC,aD,bC,gJ,mE]at hc;exact⟨hc.1.1.1.2,hc.1.1.2,hc.1.2,hc.2⟩
 obtain⟨g1,g2,g3,hst⟩:=hc2;refine Wk ?_;refine aN xs (λd r env hp=>∃v,env=GL (.sl nl (fn.map aE.av) cl) (.sl nl' (xs.map aH) cl') v (.int .i64 d.length)/\Gr hp 9 v d/\xs.all eP=r.all eP) ?_ ?_ ?_;exact⟨_,rfl,.inl ⟨true,true,rfl,rfl⟩,rfl⟩;rintro env hp ⟨v,rfl,hg,hA⟩;have hA:xs.all eP=true:=hA;have hB:pW fn xs=(xQ xs fn).isSome:=by simp[pW,hc,hA]
 simp only[GJ,GL,bH,go_sem,seval];refine aN fn (λd r env hp=>∃v l k,env=uK (.sl nl (fn.map aE.av) cl) v (.int .i64 d.length)/\(k=9\/k=13\/k=25)/\Gr hp k v l/\l.length=xs.length+d.length/\xQ xs fn=xQ l r) ?_ ?_ ?_;exact⟨v,xs,9,rfl,.inl rfl,hg,by simp,rfl⟩;rintro env hp ⟨v,l,k,rfl,hk,hg,hl,hI⟩;have hne:l≠[]:=by intro h;subst h;simp at hl;omega
 have hpos:=List.length_pos_iff.2 hne;have hlast:=Q1 hne;have hI':xQ xs fn=some l:=hI;have hV:SZ fn xs=OV l:=by simp[SZ,hI']
 have hB':pW fn xs=true:=by rw[hB,hI'];rfl
 have w1:wr .i64 ((l.length:Int)-1)=((l.length-1:Nat):Int):=by rw[gS (by omega) (by omega)];omega
 obtain⟨p,rd,a1,a2⟩:=hg.at (i:=((l.length-1:Nat):Int)) (by omega) (by simpa using hlast);have a3:=hg.flen hp;simp only[uJ,uK,bH,↓a3,w1,↓a1,↓a2,L3,hB',hV,go_sem,seval];rintro d x r env hp hes ⟨v,l,k,rfl,hk,hg,hl,hI⟩;obtain⟨hget,e1,e2,ew⟩:=cY hes hb;have hxo:=sH hst hes;have hroom:l.length+1<=1073741824:=by have:=congrArg List.length hes;simp only[dA,List.length_cons]at this;omega
 cases b1:decide (x.op.bs=[99,111,110,115,116])
 case true=>
  have hL:lI x=true:=by simp[lI,b1]
  simp only[uJ,uK,e1,e2,hget,b1,go_sem,seval];refine BN (kb:=0) (s:=13) (k1:=k) (es:=l) hg hroom (by decide) ?_;intro v' rd pa ho' hk;simp only[ew,go_sem,seval];exact⟨v',l++[x.num],13,rfl,.inr (.inl rfl),ho',by simp;omega,by rw[hI];simp[xQ,hL]⟩
 cases b2:decide (x.op.bs=[116,114,117,116,104])
 case true=>
  have hL:lI x=true:=by simp[lI,b2]
  simp only[uJ,uK,e1,e2,hget,b1,b2,go_sem,seval];refine BN (kb:=0) (s:=13) (k1:=k) (es:=l) hg hroom (by decide) ?_;intro v' rd pa ho' hk;simp only[ew,go_sem,seval];exact⟨v',l++[x.num],13,rfl,.inr (.inl rfl),ho',by simp;omega,by rw[hI];simp[xQ,hL]⟩
 have hL:lI x=false:=by simp[lI,b1,b2]
 have hix:∀i∈x.args.es,0<=i/\i<(l.length:Int):=by have n1:=aP b1;have n2:=aP b2;rw[eV,if_neg n1,if_neg n2]at hxo;split at hxo;cases hxo;simp only[aD,gQ,eE,bC]at hxo;intro i hi;have:=hxo.1.1 i hi;omega
 simp only[uJ,uK,e1,e2,hget,b1,b2,go_sem,seval];refine aN x.args.es (λd2 r2 env hp=>∃v2,env=GK (.sl nl (fn.map aE.av) cl) v (.int .i64 d.length) v2 (.int .i64 d2.length)/\Gr hp k v l/\Gr hp 17 v2 (tR l d2)) ?_ ?_ ?_;exact⟨_,rfl,hg,.inl ⟨true,true,rfl,rfl⟩⟩;rintro env hp ⟨v2,rfl,hg,hg2⟩;have hpl:(tR l x.args.es).length<=big:=by simp only[tR,bU];exact x.args.ok
 obtain⟨n3,c3,keys,hsn,hkeys⟩:=hg2.snap1;simp only[GI,GK,bH,e2,hget,go_sem,seval];refine fB (kb:=0) (h954 x.op.bs n3 c3 _ hpl) (eY rfl hsn) rfl rfl ?_;simp only[lA,go_sem,seval];cases b3:lB x.op.bs (tR l x.args.es);have hB':pW fn xs=false:=by rw[hB,hI];simp[xQ,hL,b3]
 simp only[L3,hB',go_sem,seval];refine Wk ?_;refine BN (kb:=0) (s:=25) (k1:=k) (es:=l) hg hroom (by decide) ?_;intro v' rd pa ho' hk;simp only[ew,go_sem,seval];exact⟨v',_,25,rfl,.inr (.inr rfl),ho',by simp;omega,by rw[hI];simp[xQ,hL,b3]⟩;rintro d2 y r2 env hp hes2 ⟨v2,rfl,hg,hg2⟩;obtain⟨hget2,f1,f2,fw⟩:=cY hes2 x.args.ok;obtain⟨y0,y1⟩:=hix y (by rw[hes2];simp);obtain⟨z,hz⟩:∃z,l[y.toNat]?=some z:=⟨l[y.toNat]'(by omega),cK (by omega)⟩
 obtain⟨p,rd,a1,a2⟩:=hg.at y0 hz;have hd2:d2.length<x.args.es.length:=by rw[hes2];simp
 have hax:=x.args.ok;simp only[GI,GK,f1,f2,e2,hget,hget2,↓a1,↓a2,go_sem,seval];refine BN (kb:=0) (s:=17) (k1:=17) (es:=tR l d2) hg2 (by simp only[tR,bU,big]at *;omega) (by decide) ?_;intro v' rd pa ho' hk2;simp only[fw,go_sem,seval];exact⟨v',rfl,hg.mono (hk2 k (by omega) (by omega)),by simpa[tR,hz] using ho'⟩;rintro d x r env hp hes ⟨v,rfl,hg,hA⟩;obtain⟨hget,e1,e2,ew⟩:=cY hes hx;simp only[GJ,GL,e1,e2,hget,go_sem,seval];refine aC (LE h124 x) ?_;cases hx:eP x;have hB:pW fn xs=false:=by simp[pW,hA,hx]
 simp only[L3,hB,go_sem,seval];simp only[e1,e2,hget,go_sem,seval];refine BN (kb:=0) (s:=9) (k1:=9) (es:=d) hg (by have:=congrArg List.length hes;simp only[dA,List.length_cons]at this;omega) (by decide) ?_;intro v' rd pa ho' hk;simp only[ew,go_sem,seval];exact⟨v',rfl,ho',by rw[hA];simp[hx]⟩
end
end
section
def aJn(n:Int):List UInt8:=if n<0 then [] else 105::qL 20 n.toNat
section
variable{pg:Pg}
end
end
section
def Asc(l:List Int):Prop:=l.Pairwise (· < ·)
theorem P1(x:Int):∀l:List Int,Asc l->Asc (fC x l)
 |[],_=>by simp[fC,Asc]
 |y::r,h=>by obtain⟨h1,h2⟩:=List.pairwise_cons.1 h;simp only[fC];by_cases h3:y<x;simp only[h3,decide_true,if_true];refine List.pairwise_cons.2 ⟨λz hz=>?_,P1 x r h2⟩;rcases (zT r).1 hz with rfl|hz;exact h3;exact h1 z hz;simp only[h3,decide_false,Bool.false_eq_true,if_false];by_cases h4:y=x;simp only[h4,decide_true,if_true];exact h4 ▸ h;simp only[h4,decide_false,Bool.false_eq_true,if_false];refine List.pairwise_cons.2 ⟨λz hz=>?_,h⟩;rcases List.mem_cons.1 hz with rfl|hz;omega;have:=h1 z hz;omega
theorem LG:∀(l acc:List Int),Asc acc->Asc (eX acc l)
 |[],acc,h=>h
 |x::r,acc,h=>by simp only[eX,List.foldl_cons];exact LG r _ (P1 x acc h)
theorem BI:∀(l:List aA)(acc:List Int),Asc acc->Asc (cR acc l)
 |[],acc,h=>h
 |p::r,acc,h=>by rw[cR];exact BI r _ (LG _ _ h)
theorem R5(p:aA):Asc (cT p):=by rw[vC];refine BI _ _ ?_;split;simp[fC,Asc];simp[Asc]
theorem LH:∀l:List Int,l.Pairwise (· <= ·)->Asc (fA l)
 |[],_=>by simp[fA,Asc]
 |[x],_=>by simp[fA,Asc]
 |x::y::r,h=>by obtain⟨h1,h2⟩:=List.pairwise_cons.1 h;have ih:=LH (y::r) h2;simp only[fA];split;exact ih;rename_i hne;refine List.pairwise_cons.2 ⟨λz hz=>?_,ih⟩;have hz2:=(mA z (y::r)).1 hz;have h3:=h1 y (by simp);rcases List.mem_cons.1 hz2 with rfl|hz3;omega;have:=(List.pairwise_cons.1 h2).1 z hz3;omega
theorem WF:∀(a b:List Int),Asc a->Asc b->(∀x,x∈a↔x∈b)->a=b
 |[],[],_,_,_=>rfl
 |[],y::s,_,_,h=>by have:=(h y).2 (by simp);simp at this
 |x::r,[],_,_,h=>by have:=(h x).1 (by simp);simp at this
 |x::r,y::s,ha,hb,h=>by
  obtain⟨a1,a2⟩:=List.pairwise_cons.1 ha;obtain⟨b1,b2⟩:=List.pairwise_cons.1 hb;have hxy:x=y:=by have p1:=(h x).1 (by simp);have p2:=(h y).2 (by simp);rcases List.mem_cons.1 p1 with e|q1;exact e;rcases List.mem_cons.1 p2 with e|q2;exact e.symm;have:=b1 x q1;have:=a1 y q2;omega
  subst hxy;congr 1;refine WF r s a2 b2 λz=>⟨λhz=>?_,λhz=>?_⟩
  rcases List.mem_cons.1 ((h z).1 (cE _ hz)) with e|q;have:=a1 z hz;omega;exact q;rcases List.mem_cons.1 ((h z).2 (cE _ hz)) with e|q;have:=b1 z hz;omega;exact q
theorem p9(p:aA):jQ p=cT p:=by refine WF _ _ (LH _ (oN _)) (R5 p) λx=>?_;rw[jQ,mA,oE,zS]
end
section
def aGj(i:Nat)(l:Lin):Bool:=decide (l.c=0)&&match l.ts.es with
 |[t]=>decide (t.v.bs=aJn i)&&decide (t.c=1)
 |_=>false
def TC:Nat->List Lin->Bool
 |_,[]=>true
 |i,l::r=>aGj i l&&TC (i+1) r
def aIi(p:aA)(rank:Int):Bool := !p.dyn&&(decide ((p.at_.es.length:Int)=rank)&&TC 0 p.at_.es)
def aPC(v rank:Int)(p:aA):Bool := !(decide (p.op.bs=[114,101,97,100])&&(decide (p.value=v) && !aIi p rank))
mutual
def aPB(v rank:Int):aA->Bool
 |.mk op num value name at_ dyn check fn knl kids kcl=>aPC v rank (.mk op num value name at_ dyn check fn knl kids kcl)&&aBy v rank kids
def aBy(v rank:Int):List aA->Bool
 |[]=>true
 |p::r=>aPB v rank p&&aBy v rank r
end
end
end Go.Tev
