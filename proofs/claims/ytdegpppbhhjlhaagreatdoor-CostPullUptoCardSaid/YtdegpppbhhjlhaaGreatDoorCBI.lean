import Derived.Test.YtdegpppbhhjlhaaGreatDoorCBH
import Derived.Test.YtdegpppbhhjlhaaGreatDoorCBG
import Derived.Test.YtdegpppbhhjlhaaGreatDoorCAR
import Derived.Test.YtdegpppbhhjlhaaGreatDoorCBE
set_option linter.all false
namespace Go.Tev
section
section
variable{pg:Pg}{kb:Nat}
def Src(h:Hp)(esz:Nat)(ag:Bool)(w:AV)(xs:List AV):Prop:=∃ds rd,aV esz ag xs=some ds/\aO h esz ag w=some (ds,xs.length,rd)
theorem Src.sl{h:Hp}{esz:Nat}{ag nl cl:Bool}{xs:List AV}(hx:∀x∈xs,El esz ag x):Src h esz ag (.sl nl xs cl) xs:=by obtain⟨ds,d1,d2,d3,_⟩:=cG hx;exact⟨ds,[],d1,by simp[aO,d1]⟩
theorem Own.src{h:Hp}{k2 esz:Nat}{ag:Bool}{w:AV}{xs:List AV}(o2:Own h k2 esz ag w xs)(hx:∀x∈xs,El esz ag x):Src h esz ag w xs:=by
 rcases o2 with ⟨rfl,nl',cl',rfl,hc⟩|⟨e,cs,rfl,hg,hu⟩
 exact Src.sl hx;obtain⟨ds,d1,d2,d3,_⟩:=cG hx;rw[hu]at d1;cases d1;refine⟨cs,[k2],hu,?_⟩;simp only[aO,hg,List.drop_zero];rw[if_pos ⟨trivial,by omega,by rw[<-d2,List.take_length];exact d3⟩,<-d2,List.take_length]
theorem P7{esz bytes s k1 e n:Nat}{ag:Bool}{h:Hp}{cs:List AV}{es xs:List AV}{nl cl:Bool}{Q:AV->Eff->Prop}{t:Tok Q}(hnl:n=es.length)(hg:h.get k1=some (e,.blk cs esz ag false false))(hu:aV esz ag es=some cs)(hk1:k1≠kb+s)
  (he:∀x∈es,El esz ag x) (hx:∀x∈xs,El esz ag x) (hn:xs≠[]) (hl:n+xs.length<=1073741824) (hb:bytes<=65536)
  (q:∀ds,aV esz ag (es++xs)=some ds->Q (.rf (kb+s) (h.next (kb+s)) 0 (n+xs.length) (n+xs.length)) (.pat [kb+s,k1] [⟨k1,e,.dead⟩,⟨kb+s,h.next (kb+s),.blk ds esz ag false false⟩])) :
  XO pg kb (.app esz ag bytes) s h [.rf k1 e 0 n n,.sl nl xs cl] Q t:=by
 subst hnl;rw[eQ];obtain⟨ds,d1,d2,d3,_⟩:=cG hx;obtain⟨cs',c1,c2,_,_⟩:=cG he;rw[hu]at c1;cases c1;have hn':xs.length≠0:=by simpa using hn
 have h1:¬(es.length+xs.length<=es.length):=by omega
 have h2:(k1==kb+s)=false:=by simpa using hk1
 have q':=q (cs++ds) (fY hu d1);simp only[jN,aO,d1,Option.map_some,i6,hg,hn',if_false,true_and,Nat.zero_add];rw[if_pos (by omega)];simp only[h1,if_false,hl,hb,decide_true,Bool.true_and,h2,Bool.not_false,if_true,Bool.false_eq_true,List.drop_zero,<-c2,List.take_length];exact q'
theorem P8{esz bytes s:Nat}{ag:Bool}{h:Hp}{xs:List AV}{nl cl nl' cl':Bool}{Q:AV->Eff->Prop}{t:Tok Q}(hc:(nl||cl)=true)(hx:∀x∈xs,El esz ag x)(hn:xs≠[])(hl:xs.length<=1073741824)(hb:bytes<=65536)
  (q:∀ds,aV esz ag xs=some ds->Q (.rf (kb+s) (h.next (kb+s)) 0 xs.length xs.length) (.pat [kb+s] [⟨kb+s,h.next (kb+s),.blk ds esz ag false false⟩])):XO pg kb (.app esz ag bytes) s h [.sl nl [] cl,.sl nl' xs cl'] Q t:=by
 rw[eQ];obtain⟨ds,d1,d2,d3,_⟩:=cG hx;have hn':xs.length≠0:=by simpa using hn
 simp only[jN,aO,d1,Option.map_some,i6,hn',if_false,hc,List.length_nil,Nat.zero_add,Bool.true_and,hl,hb,decide_true,Bool.and_self,if_true,aV,List.nil_append];exact q ds d1
end
end
section
theorem Own.gr{h:Hp}{k:Nat}{v:AV}{xs:List Int}(o:Own h k 1 false v (xs.map aH)):Gr h k v xs:=by
 rcases o with ⟨h1,nl,cl,rfl,hc⟩|⟨e,cs,rfl,hg,hu⟩
 have:xs=[]:=by simpa using h1
 subst this;exact .inl ⟨nl,cl,rfl,hc⟩;rw[fJ]at hu;cases hu;exact .inr ⟨e,by simp,hg⟩
theorem Gr.one{h:Hp}{k:Nat}{v:AV}{xs:List Int}(g:Gr h k v xs):v.fits 1 false=true/\v.one=true/\v.cells=[v]:=by rcases g with ⟨nl,cl,rfl,_⟩|⟨e,rfl,hg⟩<;>exact⟨rfl,rfl,rfl⟩
theorem Gr.src{h:Hp}{k:Nat}{v:AV}{xs:List Int}(g:Gr h k v xs):Src h 1 false v (xs.map aH):=by
 rcases g with ⟨nl,cl,rfl,_⟩|⟨e,rfl,hg⟩
 exact Src.sl (El.ints xs);refine⟨xs.map aH,[k],fJ xs,?_⟩;simp only[aO,hg,List.drop_zero];have hal:∀l:List Int,bL (l.map aH)=true:=by
  intro l
  induction l with
  |nil=>rfl
  |cons x r ih=>simp[bL,aH,AV.one]at ih ⊢;exact ih
 rw[if_pos];simp[List.take_of_length_le];refine⟨trivial,by simp,?_⟩;rw[List.take_of_length_le (by simp)];exact hal xs
section
variable{pg:Pg}
end
end
section
private theorem eq1s(a b:List UInt8):eq1 (.str a) (.str b)=some (decide (a=b)):=rfl
section
variable{pg:Pg}
end
end
section
theorem vA{p q:aA}(hq:q∈p.kids){v:Int}(hv:v∈jC q):v∈jC p:=by
 have mem:∀l:List aA,q∈l->v∈kG l:=by
  intro l
  induction l with
  |nil=>intro h;cases h
  |cons x r ih=>intro h;rw[kG,kE];rcases List.mem_cons.1 h with rfl|h;exact .inl hv;exact .inr (ih h)
 rw[vB,kE];exact .inr (mem _ hq)
theorem pR{values:Int}{name:Str}{vars:List Str}:∀{l:List aA}{i:Nat}{q:aA},cN values false name vars i l=true->q∈l->bO values q vars=true
 |[],_,_,_,h=>by cases h
 |x::r,i,q,h,hq=>by simp only[cN,Bool.false_and,aD]at h;rcases List.mem_cons.1 hq with rfl|hq;simpa using h.1;exact pR h.2 hq
theorem R2{h:Hp}{k kb s a b c:Nat}{nl cl:Bool}{l:List AV}{v:AV}{xs:List Int}(g:Gr h k v xs)(hk:k<(kb+s+1)*65536):eD kb s [.pt a b c,.sl nl l cl,v]=(kb+s+1)*65536:=by
 rcases g with ⟨n1,c1,rfl,_⟩|⟨e,rfl,_⟩
 rfl;have h1:decide ((kb+s+1)*65536<=k)=false:=by simp;omega
 simp[eD,h1]
section
variable{pg:Pg}
def W1(arrs:List Arr)(q:aA)(env:List Val):Prop:=
 bO arrs.length q (env.map (·.v))=true/\kN env/\∀v∈jC q,∃a,arrs[v.toNat]?=some a/\mZ a=true
end
end
section
def pZ(a:AV)(c:Cn)(vi:AV):Ob:=.blk [a,.int .i64 c.rd,.int .i64 0,.int .i64 c.ops,.int .i64 0,vi,.int .i64 c.wk] 7 true true false
def LO(h:Hp)(v:AV)(es:List Int):Prop:=∃k,Own h k 1 false v (es.map aH)/\65536<=k/\((k % 32768=5\/k % 32768=9)/\k / 65536 % 65536=26)
theorem LO.mono{h h':Hp}{v:AV}{es:List Int}(o:LO h v es)(hk:∀q,65536<=q->((q % 32768=5\/q % 32768=9)/\q / 65536 % 65536=26)->h'.get q=h.get q):LO h' v es:=by obtain⟨k,g,h1,h2⟩:=o;exact⟨k,g.mono (hk k h1 h2),h1,h2⟩
def Rn(er:Nat)(a:AV)(c:Cn)(h:Hp):Prop:=∃vi,h.get 29=some (er,pZ a c vi)/\LO h vi (eX [] c.vi)
def dH(h h':Hp)(kb:Nat):Prop:=∀q,q<kb->q≠29->¬((q % 32768=5\/q % 32768=9)/\q / 65536 % 65536=26)->h'.get q=h.get q
theorem dH.refl(h:Hp)(kb:Nat):dH h h kb:=λ_ _ _ _=>rfl
theorem dH.trans{h h' h'':Hp}{kb kb':Nat}(a:dH h h' kb)(b:dH h' h'' kb')(hk:kb<=kb'):dH h h'' kb:=λq h1 h2 h3=>(b q (by omega) h2 h3).trans (a q h1 h2 h3)
def RnP(er:Nat)(a:AV)(h:Hp)(kb:Nat)(o:Rs)(r:AV)(h':Hp):Prop:=
 dH h h' kb/\match o with
 |.ok n c=>r = .tup [.int .i64 n,.int .i64 0]/\Rn er a c h'
 |.er e=>e≠0/\∃n,r = .tup [.int .i64 n,.int .i64 e]
def jY(h:Hp)(kb:Nat)(w:AV)(env:List Val):Prop:=
 (∃nl cl,w = .sl nl (env.map Val.av) cl)\/(∃k e cs,w = .rf k e 0 env.length env.length/\k<kb/\k≠29/\¬((k % 32768=5\/k % 32768=9)/\k / 65536 % 65536=26)/\aV 2 true (env.map Val.av)=some cs/\h.get k=some (e,.blk cs 2 true false false))
theorem El.vals(l:List Val):∀x∈l.map Val.av,El 2 true x:=by intro x hx;simp only[List.mem_map]at hx;obtain⟨y,_,rfl⟩:=hx;exact⟨rfl,rfl,rfl⟩
theorem jY.mono{h h':Hp}{kb kb':Nat}{w:AV}{env:List Val}(g:jY h kb w env)(hk:dH h h' kb)(hl:kb<=kb'):jY h' kb' w env:=by
 rcases g with g|⟨k,e,cs,rfl,h1,h2,h29,h3,h4⟩
 exact .inl g;exact .inr ⟨k,e,cs,rfl,by omega,h2,h29,h3,(hk k h1 h2 h29).trans h4⟩
theorem jY.snap1{h:Hp}{kb:Nat}{w:AV}{env:List Val}(g:jY h kb w env):∃nl cl keys,mapS (Tev.snap depth h) [w]=some ([.sl nl (env.map Val.av) cl],keys):=by
 have ht:treeL (env.map Val.av)=true:=bQ (f:=Val.av) (λ_=>rfl) env;rcases g with ⟨nl,cl,rfl⟩|⟨k,e,cs,rfl,h1,h2,h29,h3,h4⟩
 refine⟨nl,cl,[],eK 63 h ?_⟩;simp only[treeL,AV.tree,ht,Bool.and_self];obtain⟨cs',c1,c2,c3,c4⟩:=cG (El.vals env);rw[h3]at c1;cases c1;have c5:kA 2 true env.length cs=some (env.map Val.av):=by simpa using c4 []
 refine⟨false,false&&env.length==env.length,[k],?_⟩;have hs:Tev.snap depth h (.rf k e 0 env.length env.length)=some (.sl false (env.map Val.av) (false&&env.length==env.length),[k]):=by show Tev.snap (63+1) h _=_;unfold Tev.snap;simp only[AV.tree,Bool.false_eq_true,if_false,h4,if_true,List.drop_zero,c5,eK 62 h ht,Option.map_some]
 rw[eG,hs,iK];rfl
theorem jW{h:Hp}{kb s:Nat}{w a b:AV}{env:List Val}(g:jY h kb w env)(ha:∃k e o,a = .pt k e o)(hb:b.isAgg=true):eD kb s [a,b,w]=(kb+s+1)*65536:=by
 obtain⟨k1,e1,o1,rfl⟩:=ha;obtain⟨c,rfl⟩:∃c,b = .agg c:=by cases b<;>simp[AV.isAgg]at hb;exact⟨_,rfl⟩
 rcases g with ⟨nl,cl,rfl⟩|⟨k,e,cs,rfl,h1,h2,h29,h3,h4⟩
 rfl;have h5:decide ((kb+s+1)*65536<=k)=false:=by simp;omega
 simp[eD,h5]
section
variable{pg:Pg}{kb:Nat}
theorem aBi{h:Hp}{v:AV}{l:List Int}{x:Int}{Q:AV->Eff->Prop}{t:Tok Q}(hf:pg.fs 55=some s9)(hkb:kb % 65536=0)(o:LO h v l)(hb:l.length<big)
  (q:∀r h',LO h' r (fC x l)->(∀k,k<(kb+25+1)*65536->¬((k % 32768=5\/k % 32768=9)/\k / 65536 % 65536=26)->h'.get k=h.get k)->Q r (.whole h')):XO pg kb (.call 55 false true) 25 h [v,.int .i64 x] Q t:=by
 obtain⟨k1,o,o1,o2⟩:=o;obtain⟨B,hB,hB1,hB2⟩:∃B,eD kb 25 [v,.int .i64 x]=B/\(B=(kb+25+1)*65536\/B=(kb+25+1)*65536+32768)/\∀k e o l c,v = .rf k e o l c->k≠B+1/\k≠B+5/\k≠B+9:=by refine⟨_,rfl,?_,?_⟩;simp only[eD];split;exact .inr rfl;exact .inl rfl;rintro k e o l c rfl;simp only[eD,List.any_cons,List.any_nil,Bool.or_false];split;rename_i h;simp only[aD,bC]at h;omega;rename_i h;simp only[aD,bC,not_and]at h;omega
 have key:∃k1,Own h k1 1 false v (l.map aH)/\k1≠B+1/\k1≠B+5/\k1≠B+9/\65536<=k1/\((k1 % 32768=5\/k1 % 32768=9)/\k1 / 65536 % 65536=26):=by
  rcases o with ⟨he,nl,cl,rfl,hc⟩|⟨e,cs,rfl,hg,hu⟩
  obtain⟨m,rfl⟩:∃m,kb=m*65536:=⟨kb / 65536,by omega⟩
  rcases hB1 with h1|h1;exact⟨(m*65536+25+1)*65536+32768+9,.inl ⟨he,nl,cl,rfl,hc⟩,by omega,by omega,by omega,by omega,by clear hB2 q hB h1;omega⟩;exact⟨(m*65536+25+1)*65536+9,.inl ⟨he,nl,cl,rfl,hc⟩,by omega,by omega,by omega,by omega,by clear hB2 q hB h1;omega⟩;obtain⟨z1,z2,z3⟩:=hB2 _ _ _ _ _ rfl;exact⟨k1,.inr ⟨e,cs,rfl,hg,hu⟩,z1,z2,z3,o1,o2⟩
 obtain⟨k1',o',a1,a5,a9,a11,a10⟩:=key;refine eA (.inl rfl) hB (aKN hf o' hb x a1 a5 a9) ?_;rintro r h' ⟨k2,p1,p2,p3⟩;clear hB2 hB;obtain⟨m,rfl⟩:∃m,kb=m*65536:=⟨kb / 65536,by omega⟩
 have m5:∀y:Nat,y<65536->((m*65536+25+1)*65536+y) / 65536 % 65536=26      :=by intro y hy;rw[Nat.mul_comm,Nat.mul_add_div (by decide),Nat.div_eq_of_lt hy,Nat.add_zero,Nat.mul_comm,Nat.mul_add_mod]
 have hB5:∀y,y<32768->(B+y) / 65536 % 65536=26/\(m*65536+25+1)*65536<=B+y/\(B+y) % 32768=y:=by intro y hy;rcases hB1 with rfl|rfl;exact⟨m5 y (by omega),Nat.le_add_right _ _,by rw[show (m*65536+25+1)*65536=32768*((m*65536+25+1)*2) by rw[Nat.mul_comm,show (65536:Nat)=32768*2 from rfl,Nat.mul_assoc,Nat.mul_comm 2],Nat.mul_add_mod,Nat.mod_eq_of_lt hy]⟩;have:=m5 (32768+y) (by omega);rw[<-Nat.add_assoc]at this;exact⟨this,by generalize (m*65536+25+1)*65536=Z;omega,by rw[show (m*65536+25+1)*65536+32768=32768*((m*65536+25+1)*2+1) by rw[Nat.mul_add,Nat.mul_one,Nat.mul_comm (m*65536+25+1) 2,<-Nat.mul_assoc,Nat.mul_comm],Nat.mul_add_mod,Nat.mod_eq_of_lt hy]⟩
 obtain⟨b1,b2,b3⟩:=hB5 1 (by omega);obtain⟨b4,b5,b6⟩:=hB5 5 (by omega);obtain⟨b7,b8,b9⟩:=hB5 9 (by omega);refine q r h' ⟨k2,p1,?_,?_⟩ (λk h1 h2=>p3 k (by omega) (by omega) (by omega));rcases p2 with rfl|rfl|rfl<;>omega;rcases p2 with rfl|rfl|rfl;exact a10;exact⟨.inl b6,b4⟩;exact⟨.inr b9,b7⟩
end
section
variable{pg:Pg}
theorem MG{fn:List aE}{n:Int}(h:bZ n fn=true):∀s∈fn,(cX s.op.bs).isSome = !lI s:=by
 intro s hs;obtain⟨d,r,rfl⟩:=List.append_of_mem hs;have hx:=sH h rfl;unfold lI;cases b1:decide (s.op.bs=[99,111,110,115,116]);cases b2:decide (s.op.bs=[116,114,117,116,104]);rw[eV,if_neg (aP b1),if_neg (aP b2)]at hx;cases hp:cX s.op.bs with
 |none=>rw[hp]at hx;cases hx
 |some p=>rfl
 rw[aF b2];rfl;rw[aF b1];rfl
set_option maxRecDepth 100000 in
theorem c953(hf:pg.fs 953=some KI)(h959:∀op,Ret pg 959 [.str op] (.bool (cX op).isSome))(h958:∀nl cl (fn:List aE),fn.length<=big->∀nl' cl' (xs:List Int),xs.length<=big->Ret pg 958 [.sl nl (fn.map aE.av) cl,.sl nl' (xs.map aH) cl'] (L3 fn xs))
  (er:Nat) (a:AV) (c:Cn) (kb:Nat) (h:Hp) (hkb:65536<=kb) (hv:Rn er a c h) (nl cl:Bool) (fn:List aE) (hb:fn.length<=big) (v:AV) (k:Nat) (xs:List Int) (hg:Gr h k v xs) (hx:xs.length<=big) :
  cW pg 953 [.pt 29 er 0,.sl nl (fn.map aE.av) cl,v] kb h (RnP er a h kb (lY fn xs c)):=by
 refine cW.ofX hf ?_;unfold KI;obtain⟨n3,c3,keys,hsn,hkeys⟩:=hg.snap1;have ht:(AV.sl nl (fn.map aE.av) cl).tree=true:=by simp only[go_sem,seval]
 refine Wk ?_;refine fB (h958 nl cl fn hb n3 c3 xs hx) (eY ht hsn) rfl rfl ?_;simp only[L3,go_sem,seval];cases hB:pW fn xs
 case false=>simp only[lY,hB,go_sem,seval];exact⟨dH.refl h kb,by decide,0,rfl⟩
 have hst:bZ xs.length fn=true:=by simp only[pW,cC,aD]at hB;exact hB.1.2
 have hlit:=MG hst;refine Wk ?_
 refine aN fn (λd r e hp=>∃o,e=GN (.pt 29 er 0) (.sl nl (fn.map aE.av) cl) (.int .i64 (SZ fn xs)) (.int .i64 d.length) /\
  Rn er a {c with ops:=o} hp/\dH h hp kb/\BX fn c.ops=BX r o) ?_ ?_ ?_
 exact⟨c.ops,rfl,hv,dH.refl _ _,rfl⟩;rintro e hp ⟨o,rfl,hv,hkp,hI⟩;have hI:BX fn c.ops=o:=hI;simp only[GM,GN,bH,lY,hB,go_sem,seval];exact⟨hkp,rfl,by rw[hI];exact hv⟩;rintro d x r e hp hes ⟨o,rfl,hv,hkp,hI⟩;obtain⟨hget,e1,e2,ew⟩:=cY hes hb;have hl:=hlit x (by rw[hes];simp);simp only[GM,GN,e1,e2,hget,go_sem,seval];refine aC (h959 x.op.bs) ?_;cases hL:lI x;rw[hL]at hl;obtain⟨vi,a1,a2⟩:=hv;simp only[hl,a1,pZ,ew,go_sem,seval];refine⟨wr .i64 (o+1),rfl,⟨vi,by rw[aB,if_pos rfl];rfl,a2.mono (λq h1 h2=>by rw[aB,if_neg (by omega)])⟩,?_,by rw[hI];simp[BX,hL]⟩;intro q h1 h2 h3;rw[aB,if_neg (Ne.symm h2)];exact hkp q h1 h2 h3;rw[hL]at hl;simp only[hl,ew,go_sem,seval];exact⟨o,rfl,hv,hkp,by rw[hI];simp[BX,hL]⟩
end
end
end Go.Tev
