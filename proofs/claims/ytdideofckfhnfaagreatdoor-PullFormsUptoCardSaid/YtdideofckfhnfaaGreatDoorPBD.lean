import Derived.Test.YtdideofckfhnfaaGreatDoorPAX
import Derived.Test.YtdideofckfhnfaaGreatDoorPBC
import Derived.Test.YtdideofckfhnfaaGreatDoorPAR
import Derived.Test.YtdideofckfhnfaaGreatDoorPAI
import Derived.Test.YtdideofckfhnfaaGreatDoorPAM
import Derived.Test.YtdideofckfhnfaaGreatDoorPAS
import Derived.Lib.LaidTab
import Derived.Test.YtdideofckfhnfaaGreatDoorRows
set_option linter.all false
namespace Go.Tev
section
section
variable{pg:Pg}
end
end
section
def uO(n:Int):List UInt8:=if n<0 then [] else 105::iC 20 n.toNat
def GT:Nat->Nat->List Nat
 |0,_=>[]
 |f+1,m=>if m=0 then [] else m::GT f (m / 10)
def FH(f m:Nat)(s:List UInt8):List UInt8:=if m=0 then s else iC f m++s
theorem sM:∀f u,(iC f u).length<=f
 |0,u=>by simp[iC]
 |f+1,u=>by have:=sM f (u / 10);simp only[iC];split<;>simp<;>omega
theorem vA{f m:Nat}(hm:m≠0)(s:List UInt8):FH (f+1) m s=FH f (m / 10) (UInt8.ofNat (48+m % 10)::s):=by
 simp only[FH,if_neg hm,iC];by_cases h:m<10;have h1:m / 10=0:=by omega
 have h2:m % 10=m:=by omega
 rw[if_pos h,if_pos h1,h2];rfl;have h1:¬m / 10=0:=by omega
 rw[if_neg h,if_neg h1];simp
section
variable{pg:Pg}
theorem aBo(hf:pg.fs 163=some vF)(n:Nat)(hn:n<=9223372036854775807):Ret pg 163 [.int .i64 n] (.str (iC 20 n)):=by
 refine Ret.ofX hf ?_;have arith:∀m:Nat,m<=9223372036854775807->((m:Int).tmod 10)=((m % 10:Nat):Int)/\(m:Int).tdiv 10=((m / 10:Nat):Int)/\wr .i64 ((m / 10:Nat):Int)=((m / 10:Nat):Int)/\wr .i64 ((m % 10:Nat):Int)=((m % 10:Nat):Int) /\
   wr .i64 (48+((m % 10:Nat):Int))=((48+m % 10:Nat):Int)/\wr .u8 ((48+m % 10:Nat):Int)=((48+m % 10:Nat):Int):=by
  intro m hm;refine⟨by rw[Int.tmod_eq_emod_of_nonneg (by omega)];omega,by rw[Int.tdiv_eq_ediv_of_nonneg (by omega)];omega,by rw[c7 (by omega) (by omega)],by rw[c7 (by omega) (by omega)],by rw[c7 (by omega) (by omega)];omega,?_⟩;simp only[wr];rw[if_pos (by omega)]
 obtain⟨h1,h2,h3,h3',h4,h5⟩:=arith n hn;have h6:=λh nl cl=>D5 h nl cl (48+n % 10) (by omega);have h7:((10:Int)=0)=False:=by simp
 have hD:iC 20 n=FH 19 (n / 10) [UInt8.ofNat (48+n % 10)]:=by by_cases h0:n=0;subst h0;rfl;have:=vA (f:=19) h0 [];simpa[FH,h0] using this
 unfold vF;simp only[h1,h2,h3,h3',h4,h5,h7,↓h6,go_sem,seval];refine bJ (GT 19 (n / 10)) (λd r env hp=>∃(m f:Nat)(s:List UInt8),env=xF (.int .i64 m) (.str s)/\r=GT f m/\m<10 ^ f/\m<=9223372036854775807/\iC 20 n=FH f m s/\s.length=d.length+1/\d.length+f=19) ?_ ?_ ?_;exact⟨n / 10,19,_,rfl,rfl,by omega,by omega,hD,rfl,rfl⟩;rintro env hp ⟨m,f,s,rfl,hr,hm,hm2,hI,_,_⟩;have h0:m=0:=by
  cases f with
  |zero=>simpa using hm
  |succ f=>simp only[GT]at hr;split at hr;assumption;cases hr
 subst h0;have e1:decide ((((0:Nat):Int))>0)=false:=by decide
 simp only[xD,xF,e1,go_sem,seval];rw[hI];rfl
 ·rintro d x r env hp hes ⟨m,f,s,rfl,hr,hm,hm2,hI,hs,hdf⟩;cases f with
  |zero=>cases hr
  |succ f=>
  simp only[GT]at hr;split at hr;cases hr;rename_i h0;simp only[List.cons.injEq]at hr;obtain⟨rfl,hr⟩:=hr;obtain⟨a1,a2,a3,a3',a4,a5⟩:=arith x hm2;have a6:=λh nl cl=>D5 h nl cl (48+x % 10) (by omega);have e1:decide (0<(x:Int))=true:=by simp;omega
  have e2:(1+s.length<=9223372036854775807)=True:=eq_true (by omega);simp only[xD,xF,e1,a1,a2,a3,a3',a4,a5,h7,↓a6,e2,go_sem,seval];refine⟨x / 10,f,_,rfl,hr,by rw[Nat.pow_succ]at hm;omega,by omega,by rw[hI,vA h0],by simp[hs],by simp;omega⟩
theorem aBt(hf:pg.fs 122=some zV)(h163:pg.fs 163=some vF)(n:Int)(hn:n<=9223372036854775807):Ret pg 122 [.int .i64 n] (.str (uO n)):=by refine Ret.ofX hf ?_;unfold zV;by_cases h:n<0;have h1:decide (n<0)=true:=decide_eq_true h;simp only[h1,go_sem,seval];rw[uO,if_pos h];have h1:decide (n<0)=false:=decide_eq_false h;have a:=aBo h163 n.toNat (by omega);rw[Int.toNat_of_nonneg (by omega)]at a;have hl:=sM 20 n.toNat;have e2:(1+(iC 20 n.toNat).length<=9223372036854775807)=True:=eq_true (by omega);simp only[h1,go_sem,seval];refine aC a ?_;simp only[e2,go_sem,seval];rw[uO,if_neg h]
theorem aBx(A:Ora pg)(hf:pg.fs 108=some z6)(n:Int)(hn:n<=9223372036854775807):Ret pg 108 [.int .i64 n] (.str (uO n)):=by
 refine Ret.ofX hf ?_;unfold z6;by_cases h:n<0;have h1:decide (n<0)=true:=decide_eq_true h;simp only[h1,go_sem,seval];rw[uO,if_pos h];have h1:decide (n<0)=false:=decide_eq_false h;have a:Ret pg 93 [.int .i64 n] (.str (iC 20 n.toNat)):=by refine rF A.f93 A.itoa ?_ rfl;simp only[lT];rw[if_pos (by omega)]
 have hl:=sM 20 n.toNat;have e2:(1+(iC 20 n.toNat).length<=9223372036854775807)=True:=eq_true (by omega);simp only[h1,go_sem,seval];refine aC a ?_;simp only[e2,go_sem,seval];rw[uO,if_neg h]
end
end
section
def Asc(l:List Int):Prop:=l.Pairwise (· < ·)
theorem D6(x:Int):∀l:List Int,Asc l->Asc (dK x l)
 |[],_=>by simp[dK,Asc]
 |y::r,h=>by obtain⟨h1,h2⟩:=List.pairwise_cons.1 h;simp only[dK];by_cases h3:y<x;simp only[h3,decide_true,if_true];refine List.pairwise_cons.2 ⟨λz hz=>?_,D6 x r h2⟩;rcases (rU r).1 hz with rfl|hz;exact h3;exact h1 z hz;simp only[h3,decide_false,Bool.false_eq_true,if_false];by_cases h4:y=x;simp only[h4,decide_true,if_true];exact h4 ▸ h;simp only[h4,decide_false,Bool.false_eq_true,if_false];refine List.pairwise_cons.2 ⟨λz hz=>?_,h⟩;rcases List.mem_cons.1 hz with rfl|hz;omega;have:=h1 z hz;omega
theorem AH:∀(l acc:List Int),Asc acc->Asc (gW acc l)
 |[],acc,h=>h
 |x::r,acc,h=>by simp only[gW,List.foldl_cons];exact AH r _ (D6 x acc h)
theorem s9:∀(l:List aA)(acc:List Int),Asc acc->Asc (bH acc l)
 |[],acc,h=>h
 |p::r,acc,h=>by rw[bH];exact s9 r _ (AH _ _ h)
theorem F2(p:aA):Asc (cA p):=by rw[oK];refine s9 _ _ ?_;split;simp[dK,Asc];simp[Asc]
theorem AI:∀l:List Int,l.Pairwise (· <= ·)->Asc (bW l)
 |[],_=>by simp[bW,Asc]
 |[x],_=>by simp[bW,Asc]
 |x::y::r,h=>by obtain⟨h1,h2⟩:=List.pairwise_cons.1 h;have ih:=AI (y::r) h2;simp only[bW];split;exact ih;rename_i hne;refine List.pairwise_cons.2 ⟨λz hz=>?_,ih⟩;have hz2:=(oN z (y::r)).1 hz;have h3:=h1 y (by simp);rcases List.mem_cons.1 hz2 with rfl|hz3;omega;have:=(List.pairwise_cons.1 h2).1 z hz3;omega
theorem JN:∀(a b:List Int),Asc a->Asc b->(∀x,x∈a↔x∈b)->a=b
 |[],[],_,_,_=>rfl
 |[],y::s,_,_,h=>by have:=(h y).2 (by simp);simp at this
 |x::r,[],_,_,h=>by have:=(h x).1 (by simp);simp at this
 |x::r,y::s,ha,hb,h=>by
  obtain⟨a1,a2⟩:=List.pairwise_cons.1 ha;obtain⟨b1,b2⟩:=List.pairwise_cons.1 hb;have hxy:x=y:=by have p1:=(h x).1 (by simp);have p2:=(h y).2 (by simp);rcases List.mem_cons.1 p1 with e|q1;exact e;rcases List.mem_cons.1 p2 with e|q2;exact e.symm;have:=b1 x q1;have:=a1 y q2;omega
  subst hxy;congr 1;refine JN r s a2 b2 λz=>⟨λhz=>?_,λhz=>?_⟩
  rcases List.mem_cons.1 ((h z).1 (bU _ hz)) with e|q;have:=a1 z hz;omega;exact q;rcases List.mem_cons.1 ((h z).2 (bU _ hz)) with e|q;have:=b1 z hz;omega;exact q
theorem yG(p:aA):iG p=cA p:=by refine JN _ _ (AI _ (kI _)) (F2 p) λx=>?_;rw[iG,oN,uM,rT]
end
section
structure pJ where
 vars:Sl Str
 values:Int
def pJ.av(x:pJ):AV:=.agg [x.vars.av Str.av,aI x.values]
section
variable{pg:Pg}
set_option maxRecDepth 100000 in
theorem c257(hf:pg.fs 257=some zH)(h266:Ret pg 266 [] (.bool true))(p q:aA)(x:pJ)(fp fq b1 b2:Bool)(n1:Int)(l:List Int)(s:List UInt8)
  (a25p:Ret pg 25 [p.av] (.bool fp)) (a25q:Ret pg 25 [q.av] (.bool fq)) (a109:Ret pg 109 [p.av,x.vars.av Str.av,aI x.values] (.bool b1)) (a123:Ret pg 123 [p.av,x.vars.av Str.av,aI x.values] (.bool b1))
  (a105:Ret pg 105 [p.av,q.av] (.bool b2)) (a118:Ret pg 118 [p.av,q.av] (.bool b2)) (a105p:Ret pg 105 [p.av,p.av] (.bool true)) (a146:Ret pg 146 [p.av] (.int .i64 n1)) (a40:Ret pg 40 [p.av] (.int .i64 n1))
  (a48:dY pg 48 [p.av] (mF 1 false (l.map aI))) (a37:dY pg 37 [p.av] (mF 1 false (l.map aI))) (h15:∀nl cl nl' cl',Ret pg 15 [.sl nl (l.map aI) cl,.sl nl' (l.map aI) cl'] (.bool true))
  (a108:Ret pg 108 [aI x.values] (.str s)) (a122:Ret pg 122 [aI x.values] (.str s)):Ret pg 257 [p.av,q.av,x.av] (.bool true):=by
 have tv:treeL [x.vars.av Str.av]=true:=by have:=bA (f:=Str.av) (λ_=>rfl) x.vars.es;simp only[Sl.av,this,go_sem,seval]
 have tp:treeL [p.av]=true:=by simp only[treeL,aA.tree_av,Bool.and_true]
 have tq:treeL [q.av]=true:=by simp only[treeL,aA.tree_av,Bool.and_true]
 obtain⟨p0,p1,p2,p3,p4,p5,p6,p7,p8,hpa⟩:∃p0 p1 p2 p3 p4 p5 p6 p7 p8,p.av = .agg [p0,p1,p2,p3,p4,p5,p6,p7,p8]:=⟨_,_,_,_,_,_,_,_,_,aA.avc p⟩
 obtain⟨q0,q1,q2,q3,q4,q5,q6,q7,q8,hqa⟩:∃p0 p1 p2 p3 p4 p5 p6 p7 p8,q.av = .agg [p0,p1,p2,p3,p4,p5,p6,p7,p8]:=⟨_,_,_,_,_,_,_,_,_,aA.avc q⟩
 rw[hpa]at a25p a109 a123 a105 a118 a105p a146 a40 a48 a37 tp;rw[hqa]at a25q a105 a118 tq;have tpq:treeL [AV.agg [p0,p1,p2,p3,p4,p5,p6,p7,p8],.agg [q0,q1,q2,q3,q4,q5,q6,q7,q8]]=true:=by simp only[treeL,aD]at tp tq ⊢;exact⟨tp.1,tq⟩
 have tpp:treeL [AV.agg [p0,p1,p2,p3,p4,p5,p6,p7,p8],.agg [p0,p1,p2,p3,p4,p5,p6,p7,p8]]=true:=by simp only[treeL,aD]at tp ⊢;exact⟨tp.1,tp⟩
 have tpv:treeL [AV.agg [p0,p1,p2,p3,p4,p5,p6,p7,p8],x.vars.av Str.av,aI x.values]=true:=by simp only[treeL,aD]at tp tv ⊢;exact⟨tp.1,tv.1,rfl,trivial⟩
 simp only[Sl.av]at a109 a123 tpv;refine Ret.ofX hf ?_;unfold zH;simp only[pJ.av,hpa,hqa,Sl.av,aI,go_sem,seval];refine bI h266 rfl rfl ?_;simp only[go_sem,seval];refine bI a25p tp rfl ?_;cases fp
 case false=>simp only[go_sem,seval];refine bI h266 rfl rfl ?_;simp only[go_sem,seval]
 simp only[go_sem,seval];refine bI a25q tq rfl ?_;cases fq
 case false=>simp only[go_sem,seval];refine bI h266 rfl rfl ?_;simp only[go_sem,seval]
 cases hl:decide (10<(x.vars.es.length:Int))
 case true=>simp only[hl,go_sem,seval];refine bI h266 rfl rfl ?_;simp only[go_sem,seval]
 have hbb:(b1==b1)=true:=by simp
 have hbc:(b2==b2)=true:=by simp
 have hn1:decide (n1=n1)=true:=by simp
 have hss:decide (s=s)=true:=by simp
 have tl:∀nl1 cl1 nl2 cl2,treeL [AV.sl nl1 (l.map aI) cl1,.sl nl2 (l.map aI) cl2]=true:=by intro _ _ _ _;have:=bA (f:=aI) (λ_=>rfl) l;simp only[this,go_sem,seval]
 simp only[hl,go_sem,seval];refine bI a109 tpv rfl ?_;simp only[go_sem,seval];refine bI a123 tpv rfl ?_;simp only[hbb,go_sem,seval];refine bI a105 tpq rfl ?_;simp only[go_sem,seval];refine bI a118 tpq rfl ?_;simp only[hbc,go_sem,seval];refine bI a105p tpp rfl ?_;simp only[go_sem,seval];refine bI a146 tp rfl ?_;simp only[go_sem,seval];refine bI a40 tp rfl ?_;simp only[hn1,go_sem,seval];refine tF a48 tp ?_;intro nl1 cl1 _;simp only[go_sem,seval];refine tF a37 tp ?_;intro nl2 cl2 _;simp only[go_sem,seval];refine bI (h15 nl1 cl1 nl2 cl2) (tl _ _ _ _) rfl ?_;simp only[go_sem,seval];refine bI a108 rfl rfl ?_;simp only[go_sem,seval];refine bI a122 rfl rfl ?_;simp only[hss,go_sem,seval];kernel_rfl
end
end
section
section
variable{H:Type}{enc:TypeId×Value->H}{P:Program}{w:World}{num:Nm}{ρ : Rho}{b:DataW H->Nat}{bs:List (DataW H)->Nat}{tI tS tB tCoef tLin tStep tPull sCoef sLin sStep sPull cQ sStr tN:TypeId}
theorem Rd.intW{N:Nat}{t:TypeId}(ht:P.underlying t=some (.int .i64)):Rd enc P w num ρ b N t (λn:Int=>[aI n]) (λn _=>n<=9223372036854775807):=by intro fuel hN cs d ps h _;obtain⟨n,rfl,_,hw⟩:=DataW.trod_int ht h;refine⟨n,.cons (.int _ _) .nil,?_⟩;simp[Lit.wf,IntKind.min,IntKind.max,IntKind.signed,IntKind.bits]at hw;omega
theorem EQ(B:AM b bs)(T:TyP P tI tS tB tCoef tLin tStep tPull sCoef sLin sStep sPull cQ sStr)(hu:∃fs,P.underlying tN=some (.struct fs)/\fs.toList.map (λf=>(f.type,f.offset))=[(sStr,0),(tI,1)])(hc:P.cellsOf tN=2)(N:Nat) :
  Rd enc P w num ρ b N tN (λx:pJ=>[x.vars.av Str.av]++([aI x.values]++[])) (λx n=>x.vars.es.length<=n/\x.values<=9223372036854775807):=by
 intro fuel hN cs d ps h hb;obtain⟨fs,hu,hL⟩:=hu;obtain⟨xs,n,hn,hx,hcl,hl,hf⟩:=iK hu hL h;rw[hc]at hcl;obtain⟨y0,y1,rfl⟩:∃y0 y1,xs=[y0,y1]:=by
  match xs,hl with
  |[y0,y1],_=>exact⟨y0,y1,rfl⟩
 have hx':d = .agg [y0.1,y1.1]:=hx;subst hx';rw[B.agg]at hb ⊢;simp only[B.cons,B.nil]at hb ⊢;have f0:_=some y0:=hf 0 (sStr,0) rfl;have f1:_=some y1:=hf 1 (tI,1) rfl;simp only[T.c_tI,T.c_sStr]at f0 f1;obtain⟨a0,p0,_,ms,m1,m2,m3⟩:=(KF (enc:=enc) (w:=w) (num:=num) (ρ := ρ) B T n) n (Nat.le_refl _) _ y0.1 y0.2 f0 (by omega);obtain⟨a1,p1,g1⟩:=(Rd.intW (enc:=enc) (w:=w) (num:=num) (ρ := ρ) (b:=b) (N:=n) T.uI) n (Nat.le_refl _) _ y1.1 y1.2 f1 (by omega);refine⟨⟨a0,a1⟩,?_,?_,g1⟩;have q:=(p0.piece (p1.piece (aH.done (by omega))))
 rw[List.drop_zero]at q;exact q;have hl:a0.es.length<=ms.sum:=by rw[m1.length];exact j5 m3
 show a0.es.length<=_;omega
end
end
end Go.Tev
section
set_option maxRecDepth 100000
namespace Go.Proofs
open Go.Tev
theorem tyS:TyP Tryz.prog 3 9 4 109 62 112 26 60 22 23 24 36 27 where
 uI:=Tryz.underlying3
 uS:=Tryz.underlying9
 uB:=Tryz.underlying4
 u_tCoef:=⟨_,Tryz.underlying109,by kernel_rfl⟩
 u_tLin:=⟨_,Tryz.underlying62,by kernel_rfl⟩
 u_tStep:=⟨_,Tryz.underlying112,by kernel_rfl⟩
 u_tPull:=⟨_,Tryz.underlying26,by kernel_rfl⟩
 u_sCoef:=Tryz.underlying60
 u_sLin:=Tryz.underlying22
 u_sStep:=Tryz.underlying23
 u_sPull:=Tryz.underlying24
 u_sInt:=Tryz.underlying36
 u_sStr:=Tryz.underlying27
 c_tI:=by kernel_rfl
 c_tS:=by kernel_rfl
 c_tB:=by kernel_rfl
 c_tCoef:=by kernel_rfl
 c_tLin:=by kernel_rfl
 c_tStep:=by kernel_rfl
 c_tPull:=by kernel_rfl
 c_sCoef:=by kernel_rfl
 c_sLin:=by kernel_rfl
 c_sStep:=by kernel_rfl
 c_sPull:=by kernel_rfl
 c_sInt:=by kernel_rfl
 c_sStr:=by kernel_rfl
theorem nQ{ρ : Rho}{W:World}{g:Nat}{v:AV}{cs:Array Value}{T:TypeId}{fr:Nat×Nat}(ht:v.tree=true)(hg:W.heap[g]?=some (.cells cs T fr))(h:aH (Rv nm ρ W noF) v.cells cs.toList) :
  (v.tree=true/\∃c T fr,W.heap[gnum g]?=some (.cells c T fr)/\c.size=v.cells.length)/\Rv nm ρ W noF (.fp v) (.pointer (some ⟨gnum g,0,none⟩)):=by
 have hl:=h.length;have hsz:cs.size=v.cells.length:=by rw[hl];simp
 refine⟨⟨ht,cs,T,fr,hg,hsz⟩,?_⟩;have hlt:g<W.heap.size:=by by_cases hlt:g<W.heap.size;exact hlt;rw[Array.getElem?_eq_none (Nat.le_of_not_lt hlt)]at hg;cases hg
 have hcell:∀n,n<cs.size->W.cell? ⟨g,0+n,none⟩=some (cs[n]?.getD undef):=by intro n hn;simp only[World.cell?,hg,Option.isSome_none,Bool.false_eq_true,if_false,Nat.zero_add];rw[Array.getElem?_eq_getElem hn];rfl
 refine .fp v g 0 (λn=>cs[n]?.getD undef) (λh=>h) hlt (λn hn=>hcell n (by omega)) ?_;intro j x hx;have hj:j<cs.size:=by rw[hsz];exact(List.getElem?_eq_some_iff.1 hx).1
 have h2:=h.get j x (cs[j]'hj) hx (by rw[Array.getElem?_toList,Array.getElem?_eq_getElem hj]);simpa[Array.getElem?_eq_getElem hj] using h2
theorem lZ{P:Program}{W:World}{n:String}{g:Nat}{cs:Array Value}(hg:P.globalNamed n=some g)(h:W.var? P n=some cs):∃T fr,W.heap[g]?=some (.cells cs T fr):=by unfold World.var? at h;rw[hg,Option.bind_some]at h;split at h;rename_i c T fr hh;cases h;exact⟨T,fr,hh⟩;cases h
theorem yU{P:Program}{W:World}{fuel:Nat}{t:TypeId}{cs:List Value}{name:String}{d:DataW Unit}{p:List MemPlace}{ms}(ht:P.underlying t=some (.interface ms))
  (h:DataW.trod (λ_=>()) P W 0 (λ_=>true) false fuel t cs=some (.iface name d,p)):∃u v,cs=[.iface u v]:=by
 cases fuel with
 |zero=>simp[DataW.trod]at h
 |succ fuel=>
  unfold DataW.trod at h;rw[ht]at h;split at h<;>first|(rename_i e;cases e;done)|skip
  all_goals first|(exact⟨_,_,rfl⟩)|(cases h;done)|skip
theorem aAJ{W:World}(m:Int){Tm:TypeId}{frm:Nat×Nat}(hM:W.heap[8]?=some (.cells #[.int .i64 m] Tm frm))(hL:laidMetH Tryz.prog YtdideofckfhnfaaGreatDoor.Rows.pullFormsUptoRow.laid W):fS nm (glS m) gnum (λ_ _=>none) W noF:=by
 have e:(YtdideofckfhnfaaGreatDoor.Rows.pullFormsUptoRow.laid.filter λx=>x.2.handleName?.isSome)=[]:=by kernel_rfl
 have h:laidMet Tryz.prog YtdideofckfhnfaaGreatDoor.Rows.pullFormsUptoRow.laid W:=by unfold laidMetH at hL;rw[e]at hL;exact hL
 obtain⟨ps,hv,_,_⟩:=h;obtain⟨g1,t1,cs1,f1,p1,q1,hg1,ht1,hv1,hd1,hr1,_⟩:=hv;obtain⟨g2,t2,cs2,f2,p2,q2,hg2,ht2,hv2,hd2,hr2,_⟩:=hr1;obtain⟨g3,t3,cs3,f3,p3,q3,hg3,ht3,hv3,hd3,hr3,_⟩:=hr2;obtain⟨g4,t4,cs4,f4,p4,q4,hg4,ht4,hv4,hd4,hr4,_⟩:=hr3;obtain⟨g5,t5,cs5,f5,p5,q5,hg5,ht5,hv5,hd5,hr5,_⟩:=hr4;obtain⟨g6,t6,cs6,f6,p6,q6,hg6,ht6,hv6,hd6,hr6,_⟩:=hr5;obtain⟨g7,t7,cs7,f7,p7,q7,hg7,ht7,hv7,hd7,hr7,_⟩:=hr6;obtain⟨g8,t8,cs8,f8,p8,q8,hg8,ht8,hv8,hd8,hr8,_⟩:=hr7;obtain⟨g9,t9,cs9,f9,p9,q9,hg9,ht9,hv9,hd9,hr9,_⟩:=hr8;clear hr9;obtain⟨T3,fr3,hh3⟩:=lZ hg3 hv3;obtain⟨T5,fr5,hh5⟩:=lZ hg5 hv5;obtain⟨T6,fr6,hh6⟩:=lZ hg6 hv6;obtain rfl:0=g3:=Option.some.inj ((show Tryz.prog.globalNamed _=some 0 by kernel_rfl).symm.trans hg3);obtain rfl:4=g5:=Option.some.inj ((show Tryz.prog.globalNamed _=some 4 by kernel_rfl).symm.trans hg5);obtain rfl:3=g6:=Option.some.inj ((show Tryz.prog.globalNamed _=some 3 by kernel_rfl).symm.trans hg6);obtain rfl:261=t3:=Option.some.inj ((show (Tryz.prog.globals[0]?).map (·.type)=some 261 by kernel_rfl).symm.trans ht3);obtain rfl:213=t5:=Option.some.inj ((show (Tryz.prog.globals[4]?).map (·.type)=some 213 by kernel_rfl).symm.trans ht5);obtain rfl:213=t6:=Option.some.inj ((show (Tryz.prog.globals[3]?).map (·.type)=some 213 by kernel_rfl).symm.trans ht6);have hd3':DataW.trod (λ_=>()) Tryz.prog W 0 (λ_=>true) false f3 261 cs3.toList=some (Lib.tabData .u64 Lib.pow10Tab,p3):=hd3;have hcsP:=Lib.cells_of_tab Tryz.underlying261 Tryz.underlying167 (by kernel_rfl) (by kernel_rfl) hd3';obtain⟨uR,vR,hcR⟩:=yU Tryz.underlying213 hd5;obtain⟨uY,vY,hcY⟩:=yU Tryz.underlying213 hd6;obtain⟨T8,fr8,hh8⟩:=lZ hg8 hv8;obtain rfl:7=g8:=Option.some.inj ((show Tryz.prog.globalNamed _=some 7 by kernel_rfl).symm.trans hg8);obtain rfl:311=t8:=Option.some.inj ((show (Tryz.prog.globals[7]?).map (·.type)=some 311 by kernel_rfl).symm.trans ht8);have hd8':DataW.trod (λ_=>()) Tryz.prog W 0 (λ_=>true) false f8 311 cs8.toList=some (Lib.tabData .u8 s8,p8):=hd8;have hcsA:=Lib.cells_of_tab Tryz.underlying311 Tryz.underlying5 (by kernel_rfl) (by kernel_rfl) hd8';intro g v hg;unfold glS at hg;cases h1:g.beq 3 with
 |true=>rw[h1]at hg;simp only[cond_true,Option.some.injEq]at hg;subst hg;obtain rfl:=Nat.eq_of_beq_eq_true h1;exact nQ (by kernel_rfl) hh6 (by rw[hcY];exact .cons (.ifc _ _ _ (.top _)) .nil)
 |false=>
  cases h2:g.beq 4 with
  |true=>rw[h1,h2]at hg;simp only[cond_true,cond_false,Option.some.injEq]at hg;subst hg;obtain rfl:=Nat.eq_of_beq_eq_true h2;exact nQ (by kernel_rfl) hh5 (by rw[hcR];exact .cons (.ifc _ _ _ (.top _)) .nil)
  |false=>
   cases h3:g.beq 0 with
   |true=>
    rw[h1,h2,h3]at hg;simp only[cond_true,cond_false,Option.some.injEq]at hg;subst hg;obtain rfl:=Nat.eq_of_beq_eq_true h3;refine nQ (by kernel_rfl) hh3 ?_;rw[hcsP];refine aH.mk_get (by simp[AV.cells]) ?_;intro i x y hx hy;simp only[AV.cells,List.getElem?_map]at hx hy;cases hz:Lib.pow10Tab[i]? with
    |none=>rw[hz]at hx;cases hx
    |some z=>rw[hz]at hx hy;cases hx;cases hy;exact .int _ _
   |false=>
    cases h4:g.beq 7 with
    |true=>
     rw[h1,h2,h3,h4]at hg;simp only[cond_true,cond_false,Option.some.injEq]at hg;subst hg;obtain rfl:=Nat.eq_of_beq_eq_true h4;refine nQ (by kernel_rfl) hh8 ?_;rw[hcsA];refine aH.mk_get (by simp[AV.cells]) ?_;intro i x y hx hy;simp only[AV.cells,List.getElem?_map]at hx hy;cases hz:s8[i]? with
     |none=>rw[hz]at hx;cases hx
     |some z=>rw[hz]at hx hy;cases hx;cases hy;exact .int _ _
    |false=>
     cases h5:g.beq 8 with
     |true=>rw[h1,h2,h3,h4,h5]at hg;simp only[cond_true,cond_false,Option.some.injEq]at hg;subst hg;obtain rfl:=Nat.eq_of_beq_eq_true h5;exact nQ rfl hM (.cons (.int _ _) .nil)
     |false=>rw[h1,h2,h3,h4,h5]at hg;cases hg
end Go.Proofs
end
namespace Go.Tev
section
structure CodePf(pg:Pg):Prop where
 f15:pg.fs 15=some xG
 f25:pg.fs 25=some I6
 f26:pg.fs 26=some CQ
 f40:pg.fs 40=some CN
 f41:pg.fs 41=some FO
 f42:pg.fs 42=some CI
 f51:pg.fs 51=some I3
 f54:pg.fs 54=some I2
 f56:pg.fs 56=some zG
 f57:pg.fs 57=some FN
 f67:pg.fs 67=some K2
 f70:pg.fs 70=some I1
 f77:pg.fs 77=some I0
 f87:pg.fs 87=some IZ
 f89:pg.fs 89=some FL
 f90:pg.fs 90=some FK
 f91:pg.fs 91=some BZ
 f95:pg.fs 95=some IX
 f96:pg.fs 96=some FJ
 f98:pg.fs 98=some FI
 f105:pg.fs 105=some z8
 f106:pg.fs 106=some z7
 f107:pg.fs 107=some vM
 f109:pg.fs 109=some zZ
 f111:pg.fs 111=some zY
 f114:pg.fs 114=some vL
 f115:pg.fs 115=some vK
 f118:pg.fs 118=some zX
 f121:pg.fs 121=some zW
 f123:pg.fs 123=some zU
 f124:pg.fs 124=some mM
 f125:pg.fs 125=some zT
 f126:pg.fs 126=some pZ
 f137:pg.fs 137=some vJ
 f138:pg.fs 138=some s6
 f140:pg.fs 140=some zS
 f143:pg.fs 143=some zR
 f144:pg.fs 144=some zQ
 f145:pg.fs 145=some D3
 f146:pg.fs 146=some vI
 f147:pg.fs 147=some zP
 f148:pg.fs 148=some nY
 f161:pg.fs 161=some vH
 f162:pg.fs 162=some vG
 f164:pg.fs 164=some zO
 f175:pg.fs 175=some D1
 f177:pg.fs 177=some sZ
 f179:pg.fs 179=some D0
 f180:pg.fs 180=some zN
 f181:pg.fs 181=some zM
 f182:pg.fs 182=some zL
 f183:pg.fs 183=some I8
 f184:pg.fs 184=some vE
 f191:pg.fs 191=some sY
 f192:pg.fs 192=some zK
 f193:pg.fs 193=some zJ
 f194:pg.fs 194=some sX
 f205:pg.fs 205=some zI
 f206:pg.fs 206=some iM
 f207:pg.fs 207=some vD
 f208:pg.fs 208=some I7
 f209:pg.fs 209=some sW
 f37:pg.fs 37=some I5
 f48:pg.fs 48=some I4
 f55:pg.fs 55=some qG
 f74:pg.fs 74=some FM
 f108:pg.fs 108=some z6
 f122:pg.fs 122=some zV
 f163:pg.fs 163=some vF
 f257:pg.fs 257=some zH
section
variable{pg:Pg}
theorem Z8(C:CodePf pg)(A:Ora pg)(p:aA)(hp:p.ok)(nl cl:Bool)(vars:List Str)(hb:vars.length+p.sz<=big)(v:Int):Ret pg 109 [p.av,.sl nl (vars.map Str.av) cl,.int .i64 v] (.bool (mW p vars v)):=by
 have h57:=c57 A C.f57 C.f91 C.f126;have h51:∀l:Lin,Ret pg 51 [l.av] (.bool (iX l)):=c51 C.f51 C.f89 h57;have h183:∀(nl cl:Bool)(ls:List Lin),ls.length<=big->∀(nl' cl':Bool)(vars:List Str),vars.length<=big->Ret pg 183 [.sl nl (ls.map Lin.av) cl,.sl nl' (vars.map Str.av) cl'] (.bool (dQ ls vars)):=
  λnl cl ls hb nl' cl' vars hb'=>GV (g:=208) C.f183 h51 C.f96 C.f95 C.f137 C.f208 C.f98 C.f138 nl cl ls hb nl' cl' vars hb'
 have h140:∀op,dY pg 140 [.str op] (hZ op):=c140 C.f140 C.f177 C.f107;have h111:=c111 C.f111 C.f148 h140;have h70:∀(nl cl:Bool)(fn:List aE),fn.length<=big->∀n:Int,Ret pg 70 [.sl nl (fn.map aE.av) cl,.int .i64 n] (.bool (cF fn n)):=λnl cl fn hb n=>c70 C.f70 h111 nl cl fn hb n;have h182:∀(p:aA),p.kids.length<=big->∀(nl cl:Bool)(vars:List Str),vars.length<=big->∀v:Int,Ret pg 182 [p.av,.sl nl (vars.map Str.av) cl,.int .i64 v] (.bool (cR p vars v)):=
  λp hp nl cl vars hb v=>c182 h57 C.f182 C.f206 C.f148 C.f207 C.f98 C.f138 h70 h140 p hp nl cl vars hb v
 have h147:∀p:aA,p.ok->∀(nl cl:Bool)(vars:List Str),vars.length+p.sz<=big->∀v:Int,Ret pg 147 [p.av,.sl nl (vars.map Str.av) cl,.int .i64 v] (.bool (eH v p vars)):=
  λp hp nl cl vars hb v=>c147 C.f147 h182 h183 C.f184 C.f209 v p hp nl cl vars hb
 exact c109 C.f109 C.f146 h147 p hp nl cl vars hb v
theorem O8(C:CodePf pg)(p q:aA)(hp:p.ok):Ret pg 105 [p.av,q.av] (.bool (d8 p q)):=by have h180:=c180 C.f180 C.f181;have h179:∀(nl cl nl' cl':Bool)(es es':List aE),es.length<=big->Ret pg 179 [.sl nl (es.map aE.av) cl,.sl nl' (es'.map aE.av) cl',.fn 180 []] (.bool (eqL dJ es es')):=λnl cl nl' cl' es es' hb=>c179 C.f179 h180 nl cl nl' cl' es es' hb;have h144:∀(nl cl nl' cl':Bool)(es es':List aE),es.length<=big->Ret pg 144 [.sl nl (es.map aE.av) cl,.sl nl' (es'.map aE.av) cl'] (.bool (eqL dJ es es')):=λnl cl nl' cl' es es' hb=>c144 C.f144 h179 nl cl nl' cl' es es' hb;have h67a:∀(nl cl nl' cl':Bool)(es es':List Lin),es.length<=big->Ret pg 67 [.sl nl (es.map Lin.av) cl,.sl nl' (es'.map Lin.av) cl',.fn 143 []] (.bool (eqL cS es es')):=λnl cl nl' cl' es es' hb=>c67 C.f67 143 (c143 C.f143 C.f106) nl cl nl' cl' es es' hb;exact c105 C.f105 h67a h144 C.f145 p hp q
theorem Z7(C:CodePf pg)(p q:aA)(hp:p.ok):Ret pg 118 [p.av,q.av] (.bool (d8 p q)):=c118 C.f118 C.f161 C.f15 (c121 C.f121 C.f162 C.f191) p hp q
theorem Z6(C:CodePf pg)(p:aA)(hp:p.ok)(nl cl:Bool)(vars:List Str)(hb:vars.length+p.sz<=big)(v:Int):Ret pg 123 [p.av,.sl nl (vars.map Str.av) cl,.int .i64 v] (.bool (mW p vars v)):=by
 have h77:∀s:Str,Ret pg 77 [.str s.bs] (.bool (fV s.bs)):=λs=>c77 C.f77 C.f114 C.f115 s.bs s.ok;have h54:∀l:Lin,Ret pg 54 [l.av] (.bool (iX l)):=c54 C.f54 h77 C.f90;have h121:=c121 C.f121 C.f162 C.f191;have h118:=c118 C.f118 C.f161 C.f15 h121;have h125:=c125 C.f125;have h87:∀(nl cl:Bool)(fn:List aE),fn.length<=big->∀n:Int,Ret pg 87 [.sl nl (fn.map aE.av) cl,.int .i64 n] (.bool (cF fn n)):=λnl cl fn hb n=>c87 C.f87 C.f124 h125 nl cl fn hb n;have h192:=c192 C.f192 h125;have h193:∀(nl cl:Bool)(ls:List Lin),ls.length<=big->∀(nl' cl':Bool)(vars:List Str),vars.length<=big->Ret pg 193 [.sl nl (ls.map Lin.av) cl,.sl nl' (vars.map Str.av) cl'] (.bool (dQ ls vars)):=
  λnl cl ls hb nl' cl' vars hb'=>c193 C.f193 h54 C.f194 nl cl ls hb nl' cl' vars hb'
 exact c123 C.f123 C.f40 (c164 C.f164 h192 h118 h193 C.f124 h77 C.f194 h87) p hp nl cl vars hb v
theorem YW(C:CodePf pg)(A:Ora pg)(h266:Ret pg 266 [] (.bool true))(p q:aA)(hp:p.ok)(hq:q.ok)(x:pJ)(hb:x.vars.es.length+p.sz<=big)(hv:x.values<=9223372036854775807):Ret pg 257 [p.av,q.av,x.av] (.bool true):=by
 have hsz:p.sz<=big:=by omega
 have h25:∀p:aA,p.ok->Ret pg 25 [p.av] (.bool (HV p)):=c25 C.f25 C.f40 C.f41 C.f42 C.f56 C.f26;have a105:=O8 C p q hp;have a105p:=O8 C p p hp;rw[pP]at a105p;have a37:=c37 C.f37 C.f55 p hp hsz;rw[<-yG]at a37;have hr:(iG p).length<=big:=by rw[yG];have:=kM p;omega
 exact c257 C.f257 h266 p q x _ _ _ _ _ _ _ (h25 p hp) (h25 q hq) (Z8 C A p hp x.vars.nl x.vars.cl x.vars.es hb x.values) (Z6 C p hp x.vars.nl x.vars.cl x.vars.es hb x.values) a105 (Z7 C p q hp) a105p (c146 C.f146 p hp) (c40 C.f40 p hp)
  (c48 (JM A) C.f48 C.f74 p hp hsz) a37 (λnl cl nl' cl'=>c15 C.f15 nl cl _ hr nl' cl' _ rfl) (aBx A C.f108 x.values hv) (aBt C.f122 C.f163 x.values hv)
end
end
end Go.Tev
