import Derived.Test.YtagdhpkdbdilaaaGreatDoorSAI
import Derived.Test.YtagdhpkdbdilaaaGreatDoorSAM
import Derived.Test.YtagdhpkdbdilaaaGreatDoorSBB
import Derived.Test.YtagdhpkdbdilaaaGreatDoorSAY
import Derived.Test.YtagdhpkdbdilaaaGreatDoorSAT
set_option linter.all false
namespace Go.Tev
section
section
variable{pg:Pg}{kb:Nat}
end
section
variable{pg:Pg}
end
end
section
def wfL(x:Loop):Prop:=x.hi.nl=true->x.hi.es=[]
section
variable{pg:Pg}
theorem c783(hf:pg.fs 783=some pO)(nl cl:Bool)(es:List Loop)(hb:es.length<=big)(g:Nat)(cs:List AV)(hcs:treeL cs=true)(p:Loop->Bool)(hp:∀x∈es,Ret pg g (x.av::cs) (.bool (p x))) :
  bZ pg 783 [.sl nl (es.map Loop.av) cl,.fn g cs] (λr=>∃i:Int,r = .int .i64 i/\decide (0<=i)=es.any p):=
 zV (f:=783) (esz:=5) (ag:=true) hf Loop.av Loop.fits_av Loop.tree_av nl cl es hb g cs hcs p hp
theorem c761(hf:pg.fs 761=some rX)(h783:pg.fs 783=some pO)(nl cl:Bool)(es:List Loop)(hb:es.length<=big)(g:Nat)(cs:List AV)(hcs:treeL cs=true)(p:Loop->Bool)(hp:∀x∈es,Ret pg g (x.av::cs) (.bool (p x))) :
  Ret pg 761 [.sl nl (es.map Loop.av) cl,.fn g cs] (.bool (es.any p)):=
 sO (n:=783) hf (by simp only[treeL,sG,sH,hcs,Loop.treeL_av,Bool.and_true]) (c783 h783 nl cl es hb g cs hcs p hp)
theorem c779(hf:pg.fs 779=some rW)(y:Loop)(x:aN):Ret pg 779 [y.av,.fp x.av] (.bool (decide (y.v.bs=x.v.bs))):=by refine Ret.ofX hf ?_;unfold rW;simp only[go_sem,seval]
theorem c778(hf:pg.fs 778=some vH)(h761:pg.fs 761=some rX)(h783:pg.fs 783=some pO)(h779:pg.fs 779=some rW)(nl cl:Bool)(ls:List Loop)(hb:ls.length<=big)(i:Nat)(hi:i<=ls.length)(x:aN) :
  Ret pg 778 [x.av,.fp (.sl nl (ls.map Loop.av) cl),.fp (.int .i64 i)] (.bool ((ls.drop i).any λy=>decide (y.v.bs=x.v.bs))):=by
 refine Ret.ofX hf ?_;unfold vH;have hs:∀h:Hp,jF h 5 true false false [.sl nl (ls.map Loop.av) cl,.int .i64 i]=some (.sl nl ((ls.drop i).map Loop.av) (nl||cl),.pat [] []):=by
  intro h
  have ha:((ls.map Loop.av).all λv=>v.cells.length==5)=true:=by simp only[List.all_map,eJ,Function.comp,Loop.cells_av];intro y _;rfl
  have h1:(0:Int)<=(i:Int)/\(i:Int)<=((ls.map Loop.av).length:Int)/\((ls.map Loop.av).length:Int)<=((ls.map Loop.av).length:Int)/\((ls.map Loop.av).length:Int)<=((ls.map Loop.av).length:Int)/\((ls.map Loop.av).all λv=>v.cells.length==5)=true:=⟨by omega,by simp;omega,by omega,by omega,ha⟩
  simp only[jF,gT,jS,Option.getD_some,Option.getD_none,Bool.false_eq_true,if_false,if_true];rw[if_pos h1];simp[val,List.map_drop,List.take_of_length_le]
 simp only[↓hs,go_sem,seval];have a1:=c761 h761 h783 nl (nl||cl) (ls.drop i) (by simp;omega) 779 [.fp x.av] (by simp only[go_sem,seval]) (λy=>decide (y.v.bs=x.v.bs)) (λy _=>c779 h779 y x);rw[aN.avc]at a1;refine cL a1 (by simp only[depth,lE,fR,l7,go_sem,seval];rfl) (by rfl) ?_;simp only[go_sem,seval]
theorem c780(hf:pg.fs 780=some x6)(h593:pg.fs 593=some vJ)(h607:pg.fs 607=some rY)(h778:pg.fs 778=some vH)(h761:pg.fs 761=some rX)(h783:pg.fs 783=some pO)(h779:pg.fs 779=some rW)
  (nl cl:Bool) (ls:List Loop) (hb:ls.length<=big) (i:Nat) (hi:i<=ls.length) (l:Lin) :
  Ret pg 780 [l.av,.fp (.fn 778 [.fp (.sl nl (ls.map Loop.av) cl),.fp (.int .i64 i)])] (.bool (fZ (ls.drop i) l)):=by
 have a1:=c593 h593 h607 l.ts.nl l.ts.cl l.ts.es l.ts.ok 778 [.fp (.sl nl (ls.map Loop.av) cl),.fp (.int .i64 i)] (by simp only[go_sem,seval]) (λc=>(ls.drop i).any λy=>decide (y.v.bs=c.v.bs)) (λc _=>c778 h778 h761 h783 h779 nl cl ls hb i hi c);refine Ret.ofX hf ?_;unfold x6;refine Wk ?_;refine aG (a1) (Wk ?_);rfl
theorem c306(hf:pg.fs 306=some vL)(nl cl:Bool)(es:List AV)(hel:∀x∈es,El 2 true x)(hb:es.length<=big)(hnl:nl=true->es=[]):bZ pg 306 [.sl nl es cl] (wJ 2 true es):=by refine bZ.ofX hf ?_;unfold vL;refine Wk ?_;cases nl;refine Wk ?_;refine nA (kb:=0) (s:=1) (bytes:=32) (es:=[]) (xs:=es) (Own.nil _ _ _ _ _ _ rfl) (by simp) hel ?_ (by decide) ?_;simp only[List.length_nil,big]at *;omega;intro v' rd pa ho hk hpa;refine Wk ?_;exact ho.conv (by simpa using hel);refine Wk ?_;exact .inl ⟨hnl rfl,true,true,rfl,rfl⟩
set_option maxHeartbeats 1000000 in
theorem c758(hf:pg.fs 758=some DI)(h306:pg.fs 306=some vL)(h175:pg.fs 175=some yC)(h205:pg.fs 205=some vM)(h780:pg.fs 780=some x6)(h593:pg.fs 593=some vJ)(h607:pg.fs 607=some rY)(h778:pg.fs 778=some vH)
  (h761:pg.fs 761=some rX) (h783:pg.fs 783=some pO) (h779:pg.fs 779=some rW) (nl cl:Bool) (ls:List Loop) (hb:ls.length<=big) (hw:∀x∈ls,wfL x/\x.hi.es≠[]/\x.hi.es.length<big) :
  Ret pg 758 [.sl nl (ls.map Loop.av) cl] (.bool (d9 ls)):=by
 refine Ret.ofX hf ?_;unfold DI;refine Wk ?_;refine aY ls (λd r env hp=>env=AP (.pt 1 0 0) (.sl nl (ls.map Loop.av) cl) (.int .i64 ls.length) (.int .i64 d.length)/\hp.get 1=some (0,.blk [.sl nl (ls.map Loop.av) cl] 1 false true false)/\d9 ls=d9 r) ?_ ?_ ?_;exact⟨rfl,rfl,rfl⟩;rintro env hp ⟨rfl,hg,hI⟩;rw[hI];simp only[AO,AP,bA,go_sem,seval];rfl
 ·rintro d x r env hp hes ⟨rfl,hg,hI⟩;obtain⟨hget,e1,e2,ew⟩:=cM hes hb;obtain⟨w1,w2,w3⟩:=hw x (by rw[hes];simp);have hi0:d.length<=ls.length:=by rw[hes];simp
  have hdr:ls.drop d.length=x::r:=by rw[hes];simp
  simp only[AO,AP,hget,e1,e2,go_sem,seval];generalize hH:Hp.put _ 13 (hp.next 13) (Ob.blk [AV.fn 778 [AV.pt 1 0 0,AV.pt 5 (hp.next 5) 0]] 1 false true false)=H0;have k1:H0.get 1=some (0,.blk [.sl nl (ls.map Loop.av) cl] 1 false true false):=by rw[<-hH];simp only[hg,go_sem,seval]
  have k5:H0.get 5=some (hp.next 5,.blk [.int .i64 d.length] 1 false true false):=by rw[<-hH];simp only[go_sem,seval]
  have k9:H0.get 9=some (hp.next 9,.blk [.str x.v.bs,.int .i64 x.lo.c,.sl x.lo.ts.nl (x.lo.ts.es.map aN.av) x.lo.ts.cl,.sl x.hi.nl (x.hi.es.map Lin.av) x.hi.cl,.int .i64 x.step] 5 true true false):=by rw[<-hH];simp only[go_sem,seval]
  have k13:H0.get 13=some (hp.next 13,.blk [.fn 778 [.pt 1 0 0,.pt 5 (hp.next 5) 0]] 1 false true false):=by rw[<-hH];simp only[go_sem,seval]
  clear hH;refine BN (c306 h306 x.hi.nl x.hi.cl _ (El.lins x.hi.es) (by rw[aZ];exact x.hi.ok) (λh=>by rw[w1 h];rfl)) (by simp only[go_sem,seval]) (El.lins x.hi.es) ?_ ?_;intro he;exact absurd (by simpa using he) w2
  ·intro cs hcs hch;simp only[k9,go_sem,seval];have o1:Own (H0.put 17 (H0.next 17) (Ob.blk cs 2 true false false)) 17 2 true (AV.rf 17 (H0.next 17) 0 x.hi.es.length x.hi.es.length) (x.hi.es.map Lin.av):=.inr ⟨_,cs,by rw[aZ],by rw[aI,if_pos rfl],hcs⟩;have hel:∀y∈x.hi.es.map Lin.av++[x.lo.av],El 2 true y:=by intro y hy;rcases i8.1 hy with h|h;exact El.lins _ y h;rw[List.mem_singleton.1 h];exact El.lin _
   refine TT (kb:=0) (s:=21) (k1:=17) o1 (by omega) (El.lins _) (xs:=[x.lo.av]) (by intro y hy;rw[List.mem_singleton.1 hy];exact El.lin _) (by rw[aZ];simp only[big,List.length_singleton]at w3 ⊢;omega) (by decide) ?_ ?_;intro h;cases h
   ·intro _ v' rd pa o hk hpa;have a1:=λnl8 cl8=>c175 h175 h205 nl8 cl8 (x.hi.es++[x.lo]) (by simp only[cA,List.length_singleton];omega) 780 [.fp (.fn 778 [.fp (.sl nl (ls.map Loop.av) cl),.fp (.int .i64 d.length)])] (by simp only[go_sem,seval]) (fZ (ls.drop d.length)) (λl _=>c780 h780 h593 h607 h778 h761 h783 h779 nl cl ls hb d.length hi0 l);simp only[List.map_append,List.map_cons,List.map_nil]at a1;have hc:d9 (x::r)=(!((x.hi.es++[x.lo]).any (fZ (x::r)))&&d9 r):=rfl;rw[hdr]at a1;rcases hpa with ⟨e,ob,rfl,rfl⟩|⟨e0,o0,e,ob,rfl,rfl⟩
    all_goals
     have q1:=(hk 1 (by omega) (by omega)).trans ((by rw[aI,if_neg (by omega)]:_=H0.get 1).trans k1);have q5:=(hk 5 (by omega) (by omega)).trans ((by rw[aI,if_neg (by omega)]:_=H0.get 5).trans k5);have q13:=(hk 13 (by omega) (by omega)).trans ((by rw[aI,if_neg (by omega)]:_=H0.get 13).trans k13);generalize Eff.app (H0.put 17 (H0.next 17) (Ob.blk cs 2 true false false)) _=H2 at o hk q1 q5 q13 ⊢;obtain⟨nl8,cl8,keys,hsn,_⟩:=o.snap hel 62;obtain⟨K,hcl⟩:∃K,Tev.snap 64 H2 (.fn 780 [.pt 13 (hp.next 13) 0])=some (.fn 780 [.fp (.fn 778 [.fp (.sl nl (ls.map Loop.av) cl),.fp (.int .i64 d.length)])],K):=
      ⟨_,by simp only[lE,fR,l7,q1,q5,q13,go_sem,seval];rfl⟩
     refine Wk ?_;refine cL (a1 nl8 cl8) (keys:=keys++(K++[])) (by simp only[depth,mapS,hsn,hcl]) (v:=.bool ((x.hi.es++[x.lo]).any (fZ (x::r)))) (pa:=[]) rfl ?_;cases b1:(x.hi.es++[x.lo]).any (fZ (x::r));refine Wk ?_;refine cC ?_;simp only[ew,q1,go_sem,seval];exact⟨rfl,by rw[hI,hc,b1];rfl⟩;refine Wk ?_;refine cC ?_;rw[hI,hc,b1];rfl
end
end
section
section
variable{pg:Pg}
end
end
end Go.Tev
