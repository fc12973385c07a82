import Derived.Test.YtplehelpidcobaaGreatDoorSAQ
import Derived.Test.YtplehelpidcobaaGreatDoorSAH
import Derived.Test.YtplehelpidcobaaGreatDoorSAN
import Derived.Lib.AtoiAll
set_option linter.all false
section
namespace Go.Tev
def fI:List UInt8:=[105,110,116]
def j0:List UInt8:=[98,111,111,108]
def sA:List UInt8:=[65]
structure sB where
 op:List UInt8
 params:List (List UInt8)
 result:List UInt8
def jG:List sB:=[
 ⟨[97,100,100],[fI,fI],fI⟩,⟨[115,117,98],[fI,fI],fI⟩,⟨[109,117,108],[fI,fI],fI⟩,⟨[100,105,118],[fI,fI],fI⟩,⟨[109,111,100],[fI,fI],fI⟩,
 ⟨[109,105,110],[fI,fI],fI⟩,⟨[109,97,120],[fI,fI],fI⟩,⟨[110,101,103],[fI],fI⟩,⟨[97,98,115],[fI],fI⟩,⟨[115,105,103,110],[fI],fI⟩,
 ⟨[108,116],[fI,fI],j0⟩,⟨[108,101],[fI,fI],j0⟩,⟨[103,116],[fI,fI],j0⟩,⟨[103,101],[fI,fI],j0⟩,⟨[101,113],[sA,sA],j0⟩,⟨[110,101],[sA,sA],j0⟩,
 ⟨[97,110,100],[j0,j0],j0⟩,⟨[111,114],[j0,j0],j0⟩,⟨[120,111,114],[j0,j0],j0⟩,⟨[110,111,116],[j0],j0⟩,
 ⟨[115,101,108,101,99,116],[j0,sA,sA],sA⟩,⟨[116,111,105,110,116],[j0],fI⟩]
def sB.cells(r:sB):List AV:=[.str r.op,.sl false (r.params.map .str) true,.str r.result]
def MI:AV:=.agg (jG.flatMap sB.cells)
def iI(op:List UInt8):Option sB:=jG.find? fun r=>decide (r.op=op)
section
variable{pg:Pg}
theorem c107(hf:pg.fs 107=some cf107)(nl cl:Bool)(es:List AV)(hel:∀x∈es,El 1 false x)(hb:es.length<=big)(hnl:nl=true->es=[]):bJ pg 107 [.sl nl es cl] (kO 1 false es):=by
 refine bJ.ofX hf ?_
 unfold cf107
 simp only[go_sem,seval]
 cases nl
 ·simp only[go_sem,seval]
  refine fV (kb:=0) (s:=1) (bytes:=16) (es:=[]) (xs:=es) (Own.nil _ _ _ _ _ _ rfl) (by simp) hel ?_ (by decide) ?_
  ·simp only[List.length_nil,big]at *;omega
  ·intro v' rd pa ho hk hpa
   simp only[go_sem,seval]
   exact ho.conv (by simpa using hel)
 ·simp only[go_sem,seval]
  exact .inl ⟨hnl rfl,true,true,rfl,rfl⟩
theorem c177(hf:pg.fs 177=some cf177):Ret pg 177 [] MI:=
 Ret.closed (.n 177 cf177 .e .e) (by intro f cf h;have:=BT.All.find (p:=fun f cf=>pg.fs f=some cf) (t:=.n 177 cf177 .e .e) ⟨hf,trivial,trivial⟩ h;exact this) 2 (by kernel_rfl)
theorem R6(d:List sB)(x:sB)(r:List sB):fR ((d++x::r).flatMap sB.cells) (d.length*3) 3 true=some (.agg x.cells):=by
 have hl:∀l:List sB,(l.flatMap sB.cells).length=l.length*3:=by
  intro l
  induction l with
  |nil=>rfl
  |cons y s ih=>simp[sB.cells,ih];omega
 rw[BH,if_pos (by rw[hl];simp;omega)]
 rw[List.flatMap_append,List.drop_append_of_le_length (by rw[hl];omega),List.drop_eq_nil_of_le (by rw[hl];omega),List.nil_append]
 rw[List.flatMap_cons]
 have:x.cells.length=3:=rfl
 rw[<-this,List.take_left]
def iQ(op:List UInt8)(r:AV):Prop:=
 match iI op with
 |none=>r = .tup [.sl true [] true,.str [],.bool false]
 |some p=>∃nl cl,r = .tup [.sl nl (p.params.map .str) cl,.str p.result,.bool true]
theorem c140(hf:pg.fs 140=some cf140)(h177:pg.fs 177=some cf177)(h107:pg.fs 107=some cf107)(op:List UInt8):bJ pg 140 [.str op] (iQ op):=by
 refine bJ.ofX hf ?_
 unfold cf140
 simp only[go_sem,seval]
 refine aB (c177 h177) (by simp only[go_sem,seval]) rfl ?_
 simp only[go_sem,seval]
 have h22:(22:Int)=jG.length:=rfl
 refine dS jG (fun d e=>eK e (some 8) (.int .i64 d.length)) (fun d r hp=>iI op=r.find? fun x=>decide (x.op=op)) rfl ?_ ?_ ?_
 ·rfl
 ·intro hp hI
  simp only[cf140L0,cf140M0,<-h22,go_sem,seval]
  simp[iQ,hI]
 ·intro d x r hp hes hI
  have hlt:decide ((d.length:Int)<22)=true:=by rw[h22,hes];exact RP d x r
  have hlt':((d.length:Int)<22)=True:=by simpa using hlt
  have hpa:fR (jG.flatMap sB.cells) (d.length*3) 3 true=some (.agg x.cells):=by rw[hes];exact R6 d x r
  have hb:(d++x::r).length<=big:=by rw[<-hes];decide
  have hlt'':((d.length:Int)<((22:Nat):Int))=True:=by simpa using hlt
  simp only[cf140L0,cf140M0,MI,hlt,hlt',hlt'',hpa,sB.cells,go_sem,seval]
  cases hx:decide (x.op=op)
  ·simp only[aM hb,go_sem,seval]
   simpa[List.find?_cons,hx] using hI
  ·simp only[go_sem,seval]
   have hel:∀y∈x.params.map AV.str,El 1 false y:=by
    intro y hy
    simp only[List.mem_map]at hy
    obtain⟨z,_,rfl⟩:=hy
    exact El.str z
   have hI':iI op=some x:=by simpa[List.find?_cons,hx] using hI
   refine xO (c107 h107 false true (x.params.map .str) hel ?_ (by simp)) ?_ hel ?_ ?_
   ·have:∀y∈jG,y.params.length<=big:=by decide
    simpa using this x (by rw[hes];simp)
   ·simp only[treeL,mB,Bool.and_true]
    exact bK (f:=AV.str) (fun _=>rfl) x.params
   ·intro hnil nl cl _
    simp only[go_sem,seval]
    refine And.intro (by kernel_rfl) ?_
    simp only[iQ,hI']
    exact⟨nl,cl,by rw[hnil]⟩
   ·intro cs hcs hch
    simp only[go_sem,seval]
    refine And.intro (by kernel_rfl) ?_
    have htr:treeL (x.params.map AV.str)=true:=bK (f:=AV.str) (fun _=>rfl) x.params
    have hms:∀h,cG (snap 62 h) (x.params.map AV.str)=some (x.params.map AV.str,[]):=fun h=>d8 61 h htr
    have hch':l9 1 false x.params.length cs=some (x.params.map AV.str):=by simpa using hch
    simp only[hms,hch',iQ,hI',conv,depth,eD,bW,bB,go_sem,seval]
    exact⟨false,_,rfl⟩
def lL(n:Int):Bool:=decide (-2147483648<=n)&&decide (n<=2147483647)
def pV(n:Int):Bool:=decide (n=0)||decide (n=1)
theorem RR(hf:pg.fs 148=some cf148)(n:Int):Ret pg 148 [.str [105,110,116],.int .i64 n] (.bool (lL n)):=by
 refine Ret.ofX hf ?_
 unfold cf148
 repeat' (first|simp only[*,go_sem,seval]|refine aN (fun _=>?_) (fun _=>?_)|refine aO (fun _=>?_) (fun _=>?_)|refine And.intro (by kernel_rfl) ?_)
 all_goals simp[lL, *]
theorem WV(hf:pg.fs 148=some cf148)(n:Int):Ret pg 148 [.str [98,111,111,108],.int .i64 n] (.bool (pV n)):=by
 refine Ret.ofX hf ?_
 unfold cf148
 simp only[go_sem,seval]
 simp only[show decide (([98,111,111,108]:List UInt8)=[105,110,116])=false by decide]
 repeat' (first|simp only[*,go_sem,seval]|refine aN (fun _=>?_) (fun _=>?_)|refine aO (fun _=>?_) (fun _=>?_)|refine And.intro (by kernel_rfl) ?_)
 all_goals simp[pV, *]
def iE(l:List Int)(n:Int):Bool:=l.all fun a=>decide (0<=a)&&decide (a<n)
def iB(s:aJ)(n:Int):Bool:=
 if s.op.bs=[99,111,110,115,116] then decide ((s.args.es.length:Int)=0)&&lL s.num
 else if s.op.bs=[116,114,117,116,104] then decide ((s.args.es.length:Int)=0)&&pV s.num
 else match iI s.op.bs with
  |none=>false
  |some p=>iE s.args.es n&&decide (s.num=0)&&decide ((s.args.es.length:Int)=(p.params.length:Int))
theorem c111(hf:pg.fs 111=some cf111)(h148:pg.fs 148=some cf148)(h140:∀op,bJ pg 140 [.str op] (iQ op))(s:aJ)(n:Int):Ret pg 111 [s.av,.int .i64 n] (.bool (iB s n)):=by
 refine Ret.ofX hf ?_
 have hb:=s.args.ok
 unfold cf111
 simp only[go_sem,seval]
 cases h1:decide (s.op.bs=[99,111,110,115,116])
 case true=>
  simp only[go_sem,seval]
  cases h2:decide ((s.args.es.length:Int)=0)
  ·simp only[h2,go_sem,seval]
   simp at h1 h2
   simp[iB,h1,h2]
  ·simp only[h2,go_sem,seval]
   refine aB (RR h148 s.num) (by simp only[go_sem,seval]) rfl ?_
   simp only[go_sem,seval]
   simp at h1 h2
   simp[iB,h1,h2]
 simp only[go_sem,seval]
 cases h3:decide (s.op.bs=[116,114,117,116,104])
 case true=>
  simp only[go_sem,seval]
  cases h2:decide ((s.args.es.length:Int)=0)
  ·simp only[h2,go_sem,seval]
   simp at h1 h2 h3
   simp[iB,h1,h2,h3]
  ·simp only[h2,go_sem,seval]
   refine aB (WV h148 s.num) (by simp only[go_sem,seval]) rfl ?_
   simp only[go_sem,seval]
   simp at h1 h2 h3
   simp[iB,h1,h2,h3]
 simp only[go_sem,seval]
 obtain⟨r,hr,hP⟩:=h140 s.op.bs
 have hspec:iB s n=match iI s.op.bs with
  |none=>false
  |some p=>iE s.args.es n&&decide (s.num=0)&&decide ((s.args.es.length:Int)=(p.params.length:Int)):=by
  simp at h1 h3
  simp[iB,h1,h3]
 generalize iB s n=res at hspec ⊢
 obtain⟨nl,cl,ps,rs,ok,rfl,hres⟩:∃nl cl,∃ps:List (List UInt8),∃rs ok,r = .tup [.sl nl (ps.map .str) cl,.str rs,.bool ok]/\res=(ok&&iE s.args.es n&&decide (s.num=0)&&decide ((s.args.es.length:Int)=(ps.length:Int))):=by
  unfold iQ at hP
  cases hp:iI s.op.bs with
  |none=>
   rw[hp]at hP hspec
   exact⟨_,_,[],_,_,hP,by simp[hspec]⟩
  |some p=>
   rw[hp]at hP hspec
   obtain⟨nl,cl,hP⟩:=hP
   exact⟨_,_,p.params,_,_,hP,by simp[hspec]⟩
 refine aB hr (by simp only[go_sem,seval]) rfl ?_
 simp only[go_sem,seval]
 refine dS s.args.es (fun d e=>eK (eK e (some 44) (.int .i64 d.length)) (some 7) (.bool (ok&&iE d n))) (fun d r hp=>(∃fz,hp.get 1=some (0,.blk [.str s.op.bs,.int .i64 s.num,.sl s.args.nl (s.args.es.map aG) s.args.cl] 3 true true fz)))
  (by have h0:(ok&&iE [] n)=ok:=by simp[iE]
      rw[h0];rfl) ?_ ?_ ?_
 ·exact⟨_,rfl⟩
 ·rintro hp ⟨fz,h1⟩
  simp only[cf111L0,cf111M0,go_sem,seval]
  cases h4:ok&&iE s.args.es n
  ·simp only[h4,h1,go_sem,seval]
   simp[hres,h4]
  cases h5:decide (s.num=0)
  ·simp only[h1,h5,go_sem,seval]
   simp[hres,h4,h5]
  simp only[h1,h5,go_sem,seval]
  simp[hres,h4,h5]
 ·rintro d x r hp hes ⟨fz,h1⟩
  rw[hes]at hb h1 ⊢
  have hx:(ok&&iE (d++[x]) n)=((ok&&iE d n)&&(decide (0<=x)&&decide (x<n))):=by simp[iE,Bool.and_assoc]
  rw[hx]
  cases hA:(ok&&iE d n)<;>cases hB:decide (0<=x)<;>cases hC:decide (x<n)
  all_goals simp only[cf111L0,cf111M0,hA,hB,hC,aM hb,go_sem,seval]
  all_goals exact⟨fz,h1⟩
end
end Go.Tev
end
section
namespace Go.Tev
structure LT(pg:Pg):Prop where
 name:∀s:Str,Ret pg 57 [.str s.bs] (.bool (fT s.bs))
 trim:∀s:List UInt8,s.length<=big->∃t,Ret pg 94 [.str s,.str [48,49,50,51,52,53,54,55,56,57]] (.str t)/\decide (t=[])=s.all bA
 loop:∀i:Nat,i<10->Ret pg 108 [.int .i64 i] (.str (rA i))
def xC(s:List UInt8):Bool:=
 match s with
 | c::d::t=>(decide ((c.toNat:Int)=105)||decide ((c.toNat:Int)=106))&&(d::t).all bA
 |_=>false
def lI(s:bI):Bool:=(decide (s.row.bs=[])||fT s.row.bs)&&decide ((s.dims.es.length:Int)<=6)&&s.dims.es.all d9
def p9(t:Typ):Bool:=(decide (t.elem.bs=[105,110,116])||decide (t.elem.bs=[98,111,111,108])||fK t.elem.bs)&&lI t.shape
def fB(t:Typ)(vars:List Str):Bool:=p9 t && !fK t.elem.bs&&decide (t.shape.row.bs=[])&&bX t.shape.dims.es vars
def kV(p:List Str):List Str->Bool
 |[]=>true
 |x::r=>fT x.bs && !xC x.bs&&(match p.getLast? with|none=>true|some q=>Op.bytesLess q.bs x.bs)&&kV (p++[x]) r
section
variable{pg:Pg}
theorem c101(B:LT pg)(hf:pg.fs 101=some cf101)(s:Str):Ret pg 101 [.str s.bs] (.bool (fK s.bs)):=by
 obtain⟨s,hb⟩:=s
 refine Ret.ofX hf ?_
 unfold cf101
 cases s with
 |nil=>
  repeat' (first|simp only[*,go_sem,seval]|refine aN (fun _=>?_) (fun _=>?_)|refine aO (fun _=>?_) (fun _=>?_)|refine And.intro (by kernel_rfl) ?_)
  all_goals simp_all [fK]
 |cons c t=>
  obtain⟨u,hu,hd⟩:=B.trim t (by simp[big]at hb ⊢;omega)
  have hl:¬((↑(t.length+1):Int)<1):=by omega
  repeat' (first|simp only[*,go_sem,seval]|refine aN (fun _=>?_) (fun _=>?_)|refine aO (fun _=>?_) (fun _=>?_)|(refine aB hu (by simp only[go_sem,seval]) rfl ?_)|refine And.intro (by kernel_rfl) ?_)
  all_goals (simp_all [fK])
  all_goals (try omega)
theorem c58(B:LT pg)(hf:pg.fs 58=some cf58)(s:Str):Ret pg 58 [.str s.bs] (.bool (xC s.bs)):=by
 obtain⟨s,hb⟩:=s
 refine Ret.ofX hf ?_
 unfold cf58
 match s,hb with
 |[],hb=>
  repeat' (first|simp only[*,go_sem,seval]|refine aN (fun _=>?_) (fun _=>?_)|refine aO (fun _=>?_) (fun _=>?_)|refine And.intro (by kernel_rfl) ?_)
  all_goals simp_all [xC]
 |[c],hb=>
  repeat' (first|simp only[*,go_sem,seval]|refine aN (fun _=>?_) (fun _=>?_)|refine aO (fun _=>?_) (fun _=>?_)|refine And.intro (by kernel_rfl) ?_)
  all_goals simp_all [xC]
 |c::d::t,hb=>
  obtain⟨u,hu,hd⟩:=B.trim (d::t) (by simp[big]at hb ⊢;omega)
  have hl:decide ((1:Int) < ↑(t.length+1+1))=true:=by simp;omega
  repeat' (first|simp only[*,go_sem,seval]|refine aN (fun _=>?_) (fun _=>?_)|refine aO (fun _=>?_) (fun _=>?_)|(refine aB hu (by simp only[go_sem,seval]) rfl ?_)|refine And.intro (by kernel_rfl) ?_)
  all_goals (simp_all [xC])
  all_goals (try omega)
theorem c176(hf:pg.fs 176=some cf176)(h51:∀l:Lin,Ret pg 51 [l.av] (.bool (d9 l)))(l:Lin):Ret pg 176 [l.av] (.bool (!d9 l)):=by
 refine Ret.ofX hf ?_
 unfold cf176
 repeat' (first|simp only[*,go_sem,seval]|refine aN (fun _=>?_) (fun _=>?_)|refine aO (fun _=>?_) (fun _=>?_)|(refine aB (h51 l) (by simp only[go_sem,seval]) rfl ?_)|refine And.intro (by kernel_rfl) ?_)
theorem c205(hf:pg.fs 205=some cf205)(nl cl:Bool)(es:List Lin)(hb:es.length<=big)(g:Nat)(cs:List AV)(hcs:treeL cs=true)(p:Lin->Bool)(hp:∀x∈es,Ret pg g (x.av::cs) (.bool (p x))) :
  bJ pg 205 [.sl nl (es.map Lin.av) cl,.fn g cs] (fun r=>∃i:Int,r = .int .i64 i/\decide (0<=i)=es.any p):=
 rV (f:=205) (esz:=2) (ag:=true) hf Lin.av (fun _=>by simp only[go_sem,seval]) (fun _=>by simp only[go_sem,seval]) nl cl es hb g cs hcs p hp
theorem c175(hf:pg.fs 175=some cf175)(h205:pg.fs 205=some cf205)(nl cl:Bool)(es:List Lin)(hb:es.length<=big)(g:Nat)(cs:List AV)(hcs:treeL cs=true)(p:Lin->Bool)(hp:∀x∈es,Ret pg g (x.av::cs) (.bool (p x))) :
  Ret pg 175 [.sl nl (es.map Lin.av) cl,.fn g cs] (.bool (es.any p)):=
 mE (n:=205) hf (by simp only[treeL,mB,pB,hcs,Lin.treeL_av,Bool.and_true]) (c205 h205 nl cl es hb g cs hcs p hp)
theorem c139(B:LT pg)(hf:pg.fs 139=some cf139)(h175:pg.fs 175=some cf175)(h205:pg.fs 205=some cf205)(h176:pg.fs 176=some cf176)(h51:∀l:Lin,Ret pg 51 [l.av] (.bool (d9 l)))(s:bI) :
  Ret pg 139 [s.av] (.bool (lI s)):=by
 refine Ret.ofX hf ?_
 have hc:=c175 h175 h205 s.dims.nl s.dims.cl s.dims.es s.dims.ok 176 [] rfl (fun l => !d9 l) (fun l _=>c176 h176 h51 l)
 unfold cf139
 repeat' (first|simp only[*,go_sem,seval]|refine aN (fun _=>?_) (fun _=>?_)|refine aO (fun _=>?_) (fun _=>?_)|(refine aB (B.name s.row) (by simp only[go_sem,seval]) rfl ?_)|(refine aB hc (by simp only[go_sem,seval]) rfl ?_)|refine And.intro (by kernel_rfl) ?_)
 all_goals (have hany:(s.dims.es.any fun l => !d9 l) = !(s.dims.es.all d9):=by rw[List.not_all_eq_any_not])
 all_goals (simp_all [lI])
 all_goals (intro h;exfalso;omega)
theorem c100(hf:pg.fs 100=some cf100)(h101:∀s:Str,Ret pg 101 [.str s.bs] (.bool (fK s.bs)))(h139:∀s:bI,Ret pg 139 [s.av] (.bool (lI s)))(t:Typ):Ret pg 100 [t.av] (.bool (p9 t)):=by
 refine Ret.ofX hf ?_
 unfold cf100
 repeat' (first|simp only[*,go_sem,seval]|refine aN (fun _=>?_) (fun _=>?_)|refine aO (fun _=>?_) (fun _=>?_)|(refine aB (h101 t.elem) (by simp only[go_sem,seval]) rfl ?_)|(refine aB (h139 t.shape) (by simp only[go_sem,seval]) rfl ?_)|refine And.intro (by kernel_rfl) ?_)
 all_goals (simp_all [p9])
theorem c62(hf:pg.fs 62=some cf62)(h100:∀t:Typ,Ret pg 100 [t.av] (.bool (p9 t)))(h101:∀s:Str,Ret pg 101 [.str s.bs] (.bool (fK s.bs)))
  (h59:∀(nl cl:Bool)(ls:List Lin),ls.length<=big->∀(nl' cl':Bool)(vars:List Str),vars.length<=big->Ret pg 59 [.sl nl (ls.map Lin.av) cl,.sl nl' (vars.map Str.av) cl'] (.bool (bX ls vars)))
  (t:Typ) (nl cl:Bool) (vars:List Str) (hb:vars.length<=big):Ret pg 62 [t.av,.sl nl (vars.map Str.av) cl] (.bool (fB t vars)):=by
 refine Ret.ofX hf ?_
 unfold cf62
 repeat' (first|simp only[*,go_sem,seval]|refine aN (fun _=>?_) (fun _=>?_)|refine aO (fun _=>?_) (fun _=>?_)|(refine aB (h100 t) (by simp only[go_sem,seval]) rfl ?_)|(refine aB (h101 t.elem) (by simp only[go_sem,seval]) rfl ?_)|(refine aB (h59 _ _ t.shape.dims.es t.shape.dims.ok nl cl vars hb) (by simp only[go_sem,seval]) rfl ?_)|refine And.intro (by kernel_rfl) ?_)
 all_goals (simp_all [fB])
theorem c61(hf:pg.fs 61=some cf61)(h62:∀(t:Typ) (nl cl:Bool) (vars:List Str),vars.length<=big->Ret pg 62 [t.av,.sl nl (vars.map Str.av) cl] (.bool (fB t vars)))(t:Typ)(k:aA) :
  Ret pg 61 [t.av,.fp k.av] (.bool (!fB t k.vars.es)):=by
 refine Ret.ofX hf ?_
 unfold cf61
 repeat' (first|simp only[*,go_sem,seval]|refine aN (fun _=>?_) (fun _=>?_)|refine aO (fun _=>?_) (fun _=>?_)|(refine aB (h62 t _ _ k.vars.es k.vars.ok) (by simp only[go_sem,seval]) rfl ?_)|refine And.intro (by kernel_rfl) ?_)
theorem c99(hf:pg.fs 99=some cf99)(nl cl:Bool)(es:List Typ)(hb:es.length<=big)(g:Nat)(cs:List AV)(hcs:treeL cs=true)(p:Typ->Bool)(hp:∀x∈es,Ret pg g (x.av::cs) (.bool (p x))) :
  bJ pg 99 [.sl nl (es.map Typ.av) cl,.fn g cs] (fun r=>∃i:Int,r = .int .i64 i/\decide (0<=i)=es.any p):=
 rV (f:=99) (esz:=3) (ag:=true) hf Typ.av (fun _=>by simp only[go_sem,seval]) (fun _=>by simp only[go_sem,seval]) nl cl es hb g cs hcs p hp
theorem c60(hf:pg.fs 60=some cf60)(h99:pg.fs 99=some cf99)(nl cl:Bool)(es:List Typ)(hb:es.length<=big)(g:Nat)(cs:List AV)(hcs:treeL cs=true)(p:Typ->Bool)(hp:∀x∈es,Ret pg g (x.av::cs) (.bool (p x))) :
  Ret pg 60 [.sl nl (es.map Typ.av) cl,.fn g cs] (.bool (es.any p)):=
 mE (n:=99) hf (by simp only[treeL,mB,pB,hcs,Typ.treeL_av,Bool.and_true]) (c99 h99 nl cl es hb g cs hcs p hp)
def aZ(k:aA):Bool:=
 kV [] k.vars.es&&(decide ((k.vars.es.length:Int)<=12)&&bX k.wher.es k.vars.es&&decide (0<=k.inputs)&&decide (k.inputs<=8)&&decide (k.inputs<=k.values.es.length)&&decide ((k.values.es.length:Int)<=k.inputs+400) &&
  decide ((k.list.es.length:Int)<=400)&&k.values.es.all fun t=>fB t k.vars.es)
theorem c43(B:LT pg)(hf:pg.fs 43=some cf43)(h58:∀s:Str,Ret pg 58 [.str s.bs] (.bool (xC s.bs)))
  (h59:∀(nl cl:Bool)(ls:List Lin),ls.length<=big->∀(nl' cl':Bool)(vars:List Str),vars.length<=big->Ret pg 59 [.sl nl (ls.map Lin.av) cl,.sl nl' (vars.map Str.av) cl'] (.bool (bX ls vars)))
  (h60:pg.fs 60=some cf60) (h99:pg.fs 99=some cf99) (h61:∀(t:Typ)(k:aA),Ret pg 61 [t.av,.fp k.av] (.bool (!fB t k.vars.es))) (k:aA):Ret pg 43 [k.av] (.bool (aZ k)):=by
 have hb:=k.vars.ok
 have hbl:=k.values.ok
 have hall:=c60 h60 h99 k.values.nl k.values.cl k.values.es k.values.ok 61 [.fp k.av] (by simp only[go_sem,seval]) (fun t => !fB t k.vars.es) (fun t _=>h61 t k)
 have hov:=h59 k.wher.nl k.wher.cl k.wher.es k.wher.ok k.vars.nl k.vars.cl k.vars.es k.vars.ok
 refine Ret.ofX hf ?_
 unfold cf43
 simp only[go_sem,seval]
 refine dS k.vars.es (fun d e=>eK e (some 8) (.int .i64 d.length)) (fun d r hp=>(hp.get 1=some (0,.blk k.cells 6 true true false))/\kV [] k.vars.es=kV d r) rfl ?_ ?_ ?_
 ·exact⟨rfl,rfl⟩
 ·rintro hp ⟨h1,hI⟩
  simp only[kV]at hI
  simp only[aA.cells,Sl.av]at h1
  have hinp:decide (8<k.inputs)=false->decide (k.inputs<0)=false->wr .i64 (k.inputs+400)=k.inputs+400:=by
   intro a b
   simp at a b
   exact aV (by omega) (by omega)
  have hany:(k.values.es.any fun t => !fB t k.vars.es) = !(k.values.es.all fun t=>fB t k.vars.es):=by rw[List.not_all_eq_any_not]
  have hov':=hov
  simp only[cf43L0,cf43M0]
  clear h59 h60 h99 h61 h58
  repeat' (first|simp only[*,go_sem,seval]|refine aN (fun _=>?_) (fun _=>?_)|refine aO (fun _=>?_) (fun _=>?_)|(refine aB hov' (by simp only[go_sem,seval]) rfl ?_)|(refine bQ (hall) (by simp only[ h1,depth,bW,bB,eD,go_sem,seval];rfl) (by first|rfl|simp only[fP]) ?_)|refine And.intro (by kernel_rfl) ?_)
  all_goals (clear hall hov hov' hf B)
  all_goals (simp only[decide_eq_true_eq,decide_eq_false_iff_not]at *)
  all_goals (clear h1 hp hb hbl)
  all_goals (try rw[hany])
  all_goals (clear hany hinp)
  all_goals (simp only[aZ,hI,Bool.true_and])
  all_goals (simp_all)
  all_goals (try omega)
 ·rintro d x r hp hes ⟨h1,hI⟩
  have h0:=h1
  rw[hes]at hb hI
  rw[hes]
  simp only[kV]at hI
  simp only[aA.cells,Sl.av]at h1
  rw[hes]at h1
  simp only[cf43L0,cf43M0,h1,go_sem,seval]
  refine aB (B.name x) (by simp only[go_sem,seval]) rfl ?_
  simp only[go_sem,seval]
  cases hn:fT x.bs
  ·simp only[go_sem,seval]
   simp[aZ,hes,hI,hn]
  simp only[go_sem,seval]
  refine aB (h58 x) (by simp only[go_sem,seval]) rfl ?_
  simp only[go_sem,seval]
  cases hr:xC x.bs
  case true=>
   simp only[go_sem,seval]
   simp[aZ,hes,hI,hr]
  simp only[go_sem,seval]
  cases hd:decide (0<(d.length:Int))
  ·simp only[hd,aM hb,go_sem,seval]
   have:d=[]:=by cases d<;>simp_all<;>omega
   subst this
   exact⟨h0,by simpa[hn,hr] using hI⟩
  ·obtain⟨d',y,rfl⟩:∃d' y,d=d'++[y]:=by
    rcases List.eq_nil_or_concat d with rfl|⟨d',y,h⟩
    ·simp at hd
    ·exact⟨d',y,by simpa using h⟩
   have hw:wr .i64 (((d'++[y]).length:Int)-1)=(d'.length:Int):=by
    simp only[List.length_append,List.length_cons,List.length_nil,big]at *
    rw[aV (by omega) (by omega)];omega
   have hy:(d'++[y]++x::r)[d'.length]?=some y:=by simp
   simp only[hd,h1,hw,hy,go_sem,seval]
   cases hl:Op.bytesLess y.bs x.bs
   ·simp only[go_sem,seval]
    have:kV [] k.vars.es=false:=by rw[hes,hI];simp[hl]
    simp[aZ,this]
   ·simp only[aM hb,go_sem,seval]
    exact⟨h0,by simpa[hn,hr,hl] using hI⟩
end
end Go.Tev
end
section
namespace Go.Tev
def eS(n:Int):List aJ->Bool
 |[]=>true
 |s::r=>iB s n&&eS (n+1) r
def cR(fn:List aJ)(n:Int):Bool:=decide (0<=n)&&decide (n<=20)&&decide ((fn.length:Int)<=60) && !decide (n+fn.length=0)&&eS n fn
def eB(p:aC)(a b c d e f:Bool):Bool:=
 (a||decide (p.num=0))&&(b||decide (p.value=0))&&(c||decide (p.name.bs=[]))&&(d||decide ((p.at_.es.length:Int)=0))&&(e || !p.dyn&&decide (p.check=0))&&(f||decide ((p.fn.es.length:Int)=0))
def sW(p:aC)(values:Int):Bool:=
 eB p false true false true true false&&decide (0<=p.value)&&decide (p.value<values)&&decide (0<=p.check) &&
  (if p.dyn then decide ((p.at_.es.length:Int)<=5)&&decide ((p.kids.length:Int)=1) else decide ((p.at_.es.length:Int)<=6)&&decide ((p.kids.length:Int)=0)&&decide (p.check=0))
section
variable{pg:Pg}
theorem c70(hf:pg.fs 70=some cf70)(h111:∀(s:aJ) (n:Int),Ret pg 111 [s.av,.int .i64 n] (.bool (iB s n)))(nl cl:Bool)(fn:List aJ)(hb:fn.length<=big)(n:Int) :
  Ret pg 70 [.sl nl (fn.map aJ.av) cl,.int .i64 n] (.bool (cR fn n)):=by
 refine Ret.ofX hf ?_
 unfold cf70
 simp only[go_sem,seval]
 cases h1:decide (n<0)
 case true=>
  simp only[h1,go_sem,seval]
  simp at h1
  have:decide (0<=n)=false:=by simp;omega
  simp[cR,this]
 simp only[h1,go_sem,seval]
 cases h2:decide (20<n)
 case true=>
  simp only[h2,go_sem,seval]
  simp at h2
  have:decide (n<=20)=false:=by simp;omega
  simp[cR,this]
 simp only[h2,go_sem,seval]
 cases h3:decide (60<(fn.length:Int))
 case true=>
  simp only[h3,go_sem,seval]
  simp at h3
  have:decide ((fn.length:Int)<=60)=false:=by simp;omega
  simp[cR,this]
 simp only[decide_eq_false_iff_not]at h1 h2
 have hw:wr .i64 (n+fn.length)=n+fn.length:=by simp only[big]at hb;exact aV (by omega) (by omega)
 simp only[h3,hw,go_sem,seval]
 cases h4:decide (n+(fn.length:Int)=0)
 case true=>
  simp only[h4,go_sem,seval]
  simp[cR,h4]
 simp only[h4,go_sem,seval]
 have hspec:cR fn n=eS n fn:=by
  simp only[decide_eq_false_iff_not]at h3
  have e1:decide (0<=n)=true:=by simp;omega
  have e2:decide (n<=20)=true:=by simp;omega
  have e3:decide ((fn.length:Int)<=60)=true:=by simp;omega
  simp[cR,h4,e1,e2,e3]
 rw[hspec]
 refine dS fn (fun d e=>eK e (some 27) (.int .i64 d.length)) (fun d r hp=>eS n fn=eS (n+d.length) r) rfl ?_ ?_ ?_
 ·simp
 ·intro hp hI
  simp only[cf70L0,cf70M0,go_sem,seval]
  rw[hI];rfl
 ·intro d x r hp hes hI
  subst hes
  have hw:wr .i64 (n+d.length)=n+d.length:=by
   simp only[big,List.length_append,List.length_cons]at hb;exact aV (by omega) (by omega)
  simp only[cf70L0,cf70M0,go_sem,seval]
  rw[hw]
  refine aB (h111 x _) (by simp only[go_sem,seval]) rfl ?_
  simp only[go_sem,seval]
  cases hx:iB x (n+d.length)
  ·simp only[go_sem,seval]
   rw[hI];simp[eS,hx]
  ·simp only[aM hb,go_sem,seval]
   rw[hI];simp[eS,hx,Int.add_assoc]
theorem LI(hf:pg.fs 206=some cf206)(p:aC):Ret pg 206 [p.av,.bool false,.bool true,.bool false,.bool true,.bool true,.bool false] (.bool (eB p false true false true true false)):=by
 refine Ret.ofX hf ?_
 unfold cf206
 repeat' (first|simp only[*,go_sem,seval]|refine aN (fun _=>?_) (fun _=>?_)|refine aO (fun _=>?_) (fun _=>?_)|refine And.intro (by kernel_rfl) ?_)
 all_goals (simp_all [eB])
theorem II(hf:pg.fs 206=some cf206)(p:aC):Ret pg 206 [p.av,.bool true,.bool false,.bool false,.bool false,.bool false,.bool false] (.bool (eB p true false false false false false)):=by
 refine Ret.ofX hf ?_
 unfold cf206
 repeat' (first|simp only[*,go_sem,seval]|refine aN (fun _=>?_) (fun _=>?_)|refine aO (fun _=>?_) (fun _=>?_)|refine And.intro (by kernel_rfl) ?_)
 all_goals (simp_all [eB])
theorem O8(hf:pg.fs 206=some cf206)(p:aC):Ret pg 206 [p.av,.bool false,.bool false,.bool false,.bool true,.bool false,.bool false] (.bool (eB p false false false true false false)):=by
 refine Ret.ofX hf ?_
 unfold cf206
 repeat' (first|simp only[*,go_sem,seval]|refine aN (fun _=>?_) (fun _=>?_)|refine aO (fun _=>?_) (fun _=>?_)|refine And.intro (by kernel_rfl) ?_)
 all_goals (simp_all [eB])
theorem O7(hf:pg.fs 206=some cf206)(p:aC):Ret pg 206 [p.av,.bool false,.bool false,.bool true,.bool true,.bool false,.bool true] (.bool (eB p false false true true false true)):=by
 refine Ret.ofX hf ?_
 unfold cf206
 repeat' (first|simp only[*,go_sem,seval]|refine aN (fun _=>?_) (fun _=>?_)|refine aO (fun _=>?_) (fun _=>?_)|refine And.intro (by kernel_rfl) ?_)
 all_goals (simp_all [eB])
theorem LJ(hf:pg.fs 206=some cf206)(p:aC):Ret pg 206 [p.av,.bool false,.bool false,.bool false,.bool false,.bool false,.bool true] (.bool (eB p false false false false false true)):=by
 refine Ret.ofX hf ?_
 unfold cf206
 repeat' (first|simp only[*,go_sem,seval]|refine aN (fun _=>?_) (fun _=>?_)|refine aO (fun _=>?_) (fun _=>?_)|refine And.intro (by kernel_rfl) ?_)
 all_goals (simp_all [eB])
theorem QZ(hf:pg.fs 206=some cf206)(p:aC):Ret pg 206 [p.av,.bool false,.bool false,.bool false,.bool false,.bool false,.bool false] (.bool (eB p false false false false false false)):=by
 refine Ret.ofX hf ?_
 unfold cf206
 repeat' (first|simp only[*,go_sem,seval]|refine aN (fun _=>?_) (fun _=>?_)|refine aO (fun _=>?_) (fun _=>?_)|refine And.intro (by kernel_rfl) ?_)
 all_goals (simp_all [eB])
theorem c207(hf:pg.fs 207=some cf207)(h206:pg.fs 206=some cf206)(p:aC)(hp:p.kids.length<=big)(v:Int) :
  Ret pg 207 [p.av,.int .i64 v] (.bool (sW p v)):=by
 have h6:=LI h206 p
 rw[aC.avc]at h6
 refine Ret.ofX hf ?_
 unfold cf207
 clear h206
 repeat' (first|simp only[*,go_sem,seval]|refine aN (fun _=>?_) (fun _=>?_)|refine aO (fun _=>?_) (fun _=>?_)|(refine aB h6 (by simp only[go_sem,seval]) rfl ?_)|refine And.intro (by kernel_rfl) ?_)
 all_goals (clear h6)
 all_goals (simp_all [sW])
 all_goals (try omega)
end
end Go.Tev
end
section
namespace Go.Tev
mutual
theorem aC.ind'{P:aC->Prop}(h:∀p:aC,(∀q∈p.kids,P q)->P p):∀p,P p
 |.mk op num value name at_ dyn check fn knl kids kcl=>h _ (aC.inds h kids)
theorem aC.inds{P:aC->Prop}(h:∀p:aC,(∀q∈p.kids,P q)->P p):∀l:List aC,∀q∈l,P q
 |[]=>by simp
 |x::r=>List.forall_mem_cons.2 ⟨aC.ind' h x,aC.inds h r⟩
end
mutual
def pK:aC->Int
 |.mk _ _ _ _ _ _ _ _ _ kids _=>mU 1 kids
def mU(a:Int):List aC->Int
 |[]=>a
 |p::r=>mU (wr .i64 (a+pK p)) r
end
theorem BK(p:aC):pK p=mU 1 p.kids:=by cases p;rw[pK];rfl
theorem qZ:∀(d:List aC)(a:Int)(x:aC),mU a (d++[x])=wr .i64 (mU a d+pK x)
 |[],a,x=>by simp[mU]
 |y::d,a,x=>by simp only[List.cons_append,mU];exact qZ d _ x
section
variable{pg:Pg}
theorem c146(hf:pg.fs 146=some cf146):∀p:aC,p.ok->Ret pg 146 [p.av] (.int .i64 (pK p)):=by
 refine aC.ind' fun p ih hp=>?_
 obtain⟨hb,hk⟩:=(aC.ok_iff p).1 hp
 refine Ret.ofX hf ?_
 unfold cf146
 simp only[go_sem,seval]
 refine dS p.kids (fun d e=>eK (eK e (some 9) (.int .i64 d.length)) (some 3) (.int .i64 (mU 1 d))) (fun d r hp=>True) (by simp only[mU];rfl) trivial ?_ ?_
 ·rintro hp -
  simp only[cf146L0,cf146M0,go_sem,seval]
  exact(BK p).symm
 ·rintro d x r hp hes -
  have hx:=ih x (by rw[hes];simp) (hk x (by rw[hes];simp))
  rw[hes]at hb
  rw[hes]
  rw[aC.avc]at hx
  simp only[cf146L0,cf146M0,go_sem,seval]
  refine aB (hx) (by simp only[go_sem,seval]) rfl ?_
  simp only[aM hb,qZ,go_sem,seval]
theorem c209(hf:pg.fs 209=some cf209)(n:Nat)(h0:0<n)(hb:n<=1073741824):bJ pg 209 [.sl true [] true,.int .i64 n] (kO 1 false []):=by
 refine bJ.ofX hf ?_
 have e1:decide ((n:Int)<0)=false:=by simp
 have e2:decide ((0:Int)<n)=true:=by simp;omega
 have e3:wr .i64 (n:Int)=n:=aV (by omega) (by omega)
 have e4:wr .i64 (0:Int)=0:=rfl
 unfold cf209
 simp only[e1,gS,gW,Int.sub_zero,Int.sub_self,e3,e4,e2,Option.getD_none,go_sem,seval]
 have hz:XO pg 0 (.apz 1 false 16 [.str []]) 1 [] [.sl true [] true,.int .i64 (n:Int)]=fun Q _=>Q (.rf 1 0 0 n n) (.pat [1] [⟨1,0,.blk (List.replicate n [.str []]).flatten 1 false false false⟩]):=by
  funext Q t
  have hn:n≠0:=by omega
  show WO pg 0 _ 1 [] _ Q=_
  rw[dY rfl]
  have ha:bU [AV.str []]=true:=rfl
  have hb':(n:Int)<=1073741824:=by omega
  simp[KQ,RQ,hb,hb',ha,kL,hn,G0,bG,Hp.next,JG]
 rw[hz]
 simp only[gS,gW,Option.getD_none,Option.getD_some,go_sem,seval]
 simp only[XV,G0,Option.getD_none,Option.getD_some,Option.isNone_none,Bool.or_true,Int.toNat_zero,Nat.sub_zero]
 rw[if_pos (by simp)]
 simp only[go_sem,seval]
 simp only[l9,List.drop_zero,conv,depth,eD,bW,bB,go_sem,seval]
 exact⟨_,by simp,.inr rfl⟩
theorem El.strs(l:List Str):∀x∈l.map Str.av,El 1 false x:=by
 intro x hx
 simp only[List.mem_map]at hx
 obtain⟨y,_,rfl⟩:=hx
 exact⟨rfl,rfl,rfl⟩
theorem c184(hf:pg.fs 184=some cf184)(h209:pg.fs 209=some cf209)(nl cl:Bool)(vars:List Str)(s:Str)(hb:vars.length<=big) :
  bJ pg 184 [.sl false [.sl nl (vars.map Str.av) cl,.sl false [.str s.bs] true] true] (kO 1 false ((vars++[s]).map Str.av)):=by
 refine bJ.ofX hf ?_
 simp only[big]at hb
 have e1:wr .i64 (vars.length:Int)=vars.length:=aV (by omega) (by omega)
 have e2:wr .i64 ((vars.length:Int)+1)=((vars.length+1:Nat):Int):=by rw[aV (by omega) (by omega)];omega
 have e3:decide ((vars.length:Int)<0)=false:=by simp
 have e4:decide ((((vars.length+1:Nat):Int))<0)=false:=by simp;omega
 have e5:wr .i64 1=1:=rfl
 have e6:wr .i64 2=2:=rfl
 have e7:((1:Int).toNat)=1:=rfl
 have e8:(((2:Nat):Int))=2:=rfl
 have e13:(((1:Nat):Int))=1:=rfl
 have e9:decide ((0:Int)<2)=true:=rfl
 have e10:decide ((1:Int)<2)=true:=rfl
 have e11:decide ((2:Int)<2)=false:=rfl
 have e12:((0:Int)<=1)=True:=by simp
 unfold cf184
 simp only[go_sem,seval]
 rw[mJ]
 simp only[cf184L0,cf184M0,e1,e3,Int.zero_add,e5,e8,e9,go_sem,seval]
 rw[mJ]
 simp only[cf184L0,cf184M0,e13,e2,e4,e5,e6,e7,e8,e10,e12,Int.reduceAdd,go_sem,seval]
 rw[mJ]
 simp only[cf184L0,cf184M0,e8,e11,go_sem,seval]
 refine wB (c209 h209 (vars.length+1) (by omega) (by omega)) (by simp only[go_sem,seval]) (by simp) ?_
 intro v rd pa ho hk hpa
 simp only[go_sem,seval]
 rw[mJ]
 simp only[cf184L1,cf184M1,e8,e9,go_sem,seval]
 have hcat:∀v':AV,∀hp:Hp,Own hp 5 1 false v' (vars.map Str.av++[.str s.bs])->∃r,conv hp v'=some r/\kO 1 false ((vars++[s]).map Str.av) r:=by
  intro v' hp ho'
  have:=ho'.conv (by have:=El.strs (vars++[s]);simpa[Str.av] using this)
  simpa[Str.av] using this
 have hfin:∀(v':AV)(hp:Hp),(Own hp 1 1 false v' (vars.map Str.av)/\vars=[])\/Own hp 5 1 false v' (vars.map Str.av) ->
   ∀(Q:AV->Eff->Prop)(t:Tok Q),(∀v2 rd pa,Own (Eff.app hp (.pat rd pa)) 5 1 false v2 (vars.map Str.av++[.str s.bs])->Q v2 (.pat rd pa))->XO pg 0 (.app 1 false 16) 5 hp [v',.sl false [.str s.bs] true] Q t:=by
  intro v' hp hor Q t hq
  have hs:∀x∈[AV.str s.bs],El 1 false x:=by intro x hx;simp at hx;subst hx;exact⟨rfl,rfl,rfl⟩
  rcases hor with ⟨ho',hv⟩|ho'
  ·exact DP (kb:=0) (s:=5) ho' (by decide) (El.strs vars) hs (by simp;omega) (by omega) (fun h=>by simp at h) (fun _ v2 rd pa h _=>hq v2 rd pa h)
  ·exact fV (kb:=0) (s:=5) ho' (El.strs vars) hs (by simp;omega) (by omega) (fun v2 rd pa h _ _=>hq v2 rd pa h)
 have hrest:∀(v':AV)(hp:Hp),(Own hp 1 1 false v' (vars.map Str.av)/\vars=[])\/Own hp 5 1 false v' (vars.map Str.av)->∀env:List AV,
   clear cf184M1 env=cf184E1 v' (.sl false [.sl nl (vars.map Str.av) cl,.sl false [.str s.bs] true] true) (.int .i64 2) (.int .i64 1) ->
   XX pg 0 (.loop cf184L1 cf184M1) ⟨env,hp⟩ (nI 2 (lN (fun st'=>XX pg 0 ((C.reg [⟨some 35,.mov,[.t 6],none,0,0⟩,⟨some 2,.mov,[.t 35],none,0,0⟩] false).seq C.ret) st' (OK [Sum.inl 2] (kO 1 false ((vars++[s]).map Str.av))) ⟨⟩) (OK [Sum.inl 2] (kO 1 false ((vars++[s]).map Str.av))))) ⟨⟩:=by
  intro v' hp hor env henv
  rw[mJ,henv]
  simp only[cf184L1,cf184E1,e8,e10,e7,e12,go_sem,seval]
  refine hfin v' hp hor _ _ ?_
  intro v2 rd pa ho2
  simp only[e6,e5,go_sem,seval]
  rw[mJ]
  simp only[cf184L1,cf184M1,e8,e11,Int.reduceAdd,e6,go_sem,seval]
  exact hcat _ _ ho2
 refine DP (kb:=0) (s:=5) (k1:=1) ho (by decide) (by simp) (El.strs vars) (by simp;omega) (by omega) ?_ ?_
 ·intro hx rd
  have hv:vars=[]:=by simpa using hx
  simp only[e5,go_sem,seval]
  exact hrest v _ (.inl ⟨by rw[hv];exact ho,hv⟩) _ rfl
 ·intro _ v' rd' pa' ho' _
  simp only[e5,go_sem,seval]
  exact hrest v' _ (.inr (by simpa using ho')) _ rfl
end
end Go.Tev
end
section
namespace Go.Tev
def eU(p:aC)(vars:List Str)(values:Int):Bool:=
 if p.op.bs=[99,111,110,115,116] then eB p true false false false false false&&decide ((p.kids.length:Int)=0)&&lL p.num
 else if p.op.bs=[108,105,110,101,97,114] then eB p false false false true false false&&decide ((p.kids.length:Int)=0)&&decide ((p.at_.es.length:Int)=1)
 else if p.op.bs=[114,101,97,100] then sW p values
 else if p.op.bs=[105,102] then eB p false false false true false false&&decide ((p.kids.length:Int)=2)&&decide ((p.at_.es.length:Int)=1)
 else if p.op.bs=[114,101,100,117,99,101] then eB p false false true true false true&&decide ((p.kids.length:Int)=2)&&decide ((p.at_.es.length:Int)=1)&&fT p.name.bs && !jV vars p.name.bs&&cR p.fn.es 2
 else if p.op.bs=[99,111,100,101] then eB p false false false false false true&&cR p.fn.es p.kids.length
 else match iI p.op.bs with
  |none=>false
  |some q=>eB p false false false false false false&&decide ((p.kids.length:Int)=(q.params.length:Int))
section
variable{pg:Pg}
set_option maxHeartbeats 1000000 in
theorem c182(hname:∀s:Str,Ret pg 57 [.str s.bs] (.bool (fT s.bs)))(hf:pg.fs 182=some cf182)(h206:pg.fs 206=some cf206)(h148:pg.fs 148=some cf148)(h207:pg.fs 207=some cf207)(h98:pg.fs 98=some cf98)(h138:pg.fs 138=some cf138)
  (h70:∀(nl cl:Bool)(fn:List aJ),fn.length<=big->∀n:Int,Ret pg 70 [.sl nl (fn.map aJ.av) cl,.int .i64 n] (.bool (cR fn n))) (h140:∀op,bJ pg 140 [.str op] (iQ op))
  (p:aC) (hk:p.kids.length<=big) (nl cl:Bool) (vars:List Str) (hb:vars.length<=big) (v:Int):Ret pg 182 [p.av,.sl nl (vars.map Str.av) cl,.int .i64 v] (.bool (eU p vars v)):=by
 have k1:=II h206 p
 have k2:=O8 h206 p
 have k3:=O7 h206 p
 have k4:=LJ h206 p
 have k5:=QZ h206 p
 have k6:=c207 h207 h206 p hk v
 have k7:=RR h148 p.num
 have k8:=hname p.name
 have k9:Ret pg 98 [.sl nl (vars.map Str.av) cl,.str p.name.bs] (.bool (jV vars p.name.bs)):=c98 h98 h138 nl cl vars hb p.name.bs
 have k10:=h70 p.fn.nl p.fn.cl p.fn.es p.fn.ok 2
 have k11:=h70 p.fn.nl p.fn.cl p.fn.es p.fn.ok p.kids.length
 rw[aC.avc]at k1 k2 k3 k4 k5 k6
 refine Ret.ofX hf ?_
 clear h206 h148 h207 h98 h138 h70 hname
 unfold cf182
 simp only[go_sem,seval]
 cases o1:decide (p.op.bs=[99,111,110,115,116])
 case true=>
  clear h140
  repeat' (first|simp only[*,go_sem,seval]|refine aN (fun _=>?_) (fun _=>?_)|refine aO (fun _=>?_) (fun _=>?_)|(refine aB k1 (by simp only[go_sem,seval]) rfl ?_)|(refine aB k7 (by simp only[go_sem,seval]) rfl ?_)|refine And.intro (by kernel_rfl) ?_)
  all_goals (clear k1 k2 k3 k4 k5 k6 k7 k8 k9 k10 k11)
  all_goals (simp_all [eU])
 simp only[go_sem,seval]
 cases o2:decide (p.op.bs=[108,105,110,101,97,114])
 case true=>
  clear h140
  repeat' (first|simp only[*,go_sem,seval]|refine aN (fun _=>?_) (fun _=>?_)|refine aO (fun _=>?_) (fun _=>?_)|(refine aB k2 (by simp only[go_sem,seval]) rfl ?_)|refine And.intro (by kernel_rfl) ?_)
  all_goals (clear k1 k2 k3 k4 k5 k6 k7 k8 k9 k10 k11)
  all_goals (simp_all [eU])
 simp only[go_sem,seval]
 cases o3:decide (p.op.bs=[114,101,97,100])
 case true=>
  clear h140
  repeat' (first|simp only[*,go_sem,seval]|refine aN (fun _=>?_) (fun _=>?_)|refine aO (fun _=>?_) (fun _=>?_)|(refine aB k6 (by simp only[go_sem,seval]) rfl ?_)|refine And.intro (by kernel_rfl) ?_)
  all_goals (clear k1 k2 k3 k4 k5 k6 k7 k8 k9 k10 k11)
  all_goals (simp_all [eU])
 simp only[go_sem,seval]
 cases o4:decide (p.op.bs=[105,102])
 case true=>
  clear h140
  repeat' (first|simp only[*,go_sem,seval]|refine aN (fun _=>?_) (fun _=>?_)|refine aO (fun _=>?_) (fun _=>?_)|(refine aB k2 (by simp only[go_sem,seval]) rfl ?_)|refine And.intro (by kernel_rfl) ?_)
  all_goals (clear k1 k2 k3 k4 k5 k6 k7 k8 k9 k10 k11)
  all_goals (simp_all [eU])
 simp only[go_sem,seval]
 cases o5:decide (p.op.bs=[114,101,100,117,99,101])
 case true=>
  clear h140
  repeat' (first|simp only[*,go_sem,seval]|refine aN (fun _=>?_) (fun _=>?_)|refine aO (fun _=>?_) (fun _=>?_)|(refine aB k3 (by simp only[go_sem,seval]) rfl ?_)|(refine aB k8 (by simp only[go_sem,seval]) rfl ?_)|(refine aB k9 (by simp only[go_sem,seval]) rfl ?_)|(refine aB k10 (by simp only[go_sem,seval]) rfl ?_)|refine And.intro (by kernel_rfl) ?_)
  all_goals (clear k1 k2 k3 k4 k5 k6 k7 k8 k9 k10 k11)
  all_goals (simp_all [eU])
 simp only[go_sem,seval]
 cases o6:decide (p.op.bs=[99,111,100,101])
 case true=>
  clear h140
  repeat' (first|simp only[*,go_sem,seval]|refine aN (fun _=>?_) (fun _=>?_)|refine aO (fun _=>?_) (fun _=>?_)|(refine aB k4 (by simp only[go_sem,seval]) rfl ?_)|(refine aB k11 (by simp only[go_sem,seval]) rfl ?_)|refine And.intro (by kernel_rfl) ?_)
  all_goals (clear k1 k2 k3 k4 k5 k6 k7 k8 k9 k10 k11)
  all_goals (simp_all [eU])
 obtain⟨r,hr,hP⟩:=h140 p.op.bs
 clear h140
 have hspec:eU p vars v=match iI p.op.bs with
  |none=>false
  |some q=>eB p false false false false false false&&decide ((p.kids.length:Int)=(q.params.length:Int)):=by
  simp at o1 o2 o3 o4 o5 o6
  simp[eU,o1,o2,o3,o4,o5,o6]
 generalize eU p vars v=res at hspec ⊢
 obtain⟨nl',cl',ps,rs,ok,rfl,hres⟩:∃nl cl,∃ps:List (List UInt8),∃rs ok,r = .tup [.sl nl (ps.map .str) cl,.str rs,.bool ok]/\res=(ok&&eB p false false false false false false&&decide ((p.kids.length:Int)=(ps.length:Int))):=by
  unfold iQ at hP
  cases hp:iI p.op.bs with
  |none=>
   rw[hp]at hP hspec
   exact⟨_,_,[],_,_,hP,by simp[hspec]⟩
  |some q=>
   rw[hp]at hP hspec
   obtain⟨nl,cl,hP⟩:=hP
   exact⟨_,_,q.params,_,_,hP,by simp[hspec]⟩
 clear hP hspec
 have htr:treeL (ps.map AV.str)=true:=bK (f:=AV.str) (fun _=>rfl) ps
 repeat' (first|simp only[*,go_sem,seval]|refine aN (fun _=>?_) (fun _=>?_)|refine aO (fun _=>?_) (fun _=>?_)|(refine aB hr (by simp only[go_sem,seval]) rfl ?_)|(refine aB k5 (by simp only[go_sem,seval]) rfl ?_)|refine And.intro (by kernel_rfl) ?_)
 all_goals (clear k1 k2 k3 k4 k5 k6 k7 k8 k9 k10 k11 hr)
 all_goals (simp_all)
end
end Go.Tev
end
section
namespace Go.Tev
mutual
def aC.sz:aC->Nat
 |.mk _ _ _ _ _ _ _ _ _ kids _=>1+aC.szL kids
def aC.szL:List aC->Nat
 |[]=>0
 |p::r=>p.sz+aC.szL r
end
theorem aC.sz_eq(p:aC):p.sz=1+aC.szL p.kids:=by cases p;rw[aC.sz];rfl
theorem aC.szL_mem:∀{l:List aC}{q:aC},q∈l->q.sz<=aC.szL l
 |x::r,q,h=>by
  rcases List.mem_cons.1 h with rfl|h
  ·rw[aC.szL];omega
  ·have:=aC.szL_mem h;rw[aC.szL];omega
mutual
def gL(values:Int):aC->List Str->Bool
 |.mk op num value name at_ dyn check fn knl kids kcl,vars=>
  eU (.mk op num value name at_ dyn check fn knl kids kcl) vars values&&bX at_.es vars&&gJ values (decide (op.bs=[114,101,100,117,99,101])) name vars 0 kids
def gJ(values:Int)(red:Bool)(name:Str)(vars:List Str):Nat->List aC->Bool
 |_,[]=>true
 |i,k::r=>gL values k (if red&&decide ((i:Int)=1) then vars++[name] else vars)&&gJ values red name vars (i+1) r
end
theorem oH(values:Int)(p:aC)(vars:List Str):gL values p vars=(eU p vars values&&bX p.at_.es vars&&gJ values (decide (p.op.bs=[114,101,100,117,99,101])) p.name vars 0 p.kids):=by
 cases p;rw[gL];rfl
theorem Own.snap{h:Hp}{k0 esz:Nat}{ag:Bool}{v:AV}{es:List AV}(o:Own h k0 esz ag v es)(he:∀x∈es,El esz ag x)(d:Nat):∃nl cl keys,Tev.snap (d+2) h v=some (.sl nl es cl,keys)/\(nl=true->es=[]):=by
 rcases o with ⟨rfl,nl,cl,rfl,hc⟩|⟨e,cs,rfl,hg,hu⟩
 ·exact⟨nl,cl,[],by rw[eD];rfl,fun _=>rfl⟩
 ·obtain⟨cs',h1,h2,h3,h4⟩:=cL he
  rw[hu]at h1;cases h1
  have h5:=h4 []
  rw[List.append_nil]at h5
  have ht:treeL es=true:=by
   clear h2 h4 h5 hu hg
   induction es with
   |nil=>rfl
   |cons x r ih=>simp only[treeL,Bool.and_eq_true];exact⟨(he x (by simp)).tree,ih (fun y hy=>he y (List.mem_cons_of_mem _ hy))⟩
  have h6:cG (Tev.snap (d+1) h) es=some (es,[]):=d8 d h ht
  exact⟨false,false,[k0],by rw[eD];simp[hg,h5,h6,AV.tree],fun h=>by cases h⟩
theorem mD{h:Hp}{d:Nat}{a:AV}(ha:a.tree=true):Tev.snap (d+1) h a=some (a,[]):=by rw[eD,if_pos ha]
theorem pN{h:Hp}{d:Nat}{a b c b':AV}{keys:List Nat}(ha:a.tree=true)(hb:Tev.snap (d+1) h b=some (b',keys))(hc:c.tree=true):cG (Tev.snap (d+1) h) [a,b,c]=some ([a,b',c],keys):=by
 simp[bB,bW,mD ha,mD hc,hb]
section
variable{pg:Pg}
theorem c147(hf:pg.fs 147=some cf147)(h182:∀(p:aC),p.kids.length<=big->∀(nl cl:Bool) (vars:List Str),vars.length<=big->∀v:Int,Ret pg 182 [p.av,.sl nl (vars.map Str.av) cl,.int .i64 v] (.bool (eU p vars v)))
  (h183:∀(nl cl:Bool)(ls:List Lin),ls.length<=big->∀(nl' cl':Bool)(vars:List Str),vars.length<=big->Ret pg 183 [.sl nl (ls.map Lin.av) cl,.sl nl' (vars.map Str.av) cl'] (.bool (bX ls vars)))
  (h184:pg.fs 184=some cf184) (h209:pg.fs 209=some cf209) (v:Int) :
  ∀p:aC,p.ok->∀(nl cl:Bool)(vars:List Str),vars.length+p.sz<=big->Ret pg 147 [p.av,.sl nl (vars.map Str.av) cl,.int .i64 v] (.bool (gL v p vars)):=by
 refine aC.ind' fun p ih hp nl cl vars hb=>?_
 obtain⟨hk,hks⟩:=(aC.ok_iff p).1 hp
 have hsz:=aC.sz_eq p
 have a1:=h182 p hk nl cl vars (by omega) v
 have a2:=h183 p.at_.nl p.at_.cl p.at_.es p.at_.ok nl cl vars (by omega)
 rw[aC.avc]at a1
 clear h182 h183
 refine Ret.ofX hf ?_
 unfold cf147
 simp only[go_sem,seval]
 refine aB (a1) (by simp only[go_sem,seval]) rfl ?_
 simp only[go_sem,seval]
 cases b1:eU p vars v
 ·simp only[go_sem,seval]
  rw[oH,b1];rfl
 simp only[go_sem,seval]
 refine aB (a2) (by simp only[go_sem,seval]) rfl ?_
 simp only[go_sem,seval]
 cases b2:bX p.at_.es vars
 ·simp only[go_sem,seval]
  rw[oH,b1,b2];rfl
 simp only[go_sem,seval]
 generalize hred:decide (p.op.bs=[114,101,100,117,99,101])=red
 have hspec:gL v p vars=gJ v red p.name vars 0 p.kids:=by rw[oH,b1,b2,hred];rfl
 rw[hspec]
 refine dS p.kids (fun d e=>eK e (some 25) (.int .i64 d.length)) (fun d r hp=>hp.get 1=some (0,.blk [.str p.op.bs,.int .i64 p.num,.int .i64 p.value,.str p.name.bs,.sl p.at_.nl (p.at_.es.map Lin.av) p.at_.cl,.bool p.dyn,.int .i64 p.check,.sl p.fn.nl (p.fn.es.map aJ.av) p.fn.cl,.sl p.knl (p.kids.map aC.av) p.kcl] 9 true true false)/\gJ v red p.name vars 0 p.kids=gJ v red p.name vars d.length r) rfl ?_ ?_ ?_
 ·exact⟨rfl,rfl⟩
 ·rintro hp ⟨h1,hI⟩
  simp only[cf147L0,cf147M0,go_sem,seval]
  rw[hI];rfl
 ·rintro d x r hp hes ⟨h1,hI⟩
  have hxm:x∈p.kids:=by rw[hes];simp
  have hxs:x.sz<=aC.szL p.kids:=aC.szL_mem hxm
  have hx:=ih x hxm (hks x hxm)
  simp only[gJ]at hI
  have hb2:(d++x::r).length<=big:=by rw[<-hes];exact hk
  have hlast:∀own:List Str,∀hp2:Hp,hp2.get 1=hp.get 1->gL v x own=gL v x (if red&&decide ((d.length:Int)=1) then vars++[p.name] else vars)->True:=fun _ _ _ _=>trivial
  have h0:=h1
  rw[hes]at h1 ⊢
  simp only[cf147L0,cf147M0,h1,hred,go_sem,seval]
  cases c1:red
  ·simp only[go_sem,seval]
   have hx1:=hx nl cl vars (by omega)
   rw[aC.avc]at hx1
   refine aB (hx1) (by simp only[go_sem,seval]) rfl ?_
   rw[c1]at hI
   simp only[go_sem,seval]
   cases b3:gL v x vars
   ·simp only[go_sem,seval]
    rw[<-hes,hI];simp[b3]
   ·simp only[aM hb2,go_sem,seval]
    rw[<-hes]
    exact⟨h0,by simpa[b3] using hI⟩
  simp only[go_sem,seval]
  cases c2:decide ((d.length:Int)=1)
  ·simp only[c2,go_sem,seval]
   have hx1:=hx nl cl vars (by omega)
   rw[aC.avc]at hx1
   refine aB (hx1) (by simp only[go_sem,seval]) rfl ?_
   rw[c1,c2]at hI
   simp only[go_sem,seval]
   cases b3:gL v x vars
   ·simp only[go_sem,seval]
    rw[<-hes,hI];simp[b3]
   ·simp only[aM hb2,go_sem,seval]
    rw[<-hes]
    exact⟨h0,by simpa[b3] using hI⟩
  ·simp only[c2,h1,go_sem,seval]
   refine wB (c184 h184 h209 nl cl vars p.name (by omega)) (by simp only[go_sem,seval]) (El.strs (vars++[p.name])) ?_
   intro v' rd pa ho hkk hpa
   simp only[hkk,go_sem,seval]
   obtain⟨nl2,cl2,keys,hsn,hnl⟩:=ho.snap (El.strs (vars++[p.name])) 62
   have hx2:=hx nl2 cl2 (vars++[p.name]) (by simp;omega)
   rw[aC.avc]at hx2
   refine bQ hx2 (pN (by simp only[go_sem,seval]) hsn (by simp only[go_sem,seval])) (v:=.bool (gL v x (vars++[p.name]))) (pa:=[]) rfl ?_
   rw[c1,c2]at hI
   simp only[hkk,go_sem,seval]
   cases b3:gL v x (vars++[p.name])
   ·simp only[go_sem,seval]
    rw[<-hes,hI];simp[b3]
   ·simp only[aM hb2,hkk,go_sem,seval]
    rw[<-hes]
    exact⟨h0,by simpa[b3] using hI⟩
def gN(p:aC)(vars:List Str)(v:Int):Bool:=decide (pK p<=4000)&&gL v p vars
theorem c109(hf:pg.fs 109=some cf109)(h146:pg.fs 146=some cf146)(h147:∀p:aC,p.ok->∀(nl cl:Bool) (vars:List Str),vars.length+p.sz<=big->∀v:Int,Ret pg 147 [p.av,.sl nl (vars.map Str.av) cl,.int .i64 v] (.bool (gL v p vars)))
  (p:aC) (hp:p.ok) (nl cl:Bool) (vars:List Str) (hb:vars.length+p.sz<=big) (v:Int):Ret pg 109 [p.av,.sl nl (vars.map Str.av) cl,.int .i64 v] (.bool (gN p vars v)):=by
 have a1:=c146 h146 p hp
 have a2:=h147 p hp nl cl vars hb v
 rw[aC.avc]at a1 a2
 refine Ret.ofX hf ?_
 clear h146 h147
 unfold cf109
 repeat' (first|simp only[*,go_sem,seval]|refine aN (fun _=>?_) (fun _=>?_)|refine aO (fun _=>?_) (fun _=>?_)|(refine aB a1 (by simp only[go_sem,seval]) rfl ?_)|(refine aB a2 (by simp only[go_sem,seval]) rfl ?_)|refine And.intro (by kernel_rfl) ?_)
 all_goals (clear a1 a2)
 all_goals (simp_all [gN])
 all_goals (intro h;exfalso;omega)
def fC(a b:aJ):Bool:=decide (a.op.bs=b.op.bs)&&decide (a.num=b.num)&&eqL (fun x y=>decide (x=y)) a.args.es b.args.es
mutual
def dQ:aC->aC->Bool
 |.mk op num value name at_ dyn check fn knl kids kcl,q=>
  decide (op.bs=q.op.bs)&&decide (num=q.num)&&decide (value=q.value)&&decide (name.bs=q.name.bs)&&(dyn==q.dyn)&&decide (check=q.check)&&eqL bH at_.es q.at_.es&&eqL fC fn.es q.fn.es&&nS kids q.kids
def nS:List aC->List aC->Bool
 |[],l=>l.isEmpty
 |p::r,l=>match l with|[]=>false|q::s=>dQ p q&&nS r s
end
theorem oN(p q:aC):dQ p q=(decide (p.op.bs=q.op.bs)&&decide (p.num=q.num)&&decide (p.value=q.value)&&decide (p.name.bs=q.name.bs)&&(p.dyn==q.dyn)&&decide (p.check=q.check)&&eqL bH p.at_.es q.at_.es&&eqL fC p.fn.es q.fn.es&&nS p.kids q.kids):=by
 cases p;rw[dQ];rfl
theorem lB:∀a b:List aC,nS a b=eqL dQ a b
 |[],[]=>by simp[nS,eqL]
 |[],_::_=>by simp[nS,eqL]
 |_::_,[]=>by simp[nS,eqL]
 |p::r,q::s=>by simp[nS,eqL,lB r s]
theorem c181(hf:pg.fs 181=some cf181)(nl cl nl' cl':Bool)(es es':List Int)(hb:es.length<=big):Ret pg 181 [.sl nl (es.map aG) cl,.sl nl' (es'.map aG) cl'] (.bool (eqL (fun x y=>decide (x=y)) es es')):=
 HV (f:=181) (k:=.bin .neq) hf aG (fun _=>rfl) nl cl nl' cl' es es' hb _ (by intro kb s h x y Q t;simp only[go_sem,seval]) rfl
theorem c180(hf:pg.fs 180=some cf180)(h181:pg.fs 181=some cf181)(a b:aJ):Ret pg 180 [a.av,b.av] (.bool (fC a b)):=by
 have k:=c181 h181 a.args.nl a.args.cl b.args.nl b.args.cl a.args.es b.args.es a.args.ok
 refine Ret.ofX hf ?_
 unfold cf180
 repeat' (first|simp only[*,go_sem,seval]|refine aN (fun _=>?_) (fun _=>?_)|refine aO (fun _=>?_) (fun _=>?_)|(refine aB k (by simp only[go_sem,seval]) rfl ?_)|refine And.intro (by kernel_rfl) ?_)
 all_goals (clear k)
 all_goals (simp_all [fC])
theorem c179(hf:pg.fs 179=some cf179)(h180:∀a b:aJ,Ret pg 180 [a.av,b.av] (.bool (fC a b)))(nl cl nl' cl':Bool)(es es':List aJ)(hb:es.length<=big) :
  Ret pg 179 [.sl nl (es.map aJ.av) cl,.sl nl' (es'.map aJ.av) cl',.fn 180 []] (.bool (eqL fC es es')):=
 HX (f:=179) (esz:=3) (ag:=true) rfl hf aJ.av (fun x=>[.str x.op.bs,.int .i64 x.num,x.args.av aG]) (fun _=>rfl) (fun _=>rfl) (fun _=>rfl) rfl (fun x=>by simp only[go_sem,seval]) nl cl nl' cl' es es' hb 180 fC (fun x _ y _=>h180 x y)
theorem c144(hf:pg.fs 144=some cf144)(h179:∀(nl cl nl' cl':Bool) (es es':List aJ),es.length<=big->Ret pg 179 [.sl nl (es.map aJ.av) cl,.sl nl' (es'.map aJ.av) cl',.fn 180 []] (.bool (eqL fC es es')))
  (nl cl nl' cl':Bool) (es es':List aJ) (hb:es.length<=big):Ret pg 144 [.sl nl (es.map aJ.av) cl,.sl nl' (es'.map aJ.av) cl'] (.bool (eqL fC es es')):=by
 have k:=h179 nl cl nl' cl' es es' hb
 refine Ret.ofX hf ?_
 clear h179
 unfold cf144
 repeat' (first|simp only[*,go_sem,seval]|refine aN (fun _=>?_) (fun _=>?_)|refine aO (fun _=>?_) (fun _=>?_)|(refine aB k (by simp only[go_sem,seval]) rfl ?_)|refine And.intro (by kernel_rfl) ?_)
theorem aC.one_cells(x:aC):bU x.cells=true:=rfl
theorem c105(hf:pg.fs 105=some cf105)(h67:∀(nl cl nl' cl':Bool) (es es':List Lin),es.length<=big->Ret pg 67 [.sl nl (es.map Lin.av) cl,.sl nl' (es'.map Lin.av) cl',.fn 143 []] (.bool (eqL bH es es')))
  (h144:∀(nl cl nl' cl':Bool)(es es':List aJ),es.length<=big->Ret pg 144 [.sl nl (es.map aJ.av) cl,.sl nl' (es'.map aJ.av) cl'] (.bool (eqL fC es es'))) (h145:pg.fs 145=some cf145) :
  ∀p:aC,p.ok->∀q:aC,Ret pg 105 [p.av,q.av] (.bool (dQ p q)):=by
 refine aC.ind' fun p ih hp q=>?_
 obtain⟨hk,hks⟩:=(aC.ok_iff p).1 hp
 have a1:=h67 p.at_.nl p.at_.cl q.at_.nl q.at_.cl p.at_.es q.at_.es p.at_.ok
 have a2:=h144 p.fn.nl p.fn.cl q.fn.nl q.fn.cl p.fn.es q.fn.es p.fn.ok
 have a3:Ret pg 145 [.sl p.knl (p.kids.map aC.av) p.kcl,.sl q.knl (q.kids.map aC.av) q.kcl,.fn 105 []] (.bool (eqL dQ p.kids q.kids)):=
  HX (f:=145) (esz:=9) (ag:=true) rfl h145 aC.av aC.cells aC.av_eq (fun _=>rfl) aC.one_cells rfl aC.tree_av p.knl p.kcl q.knl q.kcl p.kids q.kids hk 105 dQ (fun x hx y _=>ih x hx (hks x hx) y)
 refine Ret.ofX hf ?_
 clear h67 h144 ih hks
 unfold cf105
 repeat' (first|simp only[*,go_sem,seval]|refine aN (fun _=>?_) (fun _=>?_)|refine aO (fun _=>?_) (fun _=>?_)|(refine aB a1 (by simp only[go_sem,seval]) rfl ?_)|(refine aB a2 (by simp only[go_sem,seval]) rfl ?_)|(refine aB a3 (by simp only[go_sem,seval]) rfl ?_)|refine And.intro (by kernel_rfl) ?_)
 all_goals (clear a1 a2 a3)
 all_goals (rw[oN,lB])
 all_goals (simp_all)
end
end Go.Tev
end
section
namespace Go.Tev
mutual
def dU:aC->List Int
 |.mk op _ value _ _ _ _ _ _ kids _=>(if decide (op.bs=[114,101,97,100]) then [value] else [])++gM kids
def gM:List aC->List Int
 |[]=>[]
 |p::r=>dU p++gM r
end
theorem BD(p:aC):dU p=(if decide (p.op.bs=[114,101,97,100]) then [p.value] else [])++gM p.kids:=by cases p;rw[dU];rfl
theorem wM:∀(d:List aC)(x:aC),gM (d++[x])=gM d++dU x
 |[],x=>by simp[gM]
 |y::d,x=>by simp[gM,wM d x]
mutual
theorem pH:∀p:aC,(dU p).length<=p.sz
 |.mk op num value name at_ dyn check fn knl kids kcl=>by
  have:=sU kids
  rw[dU,aC.sz,List.length_append]
  split<;>simp<;>omega
theorem sU:∀l:List aC,(gM l).length<=aC.szL l
 |[]=>by simp[gM,aC.szL]
 |p::r=>by
  have h1:=pH p
  have h2:=sU r
  simp only[gM,aC.szL,List.length_append];omega
end
def lT(pg:Pg)(f:Nat)(vs:List AV)(kb:Nat)(h:Hp)(P:AV->Hp->Prop):Prop:=∃r h',pZ pg f vs kb h r h'/\P r h'
def JQ(res:List (Sum Nat (Nat×Nat×Bool)))(P:AV->Hp->Prop)(ex:Ex)(st:St):Prop:=
 match ex with
 |.ext _=>False
 |_=>∃v,result st res=some v/\P v st.hp
theorem LB(res:List (Sum Nat (Nat×Nat×Bool)))(P:AV->Hp->Prop)(st:St):JQ res P .nor st=∃v,result st res=some v/\P v st.hp:=rfl
theorem LA(res:List (Sum Nat (Nat×Nat×Bool)))(P:AV->Hp->Prop)(st:St):JQ res P .ret st=∃v,result st res=some v/\P v st.hp:=rfl
attribute [go_sem ↓] LB LA
section
variable{pg:Pg}{kb:Nat}
theorem lT.ofX{f:Nat}{cf:CF}{vs:List AV}{h:Hp}{P:AV->Hp->Prop}(hf:pg.fs f=some cf)(hw:XX pg kb cf.body ⟨enter cf vs,h⟩ (JQ cf.res P) ⟨⟩):lT pg f vs kb h P:=by
 obtain⟨n,ex,st,h1,h2⟩:=hw
 cases ex with
 |ext i=>exact h2.elim
 |nor=>obtain⟨v,h3,h4⟩:=h2;exact⟨v,st.hp,pZ.of hf ⟨n,.nor,st,h1,trivial,h3,rfl⟩,h4⟩
 |ret=>obtain⟨v,h3,h4⟩:=h2;exact⟨v,st.hp,pZ.of hf ⟨n,.ret,st,h1,trivial,h3,rfl⟩,h4⟩
theorem wC{f s:Nat}{th im:Bool}{h:Hp}{vs:List AV}{P:AV->Hp->Prop}{Q:AV->Eff->Prop}{t:Tok Q}(hm:im=true\/cG (snap depth h) vs=none){B:Nat}(hB:jB kb s vs=B)(hr:lT pg f vs B h P)
   (hq:∀r h',P r h'->Q r (.whole h')):XO pg kb (.call f th im) s h vs Q t:=by
 obtain⟨r,h',h1,h2⟩:=hr
 exact jO hm hB h1 (hq r h' h2)
theorem pY{esz bytes s k1:Nat}{ag:Bool}{h:Hp}{v:AV}{es xs:List AV}{nl cl:Bool}{Q:AV->Eff->Prop}{t:Tok Q}(o:Own h k1 esz ag v es)(he:∀x∈es,El esz ag x)(hx:∀x∈xs,El esz ag x)(hxs:xs≠[])
  (hl:es.length+xs.length<=1073741824) (hb:bytes<=65536)
  (q2:∀v' rd pa,Own (Eff.app h (.pat rd pa)) (kb+s) esz ag v' (es++xs)->(∀k,k≠kb+s->k≠k1->(Eff.app h (.pat rd pa)).get k=h.get k)->Q v' (.pat rd pa)) :
  XO pg kb (.app esz ag bytes) s h [v,.sl nl xs cl] Q t:=by
 by_cases hk:k1=kb+s
 ·subst hk
  exact fV o he hx hl hb (fun v' rd pa h1 h2 _=>q2 v' rd pa h1 (fun k h3 _=>h2 k h3))
 ·exact DP o hk he hx hl hb (fun h=>absurd h hxs) (fun _ v' rd pa h1 h2=>q2 v' rd pa h1 h2)
theorem rS{f:AV->Option (AV×List Nat)}:∀{l:List AV}{x:AV},x∈l->f x=none->cG f l=none
 |y::r,x,h,hf=>by
  rcases List.mem_cons.1 h with rfl|h
  ·simp[bB,hf]
  ·rw[bB]
   cases f y with
   |none=>rfl
   |some p=>simp[rS h hf]
theorem sP{h:Hp}{f kw ew:Nat}{cs:List AV}{ti fz:Bool}(hg:h.get kw=some (ew,.blk [.fn f cs] 1 false ti fz))(hm:AV.pt kw ew 0∈cs):∀d,snap d h (.pt kw ew 0)=none
 |0=>rfl
 |1=>by
  rw[eD]
  simp[AV.tree,hg,bB,snap]
 |d+2=>by
  have ih:=sP hg hm d
  have hms:=rS hm ih
  have ht:treeL cs=false:=by
   clear hms ih hg
   induction cs with
   |nil=>cases hm
   |cons x r ih2=>
    simp only[treeL]
    rcases List.mem_cons.1 hm with rfl|hm
    ·simp[AV.tree]
    ·simp[ih2 hm]
  rw[eD]
  simp[AV.tree,hg,bB,eD,ht,hms]
def Out(h:Hp)(v:AV)(es:List Int):Prop:=∃k,Own h k 1 false v (es.map aG)/\65536<=k/\k % 65536=5
theorem El.ints(l:List Int):∀x∈l.map aG,El 1 false x:=by
 intro x hx
 simp only[List.mem_map]at hx
 obtain⟨y,_,rfl⟩:=hx
 exact⟨rfl,rfl,rfl⟩
theorem aC.szL_append:∀(a b:List aC),aC.szL (a++b)=aC.szL a+aC.szL b
 |[],b=>by simp[aC.szL]
 |x::r,b=>by simp[aC.szL,aC.szL_append r b];omega
def PU(h h':Hp)(kb:Nat):Prop:=∀q,q≠5->q % 65536≠5->q<kb->h'.get q=h.get q
def IT(eo:Nat)(h:Hp)(kb:Nat)(es:List Int)(r:AV)(h':Hp):Prop:=r = .tup []/\(∃v',h'.get 5=some (eo,.blk [v'] 1 false true false)/\Out h' v' es)/\PU h h' kb
theorem Out.put{h:Hp}{v:AV}{es:List Int}(o:Out h v es){q e:Nat}{ob:Ob}(hq:q<65536\/q % 65536≠5):Out (h.put q e ob) v es:=by
 obtain⟨k,o,h1,h2⟩:=o
 refine⟨k,o.mono ?_,h1,h2⟩
 rw[aH,if_neg (by intro h;subst h;omega)]
theorem Own.one{h:Hp}{k0 esz:Nat}{ag:Bool}{v:AV}{es:List AV}(o:Own h k0 esz ag v es):v.fits 1 false=true/\v.one=true/\v.cells=[v]:=by
 rcases o with ⟨rfl,nl,cl,rfl,hc⟩|⟨e,cs,rfl,hg,hu⟩
 ·exact⟨rfl,rfl,rfl⟩
 ·exact⟨rfl,rfl,rfl⟩
theorem F0(p:aC)(hks:∀q∈p.kids,q.ok)(hk:p.kids.length<=big)(kb eo ew:Nat)(h:Hp)(hkb:65536<=kb)(hkb2:kb % 65536=0)(es:List Int)(hsz:es.length+aC.szL p.kids<=big)
  (ih:∀q∈p.kids,q.ok->∀(kb:Nat)(h:Hp)(v:AV)(es:List Int)(eo ew:Nat),65536<=kb->kb % 65536=0->es.length+q.sz<=big ->
   h.get 5=some (eo,.blk [v] 1 false true false)->h.get 9=some (ew,.blk [.fn 74 [.pt 5 eo 0,.pt 9 ew 0]] 1 false true false)->Out h v es ->
   lT pg 74 [q.av,.pt 5 eo 0,.pt 9 ew 0] kb h (IT eo h kb (es++dU q)))
  (v:AV) (hp:Hp) (h5:hp.get 5=some (eo,.blk [v] 1 false true false)) (h9:hp.get 9=some (ew,.blk [.fn 74 [.pt 5 eo 0,.pt 9 ew 0]] 1 false true false)) (ho:Out hp v es) (hkeep:PU h hp kb) (env:List AV)
  (henv:clear cf74M0 env=cf74E0 (.pt 9 ew 0) (.sl p.knl (p.kids.map aC.av) p.kcl) (.int .i64 p.kids.length) (.int .i64 0)) :
  XX pg kb (.loop cf74L0 cf74M0) ⟨env,hp⟩ (nI 0 (JQ [] (IT eo h kb (es++gM p.kids)))) ⟨⟩:=by
 refine aI p.kids (fun d r env hp=>env=cf74E0 (.pt 9 ew 0) (.sl p.knl (p.kids.map aC.av) p.kcl) (.int .i64 p.kids.length) (.int .i64 d.length) /\
  ∃v,hp.get 5=some (eo,.blk [v] 1 false true false)/\hp.get 9=some (ew,.blk [.fn 74 [.pt 5 eo 0,.pt 9 ew 0]] 1 false true false)/\Out hp v (es++gM d)/\PU h hp kb) ?_ ?_ ?_
 ·exact⟨henv,v,h5,h9,by simpa[gM] using ho,hkeep⟩
 ·rintro env hp ⟨rfl,v,h5,h9,ho,hkeep⟩
  simp only[cf74L0,cf74E0,go_sem,seval]
  exact⟨rfl,⟨v,h5,ho⟩,hkeep⟩
 ·rintro d x r env hp hes ⟨rfl,v,h5,h9,ho,hkeep⟩
  have hxm:x∈p.kids:=by rw[hes];simp
  have hb2:(d++x::r).length<=big:=by rw[<-hes];exact hk
  have hsd:aC.szL p.kids=aC.szL d+x.sz+aC.szL r:=by rw[hes,aC.szL_append];simp[aC.szL];omega
  have hrd:=sU d
  have n1:(kb+9=5)=False:=eq_false (by omega)
  have n2:(kb+9=9)=False:=eq_false (by omega)
  have n3:(kb+5=9)=False:=eq_false (by omega)
  rw[hes]
  simp only[cf74L0,cf74E0,n1,n2,n3,h9,go_sem,seval]
  generalize hO1:Ob.blk [AV.str [],AV.int IntKind.i64 0,AV.int IntKind.i64 0,AV.str [],AV.sl true [] true,AV.bool false,AV.int IntKind.i64 0,AV.sl true [] true,AV.sl true [] true] 9 true true false=O1
  have g5:∀o1 o2,((hp.put (kb+9) (hp.next (kb+9)) o1).put (kb+9) (hp.next (kb+9)) o2).get 5=hp.get 5:=by
   intro o1 o2;rw[aH,if_neg (by omega),aH,if_neg (by omega)]
  have g9:∀o1 o2,((hp.put (kb+9) (hp.next (kb+9)) o1).put (kb+9) (hp.next (kb+9)) o2).get 9=hp.get 9:=by
   intro o1 o2;rw[aH,if_neg (by omega),aH,if_neg (by omega)]
  refine wC (P:=IT eo ((hp.put (kb+9) (hp.next (kb+9)) O1).put (kb+9) (hp.next (kb+9)) (Ob.blk
    [AV.str x.op.bs,AV.int IntKind.i64 x.num,AV.int IntKind.i64 x.value,AV.str x.name.bs,
     AV.sl x.at_.nl (List.map Lin.av x.at_.es) x.at_.cl,AV.bool x.dyn,AV.int IntKind.i64 x.check,
     AV.sl x.fn.nl (List.map aJ.av x.fn.es) x.fn.cl,AV.sl x.knl (List.map aC.av x.kids) x.kcl]
    9 true true false)) ((kb+13+1)*65536) (es++gM d++dU x)) (.inr ?_) (B:=(kb+13+1)*65536) rfl ?_ ?_
  ·refine rS (x:=.pt 9 ew 0) (by simp) (sP (f:=74) (cs:=[.pt 5 eo 0,.pt 9 ew 0]) (ti:=true) (fz:=false) ?_ (by simp) _)
   rw[g9];exact h9
  ·rw[<-aC.avc]
   refine ih x hxm (hks x hxm) _ _ v _ eo ew (by omega) (by omega) (by simp;omega) (by rw[g5];exact h5) (by rw[g9];exact h9) ?_
   exact(ho.put (.inr (by omega))).put (.inr (by omega))
  ·rintro r' h' ⟨rfl,⟨v2,q5,q6⟩,q7⟩
   have q9:h'.get 9=hp.get 9:=by rw[q7 9 (by omega) (by omega) (by omega),g9]
   simp only[aM hb2,go_sem,seval]
   refine⟨rfl,v2,q5,by rw[q9];exact h9,by rw[wM,<-List.append_assoc];exact q6,?_⟩
   intro q c1 c2 c3
   rw[q7 q c1 c2 (by omega),aH,if_neg (by omega),aH,if_neg (by omega)]
   exact hkeep q c1 c2 c3
theorem c74(hf:pg.fs 74=some cf74):∀p:aC,p.ok->∀(kb:Nat)(h:Hp)(v:AV)(es:List Int)(eo ew:Nat),65536<=kb->kb % 65536=0->es.length+p.sz<=big ->
  h.get 5=some (eo,.blk [v] 1 false true false)->h.get 9=some (ew,.blk [.fn 74 [.pt 5 eo 0,.pt 9 ew 0]] 1 false true false)->Out h v es ->
  lT pg 74 [p.av,.pt 5 eo 0,.pt 9 ew 0] kb h (IT eo h kb (es++dU p)):=by
 refine aC.ind' fun p ih hp kb h v es eo ew hkb hkb2 hsz h5 h9 hout=>?_
 obtain⟨hk,hks⟩:=(aC.ok_iff p).1 hp
 have hps:=aC.sz_eq p
 refine lT.ofX hf ?_
 rw[BD,<-List.append_assoc]
 unfold cf74
 have k1:(kb+1=5)=False:=eq_false (by omega)
 have k2:(kb+1=9)=False:=eq_false (by omega)
 have k3:(kb+5=5)=False:=eq_false (by omega)
 simp only[h5,k1,go_sem,seval]
 cases ho:decide (p.op.bs=[114,101,97,100])
 ·simp only[go_sem,seval]
  refine F0 p hks hk kb eo ew h hkb hkb2 _ (by simp;omega) ih v _ (by rw[aH,if_neg (by omega)];exact h5) (by rw[aH,if_neg (by omega)];exact h9) ?_ ?_ _ rfl
  ·simpa using hout.put (.inr (by omega))
  ·intro q q1 q2 q3
   rw[aH,if_neg (by omega)]
 ·simp only[h5,k1,go_sem,seval]
  obtain⟨k,ho1,hk1,hk2⟩:=hout
  refine pY (k1:=k) (ho1.mono (by rw[aH,if_neg (by omega)])) (El.ints es) (El.ints [p.value]) (by simp) (by simp[big]at *;omega) (by omega) ?_
  intro v' rd pa ho2 hkeep
  have m1:(5=kb+5)=False:=eq_false (by omega)
  have m2:(5=k)=False:=eq_false (by omega)
  have m3:(9=kb+5)=False:=eq_false (by omega)
  have m4:(9=k)=False:=eq_false (by omega)
  have m5:(kb=4)=False:=eq_false (by omega)
  have m6:(kb+1=k)=False:=eq_false (by omega)
  have m7:(kb+1=kb+5)=False:=eq_false (by omega)
  have hg5:=(hkeep 5 (by omega) (by omega)).trans ((by rw[aH,if_neg (by omega)]:_=h.get 5).trans h5)
  have hg9:=(hkeep 9 (by omega) (by omega)).trans ((by rw[aH,if_neg (by omega)]:_=h.get 9).trans h9)
  obtain⟨f1,f2,f3⟩:=ho2.one
  simp only[hg5,k1,k3,f1,f2,f3,hkeep,m1,m2,m5,m6,m7,Nat.zero_add,go_sem,seval]
  refine F0 p hks hk kb eo ew h hkb hkb2 (es++[p.value]) (by rw[List.length_append,List.length_singleton];omega) ih v' _ ?_ ?_ ?_ ?_ _ ?_
  rotate_right
  ·rfl
  ·rw[aH,if_pos rfl]
  ·rw[aH,if_neg (by omega)];exact hg9
  ·refine Out.put ⟨kb+5,by rw[List.map_append];exact ho2,by omega,by omega⟩ (.inl (by omega))
  ·intro q q1 q2 q3
   rw[aH,if_neg (Ne.symm q1),hkeep q (by omega) (by intro h;subst h;omega),aH,if_neg (by omega)]
end
end Go.Tev
end
section
namespace Go.Tev
def xD(x:Int):List Int->List Int
 |[]=>[x]
 |y::r=>if x<=y then x::y::r else y::xD x r
def jE:List Int->List Int
 |[]=>[]
 |x::r=>xD x (jE r)
def d7:List Int->List Int
 |[]=>[]
 |[x]=>[x]
 |x::y::r=>if x=y then d7 (y::r) else x::d7 (y::r)
theorem E3(x:Int):∀l,(xD x l).length=l.length+1
 |[]=>rfl
 |y::r=>by simp only[xD];split<;>simp[E3 x r]
theorem kX:∀l,(jE l).length=l.length
 |[]=>rfl
 |x::r=>by simp[jE,E3,kX r]
theorem oZ:∀l:List Int,(d7 l).length<=l.length
 |[]=>by simp[d7]
 |[x]=>by simp[d7]
 |x::y::r=>by
  have:=oZ (y::r)
  simp only[d7];split<;>simp at * <;> omega
theorem yX(x a:Int):∀l,a∈xD x l↔a=x\/a∈l
 |[]=>by simp[xD]
 |y::r=>by
  simp only[xD]
  split
  ·simp
  ·simp[yX x a r]
   constructor<;>intro h<;>rcases h with h|h|h<;>simp[h]
theorem mK(a:Int):∀l,a∈jE l↔a∈l
 |[]=>by simp[jE]
 |x::r=>by simp[jE,yX,mK a r]
theorem lD(a:Int):∀l:List Int,a∈d7 l↔a∈l
 |[]=>by simp[d7]
 |[x]=>by simp[d7]
 |x::y::r=>by
  have:=lD a (y::r)
  simp only[d7]
  split
  ·rename_i h
   subst h
   simp[this]
  ·simp[this]
structure J1(pg:Pg):Prop where
 sort:∀(kb:Nat)(h:Hp)(k e:Nat)(l:List Int),h.get k=some (e,.blk (l.map aG) 1 false false false)->l.length<=big->pZ pg 75 [.rf k e 0 l.length l.length] kb h (.tup []) (h.put k e (.blk ((jE l).map aG) 1 false false false))
 sortN:∀(kb:Nat)(h:Hp)(nl cl:Bool),pZ pg 75 [.sl nl [] cl] kb h (.tup []) h
 comp:∀(kb:Nat)(h:Hp)(k e:Nat)(l:List Int),h.get k=some (e,.blk (l.map aG) 1 false false false)->l.length<=big ->
  ∃tl,pZ pg 76 [.rf k e 0 l.length l.length] kb h (.rf k e 0 (d7 l).length l.length) (h.put k e (.blk ((d7 l).map aG++tl) 1 false false false))
 compN:∀(kb:Nat)(h:Hp)(nl cl:Bool),pZ pg 76 [.sl nl [] cl] kb h (.sl nl [] cl) h
def bR(p:aC):List Int:=d7 (jE (dU p))
theorem fX:∀(l:List Int),bG 1 false (l.map aG)=some (l.map aG)
 |[]=>rfl
 |x::r=>by
  have ih:=fX r
  rw[List.map_cons,bG,ih];rfl
section
variable{pg:Pg}
theorem lT.mono{f:Nat}{vs:List AV}{kb:Nat}{h:Hp}{P P':AV->Hp->Prop}(hr:lT pg f vs kb h P)(hP:∀r h',P r h'->P' r h'):lT pg f vs kb h P':=by
 obtain⟨r,h',a,b⟩:=hr
 exact⟨r,h',a,hP r h' b⟩
theorem c48(S:J1 pg)(hf:pg.fs 48=some cf48)(h74:pg.fs 74=some cf74)(p:aC)(hp:p.ok)(hsz:p.sz<=big):bJ pg 48 [p.av] (kO 1 false ((bR p).map aG)):=by
 refine bJ.ofX hf ?_
 unfold cf48
 simp only[go_sem,seval]
 refine wC (P:=fun r h'=>r = .tup []/\∃v',h'.get 5=some (0,.blk [v'] 1 false true false)/\Out h' v' ([]++dU p)) (.inr ?_) (B:=(0+13+1)*65536) rfl ?_ ?_
 ·refine rS (x:=.pt 9 0 0) (by simp) (sP (f:=74) (cs:=[.pt 5 0 0,.pt 9 0 0]) (ti:=true) (fz:=false) ?_ (by simp) _)
  simp only[go_sem,seval]
 ·rw[<-aC.avc]
  refine lT.mono (c74 h74 p hp ((0+13+1)*65536) _ (.sl true [] true) [] 0 0 (by omega) (by omega) (by simpa using hsz) ?_ ?_ ?_) ?_
  ·simp only[go_sem,seval]
  ·simp only[go_sem,seval]
  ·exact⟨65536+5,Own.nil _ _ _ _ _ _ rfl,by omega,by omega⟩
  ·rintro r h' ⟨q1,q2,_⟩
   exact⟨q1,q2.elim fun v' hv=>⟨v',hv.1,hv.2⟩⟩
 ·rintro r h' ⟨rfl,v,h5,k,ho,hk1,hk2⟩
  rw[List.nil_append]at ho
  have hlen:(dU p).length<=big:=Nat.le_trans (pH p) hsz
  simp only[h5,go_sem,seval]
  rcases ho with ⟨hnil,nl,cl,rfl,hc⟩|⟨e,cs,rfl,hg,hu⟩
  ·refine jO (.inl rfl) rfl (S.sortN _ _ nl cl) ?_
   simp only[h5,go_sem,seval]
   refine jO (.inl rfl) rfl (S.compN _ _ nl cl) ?_
   simp only[go_sem,seval]
   have hn:dU p=[]:=by simpa using hnil
   exact .inl ⟨by simp[bR,hn,jE,d7],nl,cl,rfl,hc⟩
  ·rw[fX]at hu
   cases hu
   have e1:((dU p).map aG).length=(dU p).length:=by simp
   rw[e1]
   refine jO (.inl rfl) rfl (S.sort _ h' k e (dU p) hg hlen) ?_
   have n5:(k=5)=False:=eq_false (by omega)
   have n5':(5=k)=False:=eq_false (by omega)
   simp only[h5,n5,go_sem,seval]
   have hc:=S.comp (jB 0 21 [.rf k e 0 (dU p).length (dU p).length]) (h'.put k e (.blk ((jE (dU p)).map aG) 1 false false false)) k e (jE (dU p)) (by rw[aH,if_pos rfl]) (by rw[kX];exact hlen)
   rw[kX]at hc
   obtain⟨tl,hc⟩:=hc
   refine jO (.inl rfl) rfl hc ?_
   obtain⟨cs,q1,q2,q3,q4⟩:=cL (El.ints (bR p))
   rw[fX]at q1
   cases q1
   have hl:((bR p).map aG).length=(d7 (jE (dU p))).length:=by simp[bR]
   have hq:=q4 tl
   rw[hl]at hq
   have hsn:∀h,cG (snap 64 h) ((bR p).map aG)=some ((bR p).map aG,[]):=fun h=>d8 63 h (nC _)
   simp only[conv,go_sem,seval]
   simp only[show List.map aG (d7 (jE (dU p)))=List.map aG (bR p) from rfl,hq,depth,hsn]
   exact⟨_,by simp,.inr rfl⟩
end
end Go.Tev
end
section
namespace Go.Tev
def kJ:Nat->Nat->List UInt8
 |0,_=>[]
 |f+1,u=>if u<10 then [UInt8.ofNat (48+u)] else kJ f (u / 10)++[UInt8.ofNat (48+u % 10)]
def i8(acc:Nat)(l:List UInt8):Nat:=l.foldl (fun a c=>a*10+(c.toNat-48)) acc
theorem zX:∀(l:List UInt8)(acc:Nat),acc<=i8 acc l
 |[],acc=>Nat.le_refl _
 |c::r,acc=>by
  have:=zX r (acc*10+(c.toNat-48))
  simp only[i8,List.foldl_cons]at this ⊢
  omega
theorem FO:∀(l:List UInt8)(acc:Nat),l.all bA=true->i8 acc l<(acc+1)*10 ^ l.length
 |[],acc,_=>by simp[i8]
 |c::r,acc,h=>by
  simp only[List.all_cons,Bool.and_eq_true,bA,decide_eq_true_eq]at h
  have:=FO r (acc*10+(c.toNat-48)) (by simpa[bA] using h.2)
  simp only[i8,List.foldl_cons,List.length_cons,Nat.pow_succ]at this ⊢
  refine Nat.lt_of_lt_of_le this ?_
  rw[Nat.mul_comm (10 ^ r.length) 10,<-Nat.mul_assoc]
  exact Nat.mul_le_mul_right _ (by omega)
theorem H6(l:List UInt8)(c:UInt8)(acc:Nat):i8 acc (l++[c])=i8 acc l*10+(c.toNat-48):=by simp[i8]
theorem tX:∀(l:List UInt8)(acc:Nat),l.all bA=true->i8 acc l<1844674407370955162->Lib.parseUint10 acc l = .ok (i8 acc l)
 |[],acc,_,_=>rfl
 |c::r,acc,h,hb=>by
  simp only[List.all_cons,Bool.and_eq_true]at h
  have hd:=h.1
  simp only[bA,Bool.and_eq_true,decide_eq_true_eq]at hd
  have h1:=zX r (acc*10+(c.toNat-48))
  have e:i8 acc (c::r)=i8 (acc*10+(c.toNat-48)) r:=rfl
  rw[e]at hb ⊢
  rw[Lib.parseUint10,if_pos hd,if_neg (by omega),if_neg (by omega)]
  exact tX r _ h.2 hb
theorem B9{l:List UInt8}(h:l.all bA=true)(h0:l≠[])(hh:l.head? ≠ some 48):0<i8 0 l:=by
 cases l with
 |nil=>exact absurd rfl h0
 |cons c r=>
  simp only[List.all_cons,Bool.and_eq_true,bA,decide_eq_true_eq]at h
  have h1:=zX r (0*10+(c.toNat-48))
  have h2:c.toNat≠48:=fun e=>hh (by simp;exact UInt8.toNat_inj.1 e)
  have e:i8 0 (c::r)=i8 (0*10+(c.toNat-48)) r:=rfl
  rw[e]
  omega
theorem FN:∀(n f:Nat)(l:List UInt8),l.length=n->n<=f->l.all bA=true->l≠[]->l.head? ≠ some 48->kJ f (i8 0 l)=l
 |0,f,l,hn,_,_,h0,_=>absurd (List.eq_nil_of_length_eq_zero hn) h0
 |n+1,f,l,hn,hf,hd,h0,hh=>by
  obtain⟨f,rfl⟩:∃g,f=g+1:=⟨f-1,by omega⟩
  obtain⟨l',c,rfl⟩:∃l' c,l=l'++[c]:=by
   rcases List.eq_nil_or_concat l with h|⟨l',c,h⟩
   ·exact absurd h h0
   ·exact⟨l',c,by simpa using h⟩
  simp only[List.all_append,List.all_cons,List.all_nil,Bool.and_true,Bool.and_eq_true]at hd
  have hc:=hd.2
  simp only[bA,Bool.and_eq_true,decide_eq_true_eq]at hc
  have hcc:UInt8.ofNat (48+(c.toNat-48))=c:=by rw[Nat.add_sub_cancel' hc.1];exact UInt8.ofNat_toNat
  rw[H6]
  by_cases hl:l'=[]
  ·subst hl
   have:i8 0 []=0:=rfl
   rw[this,kJ,if_pos (by omega)]
   simp only[Nat.zero_mul,Nat.zero_add,List.nil_append]
   rw[hcc]
  ·have hh':l'.head? ≠ some 48:=by
    cases l' with
    |nil=>exact absurd rfl hl
    |cons x r=>simpa using hh
   have hp:=B9 hd.1 hl hh'
   rw[kJ,if_neg (by omega)]
   have e1:(i8 0 l'*10+(c.toNat-48)) / 10=i8 0 l':=by omega
   have e2:(i8 0 l'*10+(c.toNat-48)) % 10=c.toNat-48:=by omega
   rw[e1,e2,hcc,FN n f l' (by simpa using hn) (by omega) hd.1 hl hh']
theorem zW:∀(f u:Nat),0<u->u<10 ^ f->(kJ f u).all bA=true/\kJ f u≠[]/\(kJ f u).head? ≠ some 48
 |0,u,h,hu=>by simp at hu;omega
 |f+1,u,h,hu=>by
  have hof:∀n:Nat,n<10->(UInt8.ofNat (48+n)).toNat=48+n:=fun n hn=>by simp;omega
  rw[kJ]
  split
  ·rename_i h1
   refine⟨by simp[bA,hof u h1];omega,by simp,?_⟩
   intro he
   simp only[List.head?_cons,Option.some.injEq]at he
   have:=congrArg UInt8.toNat he
   rw[hof u h1]at this
   simp at this
   omega
  ·obtain⟨a,b,c⟩:=zW f (u / 10) (by omega) (by rw[Nat.pow_succ]at hu;omega)
   refine⟨?_,by simp,?_⟩
   ·rw[List.all_append,a]
    simp[bA,hof (u % 10) (by omega)]
    omega
   ·cases hx:kJ f (u / 10) with
    |nil=>exact absurd hx b
    |cons x r=>rw[hx]at c;simpa using c
def jN(t:List UInt8):Bool:=
 match Lib.atoiAll t with
 |.ok v=>decide (0<v)&&decide ((t.length:Int)+1<=10)&&decide (kJ 20 v.toNat=t)
 |_=>false
theorem F2(t:List UInt8):jN t=(decide (2<=t.length+1)&&decide (t.length+1<=10) && !decide (t.head?=some 48)&&t.all bA):=by
 cases hr:(decide (2<=t.length+1)&&decide (t.length+1<=10) && !decide (t.head?=some 48)&&t.all bA)
 ·cases ha:jN t
  ·rfl
  ·exfalso
   simp only[jN]at ha
   split at ha
   ·rename_i v hv
    simp only[Bool.and_eq_true,decide_eq_true_eq]at ha
    obtain⟨⟨h1,h2⟩,h3⟩:=ha
    obtain⟨hb1,hb2⟩:v.toNat<10 ^ 20/\0<v.toNat:=by
     have hv2:v.toNat<18446744073709551616:=by
      cases t with
      |nil=>simp[Lib.atoiAll]at hv
      |cons c r=>
       simp only[Lib.atoiAll]at hv
       split at hv
       ·cases hv
       ·cases hv
       ·rename_i u hu
        have:=Lib.parseMag_lt hu
        split at hv
        ·cases hv
        ·split at hv
         ·cases hv
         ·injection hv with hv
          split at hv<;>omega
     exact⟨by omega,by omega⟩
    obtain⟨a,b,c⟩:=zW 20 v.toNat hb2 hb1
    rw[h3]at a b c
    have hlen:0<t.length:=List.length_pos_iff.2 b
    simp[a,c]at hr
    omega
   ·cases ha
 ·simp only[Bool.and_eq_true,Bool.not_eq_true',decide_eq_true_eq,decide_eq_false_iff_not]at hr
  obtain⟨⟨⟨h1,h2⟩,h3⟩,h4⟩:=hr
  have h0:t≠[]:=by rintro rfl;simp at h1
  have hlt:=FO t 0 h4
  have hpow:(10:Nat) ^ t.length<=10 ^ 9:=Nat.pow_le_pow_right (by decide) (by omega)
  have hsm:i8 0 t<1844674407370955162:=by
   have:(10:Nat) ^ 9=1000000000:=by decide
   omega
  have hp:=tX t 0 h4 hsm
  have hpos:=B9 h4 h0 h3
  have hv:Lib.atoiAll t = .ok ((i8 0 t:Nat):Int):=by
   cases t with
   |nil=>exact absurd rfl h0
   |cons c r=>
    have hc:bA c=true:=by simp only[List.all_cons,Bool.and_eq_true]at h4;exact h4.1
    simp only[bA,Bool.and_eq_true,decide_eq_true_eq]at hc
    simp only[Lib.atoiAll]
    rw[if_neg (by omega)]
    simp only[Lib.parseMag]
    rw[if_neg (by simp),hp]
    simp only
    rw[if_neg (by omega),if_neg (by omega),if_neg (by omega)]
  have hd:=FN t.length 20 t rfl (by omega) h4 h0 h3
  simp only[jN,hv,Int.toNat_natCast,hd,decide_true,Bool.and_true,Bool.and_eq_true,decide_eq_true_eq]
  omega
end Go.Tev
end
