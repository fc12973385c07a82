import Derived.Test.YtmcadllokkmeiaaGreatDoorSAY
import Derived.Test.YtmcadllokkmeiaaGreatDoorSAS
set_option linter.all false
section
namespace Go.Tev
def pS(op res:List UInt8):List (List UInt8)->List Bool->Bool
 | c::cs,b::bs=>(!((decide (c=[98,111,111,108]) && !decide (op=[115,101,108,101,99,116]))||decide (c=res))||b)&&pS op res cs bs
 |_,_=>true
def nV(op:List UInt8)(kids:List Bool):Bool:=
 match hU op with
 |none=>false
 |some p=>decide ((p.params.length:Int)=(kids.length:Int))&&(!decide (p.result=[105,110,116])&&pS op p.result p.params kids)
theorem IW(r:qZ)(hr:r∈jC)(kids:List Bool):(decide ((r.params.length:Int)=(kids.length:Int))&&(!decide (r.result=[105,110,116])&&pS r.op r.result r.params kids)) =
  (if qE r.op then decide ((kids.length:Int)=2) else if decide (r.op=[115,101,108,101,99,116]) then J2 kids
   else decide (r.result=[98,111,111,108])&&decide ((r.params.length:Int)=(kids.length:Int)) && !kids.any (fun b=>b==false)):=by
 simp only[jC,List.mem_cons,List.not_mem_nil,or_false]at hr
 have q1:∀n:Nat,((1:Int)=(n:Int)+1+1+1+1)=False:=fun n=>eq_false (by omega)
 have q2:∀n:Nat,((2:Int)=(n:Int)+1+1+1+1)=False:=fun n=>eq_false (by omega)
 have q3:∀n:Nat,((3:Int)=(n:Int)+1+1+1+1)=False:=fun n=>eq_false (by omega)
 rcases kids with _|⟨a,_|⟨b,_|⟨c,_|⟨d,l⟩⟩⟩⟩
 all_goals (rcases hr with rfl|rfl|rfl|rfl|rfl|rfl|rfl|rfl|rfl|rfl|rfl|rfl|rfl|rfl|rfl|rfl|rfl|rfl|rfl|rfl|rfl|rfl)
 all_goals (simp[qE,J2,pS,fB,jW,sA])
 all_goals (first|omega|simp[q1,q2,q3])
section
variable{pg:Pg}
theorem c123(hf:pg.fs 123=some cf123)(h40:pg.fs 40=some cf40)(h164:∀v:Int,∀p:aC,p.ok->∀(nl cl:Bool) (vars:List Str),vars.length+p.sz<=big->Ret pg 164 [p.av,.sl nl (vars.map Str.av) cl,.int .i64 v] (.bool (fZ v p vars)))
  (p:aC) (hp:p.ok) (nl cl:Bool) (vars:List Str) (hb:vars.length+p.sz<=big) (v:Int):Ret pg 123 [p.av,.sl nl (vars.map Str.av) cl,.int .i64 v] (.bool (gB p vars v)):=by
 have a1:=c40 h40 p hp
 have a2:=h164 v p hp nl cl vars hb
 rw[aC.avc]at a1 a2
 refine Ret.ofX hf ?_
 clear h40 h164
 unfold cf123
 simp only[go_sem,seval]
 refine aB a1 (by simp only[go_sem,seval]) rfl ?_
 cases c1:decide (oQ p<=4000)
 ·simp only[c1,go_sem,seval]
  simp[gB,c1]
 ·simp only[c1,go_sem,seval]
  refine aB a2 (by simp only[go_sem,seval]) rfl ?_
  simp only[go_sem,seval]
  simp[gB,c1]
theorem LK(op:List UInt8)(kids:List Bool):nV op kids=eT op kids:=by
 simp only[nV,eT]
 cases hp:hU op with
 |none=>
  have hn:=List.find?_eq_none.1 hp
  have h1:qE op=false:=by
   cases h:qE op
   ·rfl
   ·exfalso
    simp only[qE,Bool.or_eq_true,decide_eq_true_eq]at h
    rcases h with ((((h|h)|h)|h)|h)|h<;>(subst h;exact absurd hp (by decide +revert))
  have h2:¬decide (op=[115,101,108,101,99,116])=true:=by
   intro h
   have h:=of_decide_eq_true h
   subst h
   exact absurd hp (by decide +revert)
  rw[h1,if_neg (by decide),if_neg h2]
 |some p=>
  have hm:p∈jC:=List.mem_of_find?_eq_some hp
  have ho:p.op=op:=by simpa using List.find?_some hp
  subst ho
  exact IW p hm kids
theorem c120(hf:pg.fs 120=some cf120)(h125:∀op,bL pg 125 [.str op] (iJ op))(op:List UInt8)(nl cl:Bool)(kids:List Bool)(hb:kids.length<=big):Ret pg 120 [.str op,.sl nl (kids.map AV.bool) cl] (.bool (eT op kids)):=by
 rw[<-LK]
 obtain⟨rr,hr,hR⟩:=h125 op
 refine Ret.ofX hf ?_
 unfold cf120
 simp only[go_sem,seval]
 simp only[iJ]at hR
 cases hpt:hU op with
 |none=>
  rw[hpt]at hR
  dsimp only at hR
  subst hR
  have hs:nV op kids=false:=by simp only[nV,hpt]
  rw[hs]
  refine aB hr (by simp only[go_sem,seval]) rfl ?_
  simp only[go_sem,seval]
 |some p=>
  rw[hpt]at hR
  dsimp only at hR
  obtain⟨nl2,cl2,rfl⟩:=hR
  have hs:nV op kids=(decide ((p.params.length:Int)=(kids.length:Int))&&(!decide (p.result=[105,110,116])&&pS op p.result p.params kids)):=by simp only[nV,hpt]
  rw[hs]
  clear hs hpt
  refine aB hr (by simp only[go_sem,seval]) rfl ?_
  clear hr
  cases k1:decide ((p.params.length:Int)=(kids.length:Int))
  case false=>
   simp only[k1,go_sem,seval]
  case true=>
  cases k2:decide (p.result=[105,110,116])
  case true=>
   simp only[k1,k2,go_sem,seval]
  case false=>
  have hl:p.params.length=kids.length:=by have:=of_decide_eq_true k1;omega
  simp only[k1,k2,go_sem,seval]
  refine aG (p.params.zip kids) (fun d r env hp=>env=cf120E0 (.str op) (.sl nl (kids.map AV.bool) cl) (.sl nl2 (p.params.map AV.str) cl2) (.str p.result) (.int .i64 d.length)/\pS op p.result p.params kids=pS op p.result (p.params.drop d.length) (kids.drop d.length)) ?_ ?_ ?_
  ·exact⟨rfl,rfl⟩
  ·rintro env hp ⟨rfl,hI⟩
   have hz:(p.params.zip kids).length=p.params.length:=by rw[List.length_zip,hl];simp
   rw[hz]at hI ⊢
   rw[List.drop_length]at hI
   simp only[cf120L0,cf120E0,aX,go_sem,seval]
   rw[hI];simp[pS]
  ·rintro d ⟨c,b⟩ r env hp hes ⟨rfl,hI⟩
   obtain⟨ga,gb,la,lb⟩:=GR hes
   have e1:decide ((d.length:Int)<(p.params.length:Int))=true:=by simp;omega
   have e2:((d.length:Int)<(p.params.length:Int))=True:=eq_true (by omega)
   have e4:((d.length:Int)<(kids.length:Int))=True:=eq_true (by omega)
   have ew:wr .i64 ((d.length:Int)+1)=((d++[(c,b)]).length:Int):=by
    simp only[big]at hb
    rw[aR (by omega) (by omega)];simp
   have hst:pS op p.result p.params kids=((!((decide (c=[98,111,111,108]) && !decide (op=[115,101,108,101,99,116]))||decide (c=p.result))||b)&&pS op p.result (p.params.drop (d++[(c,b)]).length) (kids.drop (d++[(c,b)]).length)):=by
    rw[hI,List.drop_eq_getElem_cons la,List.drop_eq_getElem_cons lb,pS]
    rw[List.getElem?_eq_getElem la]at ga
    rw[List.getElem?_eq_getElem lb]at gb
    cases ga;cases gb
    simp
   rw[hst]
   clear hI hst
   cases z1:decide (c=[98,111,111,108])
   ·cases z3:decide (c=p.result)
    ·simp only[cf120L0,cf120E0,e1,e2,e4,ga,gb,z1,z3,ew,go_sem,seval]
     rfl
    ·cases b
     ·simp only[cf120L0,cf120E0,e1,e2,e4,ga,gb,z1,z3,go_sem,seval]
     ·simp only[cf120L0,cf120E0,e1,e2,e4,ga,gb,z1,z3,ew,go_sem,seval]
      rfl
   ·cases z2:decide (op=[115,101,108,101,99,116])
    ·cases b
     ·simp only[cf120L0,cf120E0,e1,e2,e4,ga,gb,z1,z2,go_sem,seval]
     ·simp only[cf120L0,cf120E0,e1,e2,e4,ga,gb,z1,z2,ew,go_sem,seval]
      rfl
    ·cases z3:decide (c=p.result)
     ·simp only[cf120L0,cf120E0,e1,e2,e4,ga,gb,z1,z2,z3,ew,go_sem,seval]
      rfl
     ·cases b
      ·simp only[cf120L0,cf120E0,e1,e2,e4,ga,gb,z1,z2,z3,go_sem,seval]
      ·simp only[cf120L0,cf120E0,e1,e2,e4,ga,gb,z1,z2,z3,ew,go_sem,seval]
       rfl
theorem c84(hf:pg.fs 84=some cf84)(h120:∀(op:List UInt8) (nl cl:Bool) (kids:List Bool),kids.length<=big->Ret pg 120 [.str op,.sl nl (kids.map AV.bool) cl] (.bool (eT op kids)))
  (nl cl:Bool) (code:List aI) (hb:code.length<=16777216) (nl' cl':Bool) (args:List Bool) (hb':args.length<=16777216):Ret pg 84 [.sl nl (code.map aI.av) cl,.sl nl' (args.map AV.bool) cl'] (.bool (cW code args)):=by
 refine Ret.ofX hf ?_
 unfold cf84
 simp only[go_sem,seval]
 refine eU (kb:=0) (s:=1) (Own.nil _ _ _ _ _ _ rfl) (by simp) (El.bools args) (by simp;omega) (by decide) ?_
 intro v0 rd pa ho0 hk0 _
 simp only[go_sem,seval]
 refine aG code (fun d r env hp=>∃v l,env=cf84E1 (.sl nl (code.map aI.av) cl) v (.int .i64 d.length)/\u7 hp [1,9,21] v l/\l.length=args.length+d.length/\lB args code=lB l r) ?_ ?_ ?_
 ·exact⟨v0,args,rfl,⟨1,by simp,ho0⟩,by simp,rfl⟩
 ·rintro env hp ⟨v,l,rfl,ho,hl,hI⟩
  have hlen:=ho.flen
  have hll:∀(l':List Bool)(b:Bool),(l'.length:Int)<((l'++[b]).length:Int):=by
   intro l' b;rw[List.length_append,List.length_singleton];omega
  simp only[lB]at hI
  have hsp:cW code args=l.getLast?.getD false:=by rw[cW,hI]
  rw[hsp]
  rcases List.eq_nil_or_concat l with rfl|⟨l',b,rfl⟩
  ·simp only[cf84L1,cf84E1,↓hlen,go_sem,seval]
   rfl
  ·rw[List.concat_eq_append]at *
   obtain⟨k,e,rfl,hg,_⟩:=ho.at (n:=(l'.length:Int)) (by omega) (hll l' b)
   have hw:wr .i64 (((l'++[b]).length:Int)-1)=(l'.length:Int):=by
    simp only[List.length_append,List.length_cons,List.length_nil]at *
    rw[aR (by omega) (by omega)];omega
   have hlt:decide ((0:Int)<((l'++[b]).length:Int))=true:=by have:=hll l' b;simp only[decide_eq_true_eq];omega
   have hlt2:((l'.length:Int)<((l'++[b]).length:Int))=True:=eq_true (hll l' b)
   have hgm:((l'++[b]).map AV.bool)[l'.length]?=some (.bool b):=by simp
   simp only[cf84L1,cf84E1,↓hlen,hlt,hw,hlt2,Nat.mul_one,Nat.zero_add,hg,go_sem,seval]
   simp
 ·rintro d x r env hp hes ⟨v,l,rfl,ho,hl,hI⟩
  subst hes
  have hks:∀k∈([1,9,21]:List Nat),k=1\/k=9\/k=21:=by simp
  have hd:d.length<=16777216:=by simp at hb;omega
  have hb2:(d++x::r).length<=big:=by simp only[big];omega
  simp only[lB]at hI
  cases hc:oX x.op.bs
  case true=>
   have hst:lH l x=(decide (x.num=0)||decide (x.num=1)):=by simp[lH,hc]
   have hfin:∀(hp':Hp)(c:Bool),(∀k,k≠5->hp'.get k=hp.get k)->c=lH l x->∀(Q:AV->Eff->Prop)(t:Tok Q),
     (∀v' rd pa,u7 (Eff.app hp' (.pat rd pa)) [1,9,21] v' (l++[lH l x])->Q v' (.pat rd pa))->XO pg 0 (.app 1 false 1) 9 hp' [v,.sl false [.bool c] true] Q t:=by
    intro hp' c hk hcc Q t hq
    obtain⟨k,hkm,ho'⟩:=ho
    refine pA (kb:=0) (s:=9) (k1:=k) (ho'.mono (hk k (by rcases hks k hkm with h|h|h<;>omega))) (El.bools l) (xs:=[.bool c]) (by intro y hy;simp at hy;subst hy;exact El.bool _) (by simp) (by simp;omega) (by omega) ?_
    intro v' rd pa ho2 _
    exact hq v' rd pa ⟨9,by simp,by simpa[hcc] using ho2⟩
   have hgp:∀o1 o2 k,k≠5->((hp.put 5 (hp.next 5) o1).put 5 (hp.next 5) o2).get k=hp.get k:=by
    intro o1 o2 k hk;rw[aD,if_neg (Ne.symm hk),aD,if_neg (Ne.symm hk)]
   have hor:decide (x.op.bs=[99,111,110,115,116])=true\/(decide (x.op.bs=[99,111,110,115,116])=false/\decide (x.op.bs=[116,114,117,116,104])=true):=by
    unfold oX at hc
    cases h1:decide (x.op.bs=[99,111,110,115,116])
    ·rw[h1]at hc;exact .inr ⟨rfl,by simpa using hc⟩
    ·exact .inl rfl
   rcases hor with c1|⟨c1,c2⟩
   ·cases c3:decide (x.num=0)
    ·simp only[cf84L1,cf84E1,c1,c3,go_sem,seval]
     refine hfin _ _ (hgp _ _) (by rw[hst,c3];rfl) _ _ ?_
     intro v' rd pa ho2
     simp only[aM hb2,go_sem,seval]
     exact⟨v',_,rfl,ho2,by simp;omega,hI⟩
    ·simp only[cf84L1,cf84E1,c1,c3,go_sem,seval]
     refine hfin _ _ (hgp _ _) (by rw[hst,c3];rfl) _ _ ?_
     intro v' rd pa ho2
     simp only[aM hb2,go_sem,seval]
     exact⟨v',_,rfl,ho2,by simp;omega,hI⟩
   ·cases c3:decide (x.num=0)
    ·simp only[cf84L1,cf84E1,c1,c2,c3,go_sem,seval]
     refine hfin _ _ (hgp _ _) (by rw[hst,c3];rfl) _ _ ?_
     intro v' rd pa ho2
     simp only[aM hb2,go_sem,seval]
     exact⟨v',_,rfl,ho2,by simp;omega,hI⟩
    ·simp only[cf84L1,cf84E1,c1,c2,c3,go_sem,seval]
     refine hfin _ _ (hgp _ _) (by rw[hst,c3];rfl) _ _ ?_
     intro v' rd pa ho2
     simp only[aM hb2,go_sem,seval]
     exact⟨v',_,rfl,ho2,by simp;omega,hI⟩
  have hst:lH l x=eT x.op.bs (x.args.es.map (lI l)):=by simp[lH,hc]
  simp only[oX,Bool.or_eq_false_iff]at hc
  obtain⟨c1,c2⟩:=hc
  have hxl:=x.args.ok
  obtain⟨hget,e1,e2,ew⟩:=cJ rfl hb2
  simp only[cf84L1,cf84E1,c1,c2,go_sem,seval]
  have hlen:=ho.flen
  have hll:(l.length:Int)<=33554432:=by simp only[List.length_append,List.length_cons]at hb;omega
  have hgp:∀o1 o2 k,k≠5->((hp.put 5 (hp.next 5) o1).put 5 (hp.next 5) o2).get k=hp.get k:=by
   intro o1 o2 k hk;rw[aD,if_neg (Ne.symm hk),aD,if_neg (Ne.symm hk)]
  have hg5:∀o1 o2,((hp.put 5 (hp.next 5) o1).put 5 (hp.next 5) o2).get 5=some (hp.next 5,o2):=by
   intro o1 o2;rw[aD,if_pos rfl]
  generalize hH:(hp.put 5 (hp.next 5) (Ob.blk [AV.str [],AV.int IntKind.i64 0,AV.sl true [] true] 3 true true false)).put 5 (hp.next 5) (Ob.blk [AV.str x.op.bs,AV.int IntKind.i64 x.num,AV.sl x.args.nl (List.map aH x.args.es) x.args.cl] 3 true true false)=H
  have hH5:H.get 5=some (hp.next 5,Ob.blk [AV.str x.op.bs,AV.int IntKind.i64 x.num,AV.sl x.args.nl (List.map aH x.args.es) x.args.cl] 3 true true false):=by rw[<-hH];exact hg5 _ _
  have hHk:∀k,k≠5->H.get k=hp.get k:=by intro k hk;rw[<-hH];exact hgp _ _ k hk
  clear hgp hg5 hH
  refine aG x.args.es (fun d2 r2 env hp'=>∃v8,env=cf84E0 (.sl nl ((d++x::r).map aI.av) cl) v (.int .i64 d.length) (.pt 5 (hp.next 5) 0) v8 (.int .i64 d2.length) /\
   Own hp' 13 1 false v8 ((d2.map (lI l)).map AV.bool)/\∀k,k≠13->hp'.get k=H.get k) ?_ ?_ ?_
  ·exact⟨_,rfl,Own.nil _ _ _ _ _ _ rfl,fun _ _=>rfl⟩
  ·rintro env hp' ⟨v8,rfl,ho8,hfr⟩
   have hg5:=(hfr 5 (by omega)).trans hH5
   simp only[cf84L0,cf84E0,hg5,aX,go_sem,seval]
   obtain⟨nl8,cl8,keys,hsn,hnl8⟩:=ho8.snap (El.bools _) 62
   have h2:=h120 x.op.bs nl8 cl8 (x.args.es.map (lI l)) (by simpa using hxl)
   rw[<-hst]at h2
   refine bT h2 (nZ (by simp only[go_sem,seval]) hsn) (v:=.bool (lH l x)) (pa:=[]) rfl ?_
   simp only[go_sem,seval]
   obtain⟨k,hkm,ho'⟩:=ho
   have hk13:k≠13/\k≠5:=by rcases hks k hkm with h|h|h<;>omega
   refine pA (kb:=0) (s:=21) (k1:=k) (ho'.mono ?_) (El.bools l) (xs:=[.bool (lH l x)]) (by intro y hy;simp at hy;subst hy;exact El.bool _) (by simp) (by simp;omega) (by omega) ?_
   ·rw[hfr k hk13.1,hHk k hk13.2]
   ·intro v' rd pa ho2 _
    simp only[aM hb2,go_sem,seval]
    exact⟨v',_,rfl,⟨21,by simp,by simpa using ho2⟩,by simp;omega,hI⟩
  ·rintro d2 a r2 env hp' hes ⟨v8,rfl,ho8,hfr⟩
   have hb3:(d2++a::r2).length<=big:=by rw[<-hes];exact hxl
   have hfin:∀(c:Bool),c=lI l a->∀(Q:AV->Eff->Prop)(t:Tok Q),
     (∀v' rd pa,Own (Eff.app hp' (.pat rd pa)) 13 1 false v' (((d2++[a]).map (lI l)).map AV.bool)->(∀k,k≠13->(Eff.app hp' (.pat rd pa)).get k=H.get k)->Q v' (.pat rd pa))->XO pg 0 (.app 1 false 1) 13 hp' [v8,.sl false [.bool c] true] Q t:=by
    intro c hcc Q t hq
    refine eU (kb:=0) (s:=13) ho8 (El.bools _) (xs:=[.bool c]) (by intro y hy;simp at hy;subst hy;exact El.bool _) (by simp[big]at *;omega) (by omega) ?_
    intro v' rd pa ho2 hk _
    refine hq v' rd pa (by simpa[hcc] using ho2) (fun k hk13=>?_)
    rw[hk k (by omega),hfr k hk13]
   obtain⟨hget2,f1,f2,fw⟩:=cJ hes hxl
   have hg5:=(hfr 5 (by omega)).trans hH5
   cases z1:decide (0<=a)
   ·simp only[cf84L0,cf84E0,hg5,f1,f2,hget2,z1,go_sem,seval]
    refine hfin _ (by simp[lI,z1]) _ _ ?_
    intro v' rd pa ho2 hk2
    simp only[aM hb3,go_sem,seval]
    exact⟨v',rfl,ho2,hk2⟩
   cases z2:decide (a<(l.length:Int))
   ·simp only[cf84L0,cf84E0,hg5,f1,f2,hget2,z1,z2,↓hlen,go_sem,seval]
    refine hfin _ (by simp[lI,z2]) _ _ ?_
    intro v' rd pa ho2 hk2
    simp only[aM hb3,go_sem,seval]
    exact⟨v',rfl,ho2,hk2⟩
   simp only[decide_eq_true_eq]at z1 z2
   obtain⟨k,e,hv,hg,hkm⟩:=ho.at z1 z2
   have hk13:k≠13/\k≠5:=by rcases hks k hkm with h|h|h<;>omega
   have hgk:hp'.get k=some (e,.blk (l.map AV.bool) 1 false false false):=by rw[hfr k hk13.1,hHk k hk13.2,hg]
   have hla:l[a.toNat]?=some (l[a.toNat]'(by omega)):=List.getElem?_eq_getElem (by omega)
   have z1':(0<=a)=True:=eq_true z1
   have z2':(a<(l.length:Int))=True:=eq_true z2
   have z3:decide (0<=a)=true:=decide_eq_true z1
   have z4:decide (a<(l.length:Int))=true:=decide_eq_true z2
   subst hv
   simp only[cf84L0,cf84E0,hg5,f1,f2,hget2,z3,z4,z1',z2',hgk,hla,Nat.mul_one,Nat.zero_add,go_sem,seval]
   refine hfin _ (by simp[lI,z1,z2,hla]) _ _ ?_
   intro v' rd pa ho2 hk2
   simp only[aM hb3,go_sem,seval]
   exact⟨v',rfl,ho2,hk2⟩
set_option maxHeartbeats 1000000 in
theorem c83(hf:pg.fs 83=some cf83)(h84:∀(nl cl:Bool) (code:List aI),code.length<=16777216->∀(nl' cl':Bool) (args:List Bool),args.length<=16777216->Ret pg 84 [.sl nl (code.map aI.av) cl,.sl nl' (args.map AV.bool) cl'] (.bool (cW code args)))
  (h120:∀(op:List UInt8)(nl cl:Bool)(kids:List Bool),kids.length<=big->Ret pg 120 [.str op,.sl nl (kids.map AV.bool) cl] (.bool (eT op kids)))
  (nl cl:Bool) (vals:List Typ):∀p:aC,p.ok->Ret pg 83 [p.av,.sl nl (vals.map Typ.av) cl] (.bool (dQ vals p)):=by
 refine aC.ind' fun p ih hp=>?_
 obtain⟨hk,hks⟩:=(aC.ok_iff p).1 hp
 refine Ret.ofX hf ?_
 unfold cf83
 simp only[go_sem,seval]
 generalize hH:Hp.put [] 1 0 _=H
 have hH1:H.get 1=some (0,.blk [.str p.op.bs,.int .i64 p.num,.int .i64 p.value,.str p.name.bs,.sl p.at_.nl (p.at_.es.map Lin.av) p.at_.cl,.bool p.dyn,.int .i64 p.check,.sl p.fn.nl (p.fn.es.map aI.av) p.fn.cl,.sl p.knl (p.kids.map aC.av) p.kcl] 9 true true false):=by
  rw[<-hH,aD,if_pos rfl]
 clear hH
 rw[wT]
 refine aG p.kids (fun d r env hp=>∃v,env=cf83E0 (.sl nl (vals.map Typ.av) cl) (.pt 1 0 0) v (.int .i64 d.length)/\Own hp 9 1 false v ((d.map (dQ vals)).map AV.bool)/\hp.get 1=H.get 1) ?_ ?_ ?_
 ·exact⟨_,rfl,Own.nil _ _ _ _ _ _ rfl,rfl⟩
 ·rintro env hp ⟨v,rfl,ho,h1⟩
  rw[hH1]at h1
  have hlen:=ho.flen
  have hkl:(p.kids.map (dQ vals)).length<=big:=by simpa using hk
  generalize p.kids.map (dQ vals)=ks at ho hlen hkl ⊢
  simp only[cf83L0,cf83E0,h1,aX,go_sem,seval]
  cases o1:decide (p.op.bs=[99,111,110,115,116])
  case true=>
   repeat' (first|simp only[*,go_sem,seval]|refine aK (fun _=>?_) (fun _=>?_)|refine aL (fun _=>?_) (fun _=>?_)|refine And.intro (by kernel_rfl) ?_)
   all_goals (simp_all [eF])
  simp only[h1,go_sem,seval]
  cases o2:decide (p.op.bs=[108,105,110,101,97,114])
  case true=>
   simp only[go_sem,seval]
   simp[eF,o1,o2]
  simp only[h1,go_sem,seval]
  cases o3:decide (p.op.bs=[114,101,97,100])
  case true=>
   have hs:eF vals p.op.bs p.num p.value p.fn.es ks=sQ vals p.value:=by simp[eF,o1,o2,o3]
   rw[hs]
   cases z1:decide (0<=p.value)
   ·simp only[h1,z1,go_sem,seval]
    simp[sQ,z1]
   cases z2:decide (p.value<(vals.length:Int))
   ·simp only[h1,z1,z2,go_sem,seval]
    simp[sQ,z2]
   simp only[decide_eq_true_eq]at z1 z2
   have z1':(0<=p.value)=True:=eq_true z1
   have z3:decide (0<=p.value)=true:=decide_eq_true z1
   have z4:decide (p.value<(vals.length:Int))=true:=decide_eq_true z2
   obtain⟨t,hla⟩:∃t,vals[p.value.toNat]?=some t:=⟨_,List.getElem?_eq_getElem (by omega)⟩
   simp only[h1,z3,z4,z1',hla,go_sem,seval]
   simp only[sQ,z3,z4,hla,Option.map_some,Option.getD_some,Bool.true_and]
  simp only[h1,go_sem,seval]
  cases o4:decide (p.op.bs=[105,102])
  case true=>
   have hs:eF vals p.op.bs p.num p.value p.fn.es ks=ifT ks:=by simp[eF,o1,o2,o3,o4]
   rw[hs]
   match ks,ho,hlen,hkl with
   |[],ho,hlen,hkl=>
    simp only[h1,↓hlen,go_sem,seval]
    rfl
   |[a],ho,hlen,hkl=>
    simp only[h1,↓hlen,go_sem,seval]
    rfl
   |a::b::c::r,ho,hlen,hkl=>
    have h3:decide (((((r.length+1+1+1):Nat):Int))=2)=false:=by simp;omega
    simp only[h1,↓hlen,h3,go_sem,seval]
    rfl
   |[a,b],ho,hlen,hkl=>
    obtain⟨e,rfl,hg⟩:∃e,v = .rf 9 e 0 2 2/\hp.get 9=some (e,.blk [.bool a,.bool b] 1 false false false):=by
     rcases ho with ⟨he,_⟩|⟨e,cs,rfl,hg,hu⟩
     ·simp at he
     ·rw[cN]at hu;cases hu
      exact⟨e,rfl,hg⟩
    have q1:(0:Int)<((2:Nat):Int):=by decide
    have q2:(1:Int)<((2:Nat):Int):=by decide
    cases a
    ·simp only[h1,hg,go_sem,seval]
     rfl
    ·simp only[h1,hg,go_sem,seval]
     rfl
  simp only[h1,go_sem,seval]
  cases o5:decide (p.op.bs=[114,101,100,117,99,101])
  case true=>
   have hs:eF vals p.op.bs p.num p.value p.fn.es ks=P8 p.fn.es ks:=by simp[eF,o1,o2,o3,o4,o5]
   rw[hs]
   match ks,ho,hlen,hkl with
   |[],ho,hlen,hkl=>
    simp only[h1,↓hlen,go_sem,seval]
    refine And.intro (by kernel_rfl) ?_
    rfl
   |[a],ho,hlen,hkl=>
    simp only[h1,↓hlen,go_sem,seval]
    refine And.intro (by kernel_rfl) ?_
    rfl
   |a::b::c::r,ho,hlen,hkl=>
    have h3:decide (((((r.length+1+1+1):Nat):Int))=2)=false:=by simp;omega
    simp only[h1,↓hlen,h3,go_sem,seval]
    refine And.intro (by kernel_rfl) ?_
    rfl
   |[a,b],ho,hlen,hkl=>
    obtain⟨e,rfl,hg⟩:∃e,v = .rf 9 e 0 2 2/\hp.get 9=some (e,.blk [.bool a,.bool b] 1 false false false):=by
     rcases ho with ⟨he,_⟩|⟨e,cs,rfl,hg,hu⟩
     ·simp at he
     ·rw[cN]at hu;cases hu
      exact⟨e,rfl,hg⟩
    cases a
    ·simp only[h1,hg,go_sem,seval]
     refine And.intro (by kernel_rfl) ?_
     rfl
    ·simp only[h1,hg,go_sem,seval]
     refine aB (h84 p.fn.nl p.fn.cl p.fn.es p.fn.ok false true [true,b] (by simp)) (by simp only[go_sem,seval]) rfl ?_
     simp only[go_sem,seval]
     refine And.intro (by kernel_rfl) ?_
     rfl
  simp only[h1,go_sem,seval]
  cases o6:decide (p.op.bs=[99,111,100,101])
  case true=>
   have hs:eF vals p.op.bs p.num p.value p.fn.es ks=cW p.fn.es ks:=by simp[eF,o1,o2,o3,o4,o5,o6]
   rw[hs]
   simp only[h1,go_sem,seval]
   obtain⟨nl8,cl8,keys,hsn,hnl8⟩:=ho.snap (El.bools _) 62
   have h2:=h84 p.fn.nl p.fn.cl p.fn.es p.fn.ok nl8 cl8 ks hkl
   refine bT h2 (nZ (by simp only[go_sem,seval]) hsn) (v:=.bool (cW p.fn.es ks)) (pa:=[]) rfl ?_
   simp only[go_sem,seval]
  have hs:eF vals p.op.bs p.num p.value p.fn.es ks=eT p.op.bs ks:=by simp[eF,o1,o2,o3,o4,o5,o6]
  rw[hs]
  simp only[h1,go_sem,seval]
  obtain⟨nl8,cl8,keys,hsn,hnl8⟩:=ho.snap (El.bools _) 62
  have h2:=h120 p.op.bs nl8 cl8 ks hkl
  refine bT h2 (nZ (by simp only[go_sem,seval]) hsn) (v:=.bool (eT p.op.bs ks)) (pa:=[]) rfl ?_
  simp only[go_sem,seval]
 ·rintro d x r env hp hes ⟨v,rfl,ho,h1⟩
  have hxm:x∈p.kids:=by rw[hes];simp
  have hx:=ih x hxm (hks x hxm)
  have hb2:(d++x::r).length<=big:=by rw[<-hes];exact hk
  obtain⟨hget,e1,e2,ew⟩:=cJ hes hk
  have h1':=h1.trans hH1
  simp only[cf83L0,cf83E0,h1',hget,e1,e2,go_sem,seval]
  refine aB hx (by simp only[go_sem,seval]) rfl ?_
  simp only[go_sem,seval]
  refine eU (kb:=0) (s:=9) (ho.mono ?_) (El.bools _) (xs:=[.bool (dQ vals x)]) (by intro y hy;simp at hy;subst hy;exact El.bool _) (by simp[big]at *;omega) (by omega) ?_
  ·simp only[go_sem,seval]
  ·intro v' rd pa ho2 hk2 _
   simp only[ew,go_sem,seval]
   exact⟨v',rfl,by simpa using ho2,by rw[hk2 1 (by omega)];simp only[h1,go_sem,seval]⟩
end
end Go.Tev
end
section
namespace Go.Tev
theorem pE:∀a b:List UInt8,(Op.bytesLess a b||decide (a=b)) = !Op.bytesLess b a
 |[],[]=>rfl
 |[],_::_=>rfl
 |_::_,[]=>rfl
 |x::r,y::s=>by
  have ih:=pE r s
  simp only[Op.bytesLess]
  by_cases h:x=y
  ·subst h
   simp only[List.cons.injEq,true_and,beq_self_eq_true,Bool.true_and]
   have:decide (x<x)=false:=by simp
   rw[this]
   simpa using ih
  ·have h1:(x==y)=false:=by simpa using h
   have h2:(y==x)=false:=by simpa using fun e=>h e.symm
   have h3:decide (x::r=y::s)=false:=by simp[h]
   rw[h1,h2,h3]
   simp only[Bool.false_and,Bool.or_false]
   have hne:x.toNat≠y.toNat:=fun e=>h (UInt8.toNat_inj.1 e)
   by_cases hl:x<y
   ·have:¬y<x:=by rw[UInt8.lt_iff_toNat_lt]at *;omega
    simp[hl,this]
   ·have:y<x:=by rw[UInt8.lt_iff_toNat_lt]at *;omega
    simp[hl,this]
theorem B9(h:Hp)(nl cl:Bool)(n:Nat)(hn:n<256):DS h [.sl nl [.int .u8 (n:Int)] cl]=some (.str [UInt8.ofNat n],.pat [] []):=by
 have h1:(0<=(n:Int)/\(n:Int)<=255):=by omega
 simp[DS,aP,bB,l3,AV.fits,AV.cells,bQ,AV.one,h1]
section
variable{pg:Pg}
theorem c163(hf:pg.fs 163=some cf163)(i:Nat)(hi:i<10):Ret pg 163 [.int .i64 i] (.str [UInt8.ofNat (48+i)]):=by
 refine Ret.ofX hf ?_
 have h1:((i:Int).tmod 10)=(i:Int):=by
  rw[Int.tmod_eq_emod_of_nonneg (by omega)];omega
 have h2:wr .i64 (48+(i:Int))=((48+i:Nat):Int):=by rw[aR (by omega) (by omega)];omega
 have h3:wr .u8 (((48+i:Nat):Int))=((48+i:Nat):Int):=by
  simp only[wr];rw[if_pos (by omega)]
 have h4:(i:Int).tdiv 10=0:=by
  rw[Int.tdiv_eq_ediv_of_nonneg (by omega)];omega
 have h5:wr .i64 0=0:=rfl
 have h6:=fun h nl cl=>B9 h nl cl (48+i) (by omega)
 have h7:((10:Int)=0)=False:=by simp
 unfold cf163
 simp only[h1,h2,h3,h4,h5,h7,↓h6,go_sem,seval]
 rw[l7]
 simp only[cf163L0,cf163M0,go_sem,seval]
theorem c122(hf:pg.fs 122=some cf122)(h163:pg.fs 163=some cf163)(i:Nat)(hi:i<10):Ret pg 122 [.int .i64 i] (.str (p9 i)):=by
 have a:=c163 h163 i hi
 have h1:decide ((i:Int)<0)=false:=by simp
 refine Ret.ofX hf ?_
 unfold cf122
 simp only[h1,go_sem,seval]
 refine aB a (by simp only[go_sem,seval]) rfl ?_
 simp only[go_sem,seval]
 rfl
theorem tR(t:Typ)(vars:List Str):eX t vars=(pB t&&(decide (t.shape.row.bs=[])&&((decide (t.elem.bs=[105,110,116])||decide (t.elem.bs=[98,111,111,108]))&&bZ t.shape.dims.es vars))):=by
 simp only[eX,pB]
 by_cases h1:t.elem.bs=[105,110,116]
 ·have:fD t.elem.bs=false:=by rw[h1];rfl
  rw[this,h1]
  simp only[decide_true,Bool.true_or,Bool.true_and,Bool.not_false,Bool.and_true]
  (refine Bool.eq_iff_iff.2 ?_;simp only[Bool.and_eq_true];constructor<;>(intro h;simp only[h,and_self]))
 by_cases h2:t.elem.bs=[98,111,111,108]
 ·have:fD t.elem.bs=false:=by rw[h2];rfl
  rw[this,h2]
  simp only[decide_true,Bool.true_or,Bool.or_true,Bool.true_and,Bool.not_false,Bool.and_true]
  (refine Bool.eq_iff_iff.2 ?_;simp only[Bool.and_eq_true];constructor<;>(intro h;simp only[h,and_self]))
 ·simp only[h1,h2,decide_false,Bool.false_or,Bool.false_and,Bool.and_false]
  cases fD t.elem.bs<;>simp
theorem EQ{p:List Str}{x:Str}{r:List Str}:kP p (x::r)=(fJ x.bs && !wB x.bs&&(match p.getLast? with|none=>true|some q=>Op.bytesLess q.bs x.bs)&&kP (p++[x]) r):=rfl
set_option maxHeartbeats 1000000 in
theorem c49(hf:pg.fs 49=some cf49)(h77:∀s:Str,Ret pg 77 [.str s.bs] (.bool (fJ s.bs)))(h78:pg.fs 78=some cf78)(h79:∀t:Typ,Ret pg 79 [t.av] (.bool (pB t)))
  (h80:∀(nl cl:Bool)(ls:List Lin),ls.length<=big->∀(nl' cl':Bool)(vars:List Str),vars.length<=big->Ret pg 80 [.sl nl (ls.map Lin.av) cl,.sl nl' (vars.map Str.av) cl'] (.bool (bZ ls vars)))
  (k:aA):Ret pg 49 [k.av] (.bool (bD k)):=by
 have hb:=k.vars.ok
 have hbl:=k.values.ok
 have hov:=h80 k.wher.nl k.wher.cl k.wher.es k.wher.ok k.vars.nl k.vars.cl k.vars.es k.vars.ok
 refine Ret.ofX hf ?_
 unfold cf49
 simp only[go_sem,seval]
 refine aG k.vars.es (fun d r env hp=>hp.get 1=some (0,.blk k.cells 6 true true false)/\env=cf49E0 (.pt 1 0 0) (.int .i64 d.length)/\kP [] k.vars.es=kP d r) ?_ ?_ ?_
 ·exact⟨rfl,rfl,rfl⟩
 ·rintro env hp ⟨g1,rfl,hI⟩
  have g1':=g1
  simp only[aA.cells,Sl.av]at g1
  simp only[kP]at hI
  simp only[cf49L0,cf49E0,g1,aX,go_sem,seval]
  refine aG k.values.es (fun d r env hp=>hp.get 1=some (0,.blk k.cells 6 true true false)/\env=cf49E1 (.pt 1 0 0) (.int .i64 d.length)/\(k.values.es.all fun t=>eX t k.vars.es)=r.all fun t=>eX t k.vars.es) ?_ ?_ ?_
  ·exact⟨g1',rfl,rfl⟩
  ·clear g1 g1' hp
   rintro env hp ⟨g1,rfl,hJ⟩
   simp only[aA.cells,Sl.av]at g1
   have hJ':(k.values.es.all fun t=>eX t k.vars.es)=true:=by rw[hJ];rfl
   have hs:bD k=(decide ((k.vars.es.length:Int)<=12)&&(bZ k.wher.es k.vars.es&&(decide (0<=k.inputs)&&(decide (k.inputs<=8)&&(decide (k.inputs<=k.values.es.length)&&(decide ((k.values.es.length:Int)<=k.inputs+400)&&decide ((k.list.es.length:Int)<=400))))))):=by
    simp only[bD,hI,hJ']
    simp[Bool.and_assoc]
   rw[hs]
   clear hs
   cases b1:decide ((k.vars.es.length:Int)<=12)
   ·simp only[cf49L1,cf49E1,g1,aX,b1,go_sem,seval]
   simp only[cf49L1,cf49E1,g1,aX,b1,go_sem,seval]
   refine aB hov (by simp only[go_sem,seval]) rfl ?_
   cases b2:bZ k.wher.es k.vars.es
   ·simp only[go_sem,seval]
   cases b3:decide (0<=k.inputs)
   ·simp only[g1,b3,go_sem,seval]
   cases b4:decide (k.inputs<=8)
   ·simp only[g1,b3,b4,go_sem,seval]
   have hw:wr .i64 (k.inputs+400)=k.inputs+400:=by
    have:=of_decide_eq_true b3
    have:=of_decide_eq_true b4
    exact aR (by omega) (by omega)
   cases b5:decide (k.inputs<=(k.values.es.length:Int))
   ·simp only[g1,b3,b4,b5,go_sem,seval]
   cases b6:decide ((k.values.es.length:Int)<=k.inputs+400)
   ·simp only[g1,b3,b4,b5,hw,b6,go_sem,seval]
   ·simp only[g1,b3,b4,b5,hw,b6,go_sem,seval]
  ·clear g1 g1' hp
   rintro d t r env hp hes ⟨g1,rfl,hJ⟩
   have g1':=g1
   simp only[aA.cells,Sl.av]at g1
   obtain⟨hget,e1,e2,ew⟩:=cJ hes hbl
   simp only[List.all_cons]at hJ
   have hfalse:eX t k.vars.es=false->bD k=false:=by
    intro h
    simp only[bD,hJ,h];simp
   rw[tR]at hfalse
   have a1:=h79 t
   rw[Typ.avc]at a1
   have a2:=h80 t.shape.dims.nl t.shape.dims.cl t.shape.dims.es t.shape.dims.ok k.vars.nl k.vars.cl k.vars.es k.vars.ok
   simp only[cf49L1,cf49E1,g1,hget,e1,e2,go_sem,seval]
   refine aB a1 (by simp only[go_sem,seval]) rfl ?_
   cases c1:pB t
   ·simp only[go_sem,seval]
    rw[hfalse (by rw[c1];rfl)]
   cases c2:decide (t.shape.row.bs=[])
   ·simp only[c2,go_sem,seval]
    rw[hfalse (by rw[c1,c2];rfl)]
   cases c3:decide (t.elem.bs=[105,110,116])
   ·cases c4:decide (t.elem.bs=[98,111,111,108])
    ·simp only[c2,c3,c4,go_sem,seval]
     rw[hfalse (by rw[c1,c2,c3,c4];rfl)]
    ·simp only[c2,c3,c4,g1,go_sem,seval]
     refine aB a2 (by simp only[go_sem,seval]) rfl ?_
     cases c5:bZ t.shape.dims.es k.vars.es
     ·simp only[go_sem,seval]
      rw[hfalse (by rw[c1,c2,c3,c4,c5];rfl)]
     ·simp only[ew,go_sem,seval]
      refine⟨?_,rfl,?_⟩
      ·simp only[g1',go_sem,seval]
      ·rw[hJ,tR,c1,c2,c3,c4,c5];rfl
   ·simp only[c2,c3,g1,go_sem,seval]
    refine aB a2 (by simp only[go_sem,seval]) rfl ?_
    cases c5:bZ t.shape.dims.es k.vars.es
    ·simp only[go_sem,seval]
     rw[hfalse (by rw[c1,c2,c3,c5];simp)]
    ·simp only[ew,go_sem,seval]
     refine⟨?_,rfl,?_⟩
     ·simp only[g1',go_sem,seval]
     ·rw[hJ,tR,c1,c2,c3,c5];simp
 ·rintro d x r env hp hes ⟨g1,rfl,hI⟩
  have g1':=g1
  simp only[aA.cells,Sl.av]at g1
  obtain⟨hget,e1,e2,ew⟩:=cJ hes hb
  rw[EQ]at hI
  have hfalse:kP [] k.vars.es=false->bD k=false:=by
   intro h
   simp only[bD,h];simp
  have a1:=h77 x
  have a2:=c78 h78 x.bs x.ok
  simp only[cf49L0,cf49E0,g1,hget,e1,e2,go_sem,seval]
  refine aB a1 (by simp only[go_sem,seval]) rfl ?_
  cases c1:fJ x.bs
  ·simp only[go_sem,seval]
   refine And.intro (by kernel_rfl) ?_
   rw[hfalse (by rw[hI,c1];rfl)]
  simp only[g1,hget,e1,e2,go_sem,seval]
  refine aB a2 (by simp only[go_sem,seval]) rfl ?_
  cases c2:wB x.bs
  case true=>
   simp only[go_sem,seval]
   refine And.intro (by kernel_rfl) ?_
   rw[hfalse (by rw[hI,c1,c2];rfl)]
  rcases List.eq_nil_or_concat d with hd|⟨d',q,hd⟩
  ·have e3:decide (0<(d.length:Int))=false:=by simp[hd]
   simp only[e3,ew,go_sem,seval]
   refine⟨by kernel_rfl,g1',rfl,?_⟩
   rw[hI,c1,c2,hd];simp
  ·have hd':d=d'++[q]:=by simpa using hd
   have e3:decide (0<(d.length:Int))=true:=by simp[hd']
   have e4:wr .i64 ((d.length:Int)-1)=(d'.length:Int):=by
    have:d.length<=k.vars.es.length:=by rw[hes];simp
    simp only[big]at hb
    rw[aR (by omega) (by omega),hd',List.length_append,List.length_singleton];omega
   have e5:k.vars.es[d'.length]?=some q:=by rw[hes,hd'];simp
   have e6:((d'.length:Int)<(k.vars.es.length:Int))=True:=eq_true (by rw[hes,hd'];simp;omega)
   have hlast:d.getLast?=some q:=by rw[hd'];simp
   have htot:=pE x.bs q.bs
   rw[hlast]at hI
   dsimp only at hI
   cases hl:Op.bytesLess q.bs x.bs
   ·rw[hl]at htot
    simp only[e3,e4,e5,e6,g1,hget,htot,go_sem,seval]
    refine And.intro (by kernel_rfl) ?_
    rw[hfalse (by rw[hI,c1,c2,hl];rfl)]
   ·rw[hl]at htot
    simp only[e3,e4,e5,e6,g1,hget,htot,ew,go_sem,seval]
    refine⟨by kernel_rfl,rfl,rfl,?_⟩
    rw[hI,c1,c2,hl];rfl
end
end Go.Tev
end
section
namespace Go.Tev
theorem j1{h:Hp}{d:Nat}{a b c e e':AV}{keys:List Nat}(ha:a.tree=true)(hb:b.tree=true)(hc:c.tree=true)(he:Tev.snap (d+1) h e=some (e',keys)):cE (Tev.snap (d+1) h) [a,b,c,e]=some ([a,b,c,e'],keys):=by
 simp[bA,cD,lY ha,lY hb,lY hc,he]
def aQ(k:aA):List AV:=
 [.sl k.vars.nl (k.vars.es.map Str.av) k.vars.cl,.sl k.wher.nl (k.wher.es.map Lin.av) k.wher.cl,.int .i64 k.inputs,.sl k.values.nl (k.values.es.map Typ.av) k.values.cl,.sl k.list.nl (k.list.es.map aE.av) k.list.cl,.sl k.results.nl (k.results.es.map aH) k.results.cl]
def KI(p:aC):List AV:=
 [.str p.op.bs,.int .i64 p.num,.int .i64 p.value,.str p.name.bs,.sl p.at_.nl (p.at_.es.map Lin.av) p.at_.cl,.bool p.dyn,.int .i64 p.check,.sl p.fn.nl (p.fn.es.map aI.av) p.fn.cl,.sl p.knl (p.kids.map aC.av) p.kcl]
section
variable{pg:Pg}
set_option maxHeartbeats 1000000 in
theorem c86(hf:pg.fs 86=some cf86)(h122:∀i:Nat,i<10->Ret pg 122 [.int .i64 i] (.str (p9 i)))
  (h123:∀p:aC,p.ok->∀(nl cl:Bool)(vars:List Str),vars.length+p.sz<=big->∀v:Int,Ret pg 123 [p.av,.sl nl (vars.map Str.av) cl,.int .i64 v] (.bool (gB p vars v)))
  (h37:∀p:aC,p.ok->p.sz<=big->bL pg 37 [p.av] (lO 1 false ((aW p).map aH)))
  (k:aA) (p:aC) (hpo:p.ok) (n:Nat) (hn:n<=9) (hsz:k.vars.es.length+n+p.sz<=big) (nl cl:Bool) (there:List Bool) (hth:there.length=k.values.es.length) :
  Ret pg 86 [p.av,k.av,.int .i64 n,.sl nl (there.map AV.bool) cl] (.bool (bO k p n there)):=by
 refine Ret.ofX hf ?_
 unfold cf86
 simp only[aA.av,aA.cells,go_sem,seval]
 refine eU (kb:=0) (s:=9) (Own.nil _ _ _ _ _ _ rfl) (by simp) (El.strs k.vars.es) (by simp only[List.length_nil,List.length_map];simp only[big]at hsz;omega) (by decide) ?_
 intro v0 rd pa ho0 hk0 _
 have g1:=hk0 1 (by omega)
 have g5:=hk0 5 (by omega)
 simp only[go_sem,seval]at g1 g5
 generalize hH:Eff.app _ (Eff.pat rd pa)=H at ho0 g1 g5 ⊢
 clear hH hk0
 simp only[go_sem,seval]
 refine aG (List.range n) (fun d r env hp=>∃v kk,env=cf86E0 (.int .i64 n) (.sl nl (there.map AV.bool) cl) (.pt 1 0 0) (.pt 5 0 0) v (.int .i64 d.length)/\(kk=9\/kk=17)/\Own hp kk 1 false v ((k.vars.es++d.map sX).map Str.av) /\
  hp.get 1=some (0,.blk (KI p) 9 true true false)/\hp.get 5=some (0,.blk (aQ k) 6 true true false)) ?_ ?_ ?_
 ·exact⟨v0,9,rfl,.inl rfl,by simpa using ho0,g1,g5⟩
 ·rintro env hp ⟨v,kk,rfl,hkk,ho,q1,q5⟩
  have hr:(List.range n).length=n:=List.length_range
  rw[hr]
  simp only[KI]at q1
  simp only[aQ]at q5
  have ho':Own hp kk 1 false v ((eB k.vars.es n).map Str.av):=ho
  obtain⟨nl8,cl8,keys,hsn,hnl8⟩:=ho'.snap (El.strs _) 62
  have h2:=h123 p hpo nl8 cl8 (eB k.vars.es n) (by simp[eB];omega) k.values.es.length
  rw[aC.avc]at h2
  have h3:=h37 p hpo (by omega)
  rw[aC.avc]at h3
  simp only[cf86L0,cf86E0,q1,q5,aX,go_sem,seval]
  refine bT h2 (oV (by simp only[go_sem,seval]) hsn (by simp only[go_sem,seval])) (v:=.bool (gB p (eB k.vars.es n) k.values.es.length)) (pa:=[]) rfl ?_
  cases hv:gB p (eB k.vars.es n) k.values.es.length
  ·simp only[go_sem,seval]
   simp only[bO,hv];rfl
  have hspec:bO k p n there=(aW p).all (fun v=>aU there v):=by simp only[bO,hv];rfl
  rw[hspec]
  simp only[q1,go_sem,seval]
  refine j3 h3 (by simp only[go_sem,seval]) ?_
  intro nl9 cl9 hnl9
  simp only[go_sem,seval]
  have hrl:(aW p).length<=big:=by
   have e3:=iC p
   omega
  have hin:∀a∈aW p,0<=a/\a<(there.length:Int):=by
   intro a ha
   rw[iD]at ha
   rw[hth]
   simp only[gB,Bool.and_eq_true]at hv
   exact mU _ p (eB k.vars.es n) hv.2 a ha
  generalize aW p=L at hrl hin ⊢
  refine aG L (fun d r env hp=>env=cf86E1 (.sl nl (there.map AV.bool) cl) (.sl nl9 (L.map aH) cl9) (.int .i64 d.length)/\L.all (fun v=>aU there v)=r.all (fun v=>aU there v)) ?_ ?_ ?_
  ·exact⟨rfl,rfl⟩
  ·rintro env hp ⟨rfl,hI⟩
   simp only[cf86L1,cf86E1,aX,go_sem,seval]
   rw[hI];rfl
  ·rintro d a r env hp hes ⟨rfl,hI⟩
   obtain⟨hget,e1,e2,ew⟩:=cJ hes hrl
   obtain⟨z1,z2⟩:=hin a (by rw[hes];simp)
   have z1':(0<=a)=True:=eq_true z1
   have hla:there[a.toNat]?=some (there[a.toNat]'(by omega)):=List.getElem?_eq_getElem (by omega)
   have hta:aU there a=there[a.toNat]'(by omega):=by simp[aU,hla]
   generalize there[a.toNat]'(by omega)=b at hla hta
   rw[hI]
   cases b
   ·simp only[cf86L1,cf86E1,e1,e2,hget,z1',hla,go_sem,seval]
    simp[hta]
   ·simp only[cf86L1,cf86E1,e1,e2,hget,z1',hla,ew,go_sem,seval]
    refine⟨rfl,?_⟩
    simp[hta]
 ·rintro d x r env hp hes ⟨v,kk,rfl,hkk,ho,q1,q5⟩
  obtain⟨hx,hlt⟩:=jX hes
  have hb2:(d++x::r).length<=big:=by rw[<-hes];simp[big];omega
  have e1:decide ((d.length:Int)<(n:Int))=true:=by simp;omega
  simp only[cf86L0,cf86E0,e1,go_sem,seval]
  refine aB (h122 d.length (by omega)) (by simp only[go_sem,seval]) rfl ?_
  simp only[go_sem,seval]
  refine pA (kb:=0) (s:=17) (k1:=kk) (ho.mono ?_) (El.strs _) (xs:=[.str (p9 d.length)]) (by intro y hy;simp at hy;subst hy;exact El.str _) (by simp) ?_ (by omega) ?_
  ·simp only[go_sem,seval]
  ·simp only[List.length_map,List.length_append,List.length_cons,List.length_nil]
   simp only[big]at hsz
   omega
  ·intro v' rd' pa' ho2 hk2
   simp only[aM hb2,go_sem,seval]
   refine⟨v',17,rfl,.inr rfl,?_,?_,?_⟩
   ·rw[hx];simpa[Str.av,sX] using ho2
   ·rw[hk2 1 (by omega) (by omega)];exact q1
   ·rw[hk2 5 (by omega) (by omega)];exact q5
end
end Go.Tev
end
