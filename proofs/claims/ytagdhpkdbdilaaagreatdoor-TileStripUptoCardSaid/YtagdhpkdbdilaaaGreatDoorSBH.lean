import Derived.Test.YtagdhpkdbdilaaaGreatDoorSAI
import Derived.Test.YtagdhpkdbdilaaaGreatDoorSAM
import Derived.Test.YtagdhpkdbdilaaaGreatDoorSBG
import Derived.Test.YtagdhpkdbdilaaaGreatDoorSBF
import Derived.Test.YtagdhpkdbdilaaaGreatDoorSBA
import Derived.Test.YtagdhpkdbdilaaaGreatDoorSAS
import Derived.Test.YtagdhpkdbdilaaaGreatDoorSAW
import Derived.Test.YtagdhpkdbdilaaaGreatDoorSBE
import Derived.Test.YtagdhpkdbdilaaaGreatDoorSBC
import Derived.Lib.LaidTab
import Derived.Test.YtagdhpkdbdilaaaGreatDoorRows
set_option linter.all false
namespace Go.Tev
section
theorem uW{z:List Int}(h:bX z=0):bH (z++[0])=z.length+1:=by
 have e:bX (z++[0])=0:=by rw[fW,h];rfl
 rw[nH e,cA,List.length_singleton]
theorem oS{z:List Int}(h:bX z≠0)(s:Int):bH (z++[s])=bH z:=by have h2:=lL.1 h;rw[bH]at h2;rw[bH,bH,List.findIdx_append,if_pos h2]
theorem uV(z:List Int){s:Int}(hs:s≠0):bH (z++[s])=bH z:=by by_cases h:bX z=0;have e1:=nH h;rw[e1];rw[bH]at e1;rw[bH,List.findIdx_append,if_neg (by omega)];simp[List.findIdx_cons,hs];exact oS h s
theorem dY.nes{k:Nat}{ls:List Loop}{z:List Int}{ps:List Pc}(h:dY k ls z ps)(hn:∀x∈ls,l9 x):(∀x∈ps.filterMap (·.1),l9 x)/\∀x∈ps.map (·.2),l9 x:=by
 induction h with
 |nil=>exact⟨by simp,by simp⟩
 |keep _ ih=>obtain⟨i1,i2⟩:=ih (λx hx=>hn x (bS _ hx));refine⟨by simpa using i1,?_⟩;intro x hx;rw[List.map_cons]at hx;rcases List.mem_cons.1 hx with rfl|hx;exact hn _ List.mem_cons_self;exact i2 x hx
 |cut _ ht _ ih=>obtain⟨i1,i2⟩:=ih (λx hx=>hn x (bS _ hx));obtain⟨t1,t2⟩:=ht.nes (hn _ List.mem_cons_self);constructor;intro x hx;simp only[List.filterMap_cons,List.mem_cons]at hx;rcases hx with rfl|hx;exact t1;exact i1 x hx;intro x hx;rw[List.map_cons]at hx;rcases List.mem_cons.1 hx with rfl|hx;exact t2;exact i2 x hx
theorem EO{ls:List Loop}{z:List Int}{ps:List Pc}(h:dY 0 ls z ps)(hn:∀x∈ls,l9 x):∀x∈eZ ls z ps,l9 x:=by obtain⟨i1,i2⟩:=h.nes hn;intro x hx;simp only[eZ,i8]at hx;rcases hx with (hx|hx)|hx;exact hn x (List.mem_of_mem_take hx);exact i1 x hx;obtain⟨p,hp,rfl⟩:=List.mem_map.1 hx;exact i2 _ (List.mem_map.2 ⟨p,List.mem_of_mem_drop hp,rfl⟩)
section
variable{pg:Pg}
theorem aSQ(hf:pg.fs 691=some DP)(i:Nat)(hi:i<10):Ret pg 691 [.int .i64 i] (.str [UInt8.ofNat (48+i)]):=by
 refine Ret.ofX hf ?_;unfold DP;have hs:rT true true [.str [48,49,50,51,52,53,54,55,56,57],.int .i64 (i:Int),.int .i64 ((i:Int)+1)]=some (.str [UInt8.ofNat (48+i)],.pat [] []):=by
  have h:i=0\/i=1\/i=2\/i=3\/i=4\/i=5\/i=6\/i=7\/i=8\/i=9:=by omega
  rcases h with rfl|rfl|rfl|rfl|rfl|rfl|rfl|rfl|rfl|rfl<;>rfl
 have w:wr .i64 ((i:Int)+1)=(i:Int)+1:=eB (by omega) (by omega);have e0:decide ((i:Int)<0)=false:=decide_eq_false (by omega);have e1:decide ((i:Int)<10)=true:=decide_eq_true (by omega);simp only[e0,e1,w,↓hs,go_sem,seval]
set_option maxHeartbeats 8000000 in
theorem c749(hf:pg.fs 749=some DJ)(h764:∀(n:aK) (k size:Int) (name:Str) (m:Int),Ret pg 764 [n.av,.int .i64 k,.int .i64 size,.str name.bs,.int .i64 m] (.int .i64 (bD n.loops.es k size name.bs m)))
  (h765:∀x:Loop,x.hi.es≠[]->x.hi.es.length<big->∀(size:Int)(name:Str),bZ pg 765 [x.av,.int .i64 size,.str name.bs] (aHh x size name)) (h691:∀i:Nat,i<10->Ret pg 691 [.int .i64 i] (.str [UInt8.ofNat (48+i)]))
  (h760:∀(nl cl:Bool)(ls:List Loop),ls.length<=big->Ret pg 760 [.sl nl (ls.map Loop.av) cl] (.bool (tM ls))) (n:aK) (hw:∀x∈n.loops.es,mB x) (hne:∀x∈n.loops.es,l9 x) (hl12:n.loops.es.length<=12) (nl cl:Bool) (z:List Int)
  (hz10:∀(i:Nat)(s:Int),z[i]?=some s->s≠0->i<10):bZ pg 749 [n.av,.sl nl (z.map bL) cl] (iD n z):=by
 refine bZ.ofX hf ?_;unfold DJ;rw[aK.avc];cases b0:decide ((z.length:Int)=(n.loops.es.length:Int))
 case false=>
  have hne:z.length≠n.loops.es.length:=by have:=bQ b0;omega
  simp only[b0,go_sem,seval];unfold iD;rw[if_pos hne];rfl
 have hzl:z.length=n.loops.es.length:=by have:=aR b0;omega
 have hzb:z.length<=big:=by simp only[big];omega
 simp only[b0,go_sem,seval]
 refine aY z (λd r env hp=>∃(ps:List Pc)(v6 v7 v8:AV)(k8:Nat),env=pQ (.sl nl (z.map bL) cl) (.pt 1 0 0) (.pt 5 0 0) v6 v7 v8 (.int .i64 d.length)/\dY 0 (n.loops.es.take d.length) d ps/\fe n.loops.es 0 0 z=fe n.loops.es d.length (bX d) r /\
  hp.get 1=some (0,.blk n.cells 23 true true false)/\hp.get 5=some (0,.blk kE.cells 23 true true false)/\Own hp 9 5 true v6 ((n.loops.es.take (bH d)).map Loop.av)/\Own hp 33 5 true v7 ((ps.filterMap (·.1)).map Loop.av)/\(k8=13\/k8=37)/\Own hp k8 5 true v8 (((ps.drop (bH d)).map (·.2)).map Loop.av)) ?_ ?_ ?_
 exact⟨[],_,_,_,13,rfl,.nil _,rfl,rfl,rfl,Own.nil _ _ _ _ true true rfl,Own.nil _ _ _ _ true true rfl,.inl rfl,Own.nil _ _ _ _ true true rfl⟩;rintro env hp ⟨ps,v6,v7,v8,k8,rfl,hps,hfe,g1,g5,o6,o7,hk8,o8⟩;have hfe0:fe n.loops.es 0 0 z=0:=hfe;rw[show n.loops.es.take z.length=n.loops.es from List.take_of_length_le (by omega)]at hps;have hlp:=hps.len;have hol:=hps.outs;have hcz:=sM z;have hfl:=nD z;rw[fE]at g5;rw[aK.cellsE]at g1;obtain⟨TL,hTL⟩:∃TL,TL=eZ n.loops.es z ps:=⟨_,rfl⟩
 have hTl:TL.length=n.loops.es.length+bX z:=by rw[hTL,eZ];simp only[cA,List.length_take,aZ,List.length_drop,hol];omega
 have hTb:TL.length<=big:=by rw[hTl];simp only[big];omega
 have hpo:d9 TL=tM TL:=wW _ (by rw[hTL];exact EO hps hne);simp only[pP,pQ,bA,go_sem,seval];refine qF (kb:=0) (s:=41) o6 (o7.src (El.loops _)) (El.loops _) (by simp only[aZ,List.length_take,hol];omega) (by decide) ?_;intro v1 k1 rd1 pa1 hk1 ho1 hq1;have r1:=(hq1 1 (by omega) (by omega)).trans g1;have r5:=(hq1 5 (by omega) (by omega)).trans g5;have r8:=o8.mono (hq1 k8 (by omega) (by omega));generalize Eff.app hp (Eff.pat rd1 pa1)=H1 at ho1 r1 r5 r8 ⊢;simp only[go_sem,seval];refine qF (kb:=0) (s:=45) ho1 (r8.src (El.loops _)) (by rw[<-List.map_append];exact El.loops _) (by simp only[cA,aZ,List.length_take,hol,List.length_drop];omega) (by decide) ?_;intro v2 k2 rd2 pa2 hk2 ho2 hq2;have s1:=(hq2 1 (by omega) (by omega)).trans r1;have s5:=(hq2 5 (by omega) (by omega)).trans r5;rw[<-List.map_append,<-List.map_append,show n.loops.es.take (bH z)++ps.filterMap (·.1)++(ps.drop (bH z)).map (·.2)=TL from hTL.symm]at ho2;generalize Eff.app H1 (Eff.pat rd2 pa2)=H2 at ho2 s1 s5 ⊢;obtain⟨nl8,cl8,keys,hsn,_⟩:=ho2.snap (El.loops _) 62;have a1:=h760 nl8 cl8 TL hTb;rw[<-hpo]at a1;simp only[go_sem,seval];refine cL a1 (keys:=keys++[]) (by simp only[depth,mapS,hsn]) (v:=.bool (d9 TL)) (pa:=[]) rfl ?_;obtain⟨c91,c92,c93⟩:=ho2.cell;cases b1:d9 TL;simp only[s5,go_sem,seval];unfold iD;rw[if_neg (by omega),if_neg (by omega)];exact⟨ps,hps,by rw[<-hTL,if_neg (by rw[b1];decide)];rfl⟩;simp only[s1,s5,c91,c92,c93,go_sem,seval];generalize hH:Hp.put (Hp.put H2 1 0 _) 5 0 _=H5;have ho5:Own H5 k2 5 true v2 (TL.map Loop.av):=ho2.mono (by rw[<-hH,aI,if_neg (by omega),aI,if_neg (by omega)]);obtain⟨nl9,cl9,keys9,hsn9,_⟩:=ho5.snap (El.loops _) 60;refine⟨_,nI hsn9 (by simp[go_sem]) rfl,?_⟩;unfold iD;rw[if_neg (by omega),if_neg (by omega)];exact⟨ps,hps,by rw[<-hTL,if_pos b1];exact⟨⟨nl9,TL,cl9,hTb⟩,rfl,rfl⟩⟩;rintro d s r env hp hes ⟨ps,v6,v7,v8,k8,rfl,hps,hfe,g1,g5,o6,o7,hk8,o8⟩;obtain⟨hget,f1,f2,fw⟩:=cM hes hzb;have hgi:(z.map bL)[d.length]?=some (.int .i64 s):=by rw[List.getElem?_map,hget];rfl
 have hdz:d.length<z.length:=by rw[hes];simp
 have hdl:d.length<n.loops.es.length:=by omega
 have hd2:((d.length:Int)<(n.loops.es.length:Int))=True:=eq_true (by omega);obtain⟨x,hx⟩:∃x,n.loops.es[d.length]?=some x:=⟨_,cK hdl⟩
 have htk:n.loops.es.take (d++[s]).length=n.loops.es.take d.length++[x]:=by rw[cA,List.length_singleton,List.take_succ,hx];rfl
 have htl:(n.loops.es.take d.length).length=d.length:=by simp;omega
 have hpl:ps.length=d.length:=by rw[hps.len.1,htl]
 have hfl:=nD d;have hol:=hps.outs;have g1':=g1;rw[aK.cellsE]at g1;have hcl:=sM d;cases b1:decide (s=0)
 case true=>
  have hs0:s=0:=aR b1;subst hs0;have hl7:∀h',u1 h' 1 [v7]=some (.int .i64 (bX d:Nat),.pat [] []):=λh'=>by rw[o7.flen h',aZ,hol]
  have hcu:bX (d++[0])=bX d:=by rw[fW,if_pos rfl];rfl
  by_cases hc:bX d=0;have hf0:=nH hc;have hz0:decide (((bX d:Nat):Int)=0)=true:=by rw[hc];rfl
  have ht6:(n.loops.es.take (bH d)).length<=12:=by rw[List.length_take];omega
  simp only[pP,pQ,f1,f2,hgi,↓hl7,hz0,hd2,hx,g1,go_sem,seval];refine nA (kb:=0) (s:=9) o6 (El.loops _) (xs:=[x.av]) (El.loops [x]) (by rw[aZ];simp only[List.length_singleton];omega) (by decide) ?_;intro v' rd pa ho' hk _;simp only[fw,go_sem,seval];refine⟨ps++[(none,x)],v',v7,v8,k8,rfl,by rw[htk];exact hps.snoc_keep x,?_,(hk 1 (by omega)).trans g1',(hk 5 (by omega)).trans g5,?_,?_,hk8,?_⟩;rw[hfe,fe,if_pos rfl,hcu,cA,List.length_singleton];rw[uW hc,show d.length+1=(d++[(0:Int)]).length by simp,htk,List.map_append,<-hf0];exact ho';rw[List.filterMap_append];have:([((none:Option Loop),x)].filterMap (·.1))=[]:=rfl;rw[this,List.append_nil];exact o7.mono (hk 33 (by omega));rw[uW hc,List.drop_of_length_le (by simp;omega)];rw[hf0,List.drop_of_length_le (by omega)]at o8;exact o8.mono (hk k8 (by omega));have hz0:decide (((bX d:Nat):Int)=0)=false:=decide_eq_false (by omega);have hcp:=lL.1 hc;have ht8:((ps.drop (bH d)).map (·.2)).length<=12:=by simp only[aZ,List.length_drop];omega
  simp only[pP,pQ,f1,f2,hgi,↓hl7,hz0,hd2,hx,g1,go_sem,seval];refine qF (kb:=0) (s:=13) o8 (Src.sl (El.loops [x])) (El.loops _) (by rw[aZ];simp only[aZ,List.length_singleton]at ht8 ⊢;omega) (by decide) ?_;intro v' k' rd pa hk' ho' hk;simp only[fw,go_sem,seval];refine⟨ps++[(none,x)],v6,v7,v',k',rfl,by rw[htk];exact hps.snoc_keep x,?_,(hk 1 (by omega) (by omega)).trans g1',(hk 5 (by omega) (by omega)).trans g5,?_,?_,by omega,?_⟩;rw[hfe,fe,if_pos rfl,hcu,cA,List.length_singleton];rw[oS hc];exact o6.mono (hk 9 (by omega) (by omega));rw[List.filterMap_append];have:([((none:Option Loop),x)].filterMap (·.1))=[]:=rfl;rw[this,List.append_nil];exact o7.mono (hk 33 (by omega) (by omega));rw[oS hc,List.drop_append_of_le_length (by omega),List.map_append,List.map_append];exact ho'
 have hs0:s≠0:=bQ b1;have hd10:d.length<10:=hz10 d.length s hget hs0;have hl7:∀h',u1 h' 1 [v7]=some (.int .i64 (bX d:Nat),.pat [] []):=λh'=>by rw[o7.flen h',aZ,hol]
 have wj:wr .i64 ((n.loops.es.length:Int)+(bX d:Nat))=(n.loops.es.length:Int)+(bX d:Nat):=eB (by omega) (by omega);have a1:=h764 n d.length s (tn d.length) ((n.loops.es.length:Int)+(bX d:Nat));rw[aK.avc]at a1;have htn:[(116:UInt8)]++[UInt8.ofNat (48+d.length)]=(tn d.length).bs:=rfl;simp only[pP,pQ,f1,f2,hgi,b1,go_sem,seval];refine aG (h691 d.length hd10) ?_;simp only[htn,g1,f1,f2,hgi,↓hl7,wj,go_sem,seval];refine aG a1 ?_;have hbs:(tn d.length).bs=tnB d.length:=rfl;by_cases he:bD n.loops.es d.length s (tn d.length).bs ((n.loops.es.length:Int)+(bX d:Nat))=0
 case neg=>
  have hd:=decide_eq_false he;rw[fE]at g5;simp only[go_sem,seval];refine cC ?_;simp only[hd,g5,go_sem,seval];unfold iD;have he':¬bD n.loops.es d.length s (tnB d.length) ((n.loops.es.length:Int)+(bX d:Nat))=0:=he;have hfz:fe n.loops.es 0 0 z=bD n.loops.es d.length s (tnB d.length) ((n.loops.es.length:Int)+(bX d:Nat)):=by rw[hfe,fe,if_neg hs0,if_neg he']
  rw[if_neg (by omega),hfz,if_pos he'];rfl
 have hd:=decide_eq_true he;obtain⟨w1,w2,w3⟩:=hw x (List.mem_of_getElem? hx);obtain⟨r0,hr0,o,i,two,rfl⟩:=h765 x w2 w3 s (tn d.length);rw[Loop.avc]at hr0;clear a1;have hcu:bX (d++[s])=bX d+1:=by rw[fW,if_neg hs0]
 simp only[go_sem,seval];refine cC ?_;simp only[hd,g1,f1,f2,hgi,hd2,hx,go_sem,seval];refine aG hr0 ?_;simp only[go_sem,seval];refine cC ?_;generalize hH:Hp.put (Hp.put hp 29 _ _) 29 _ (Ob.blk [AV.str o.v.bs,_,_,_,_,_,_,_,_,_] _ _ _ _)=H3;have kq:∀q,q≠29->H3.get q=hp.get q:=λq hq=>by rw[<-hH,aI,if_neg (Ne.symm hq),aI,if_neg (Ne.symm hq)]
 have k29:H3.get 29=some (hp.next 29,.blk [.str o.v.bs,.int .i64 o.lo.c,.sl o.lo.ts.nl (o.lo.ts.es.map aN.av) o.lo.ts.cl,.sl o.hi.nl (o.hi.es.map Lin.av) o.hi.cl,.int .i64 o.step,.str i.v.bs,.int .i64 i.lo.c,.sl i.lo.ts.nl (i.lo.ts.es.map aN.av) i.lo.ts.cl,.sl i.hi.nl (i.hi.es.map Lin.av) i.hi.cl,.int .i64 i.step] 10 true true false):=by rw[<-hH];simp only[go_sem,seval]
 clear hH;have p6:=o6.mono (kq 9 (by omega));have p7:=o7.mono (kq 33 (by omega));have p8:=o8.mono (kq k8 (by omega));have ho7:(ps.filterMap (·.1)).length<=12:=by rw[hol];omega
 have ho8:((ps.drop (bH d)).map (·.2)).length<=12:=by simp only[aZ,List.length_drop];omega
 refine TS (kb:=0) (s:=33) p7 (El.loops _) (xs:=[o.av]) (El.loops [o]) (by simp) (by rw[aZ];simp only[List.length_singleton];omega) (by decide) ?_;intro v' e' ob ho';have q8:Own (H3.put 33 e' ob) k8 5 true v8 (((ps.drop (bH d)).map (·.2)).map Loop.av):=p8.mono (by rw[aI,if_neg (by omega)]);have q6:Own (H3.put 33 e' ob) 9 5 true v6 ((n.loops.es.take (bH d)).map Loop.av):=p6.mono (by rw[aI,if_neg (by omega)]);have q29:(H3.put 33 e' ob).get 29=_:=(by rw[aI,if_neg (by omega)]:(H3.put 33 e' ob).get 29=H3.get 29).trans k29;have q1:(H3.put 33 e' ob).get 1=hp.get 1:=by rw[aI,if_neg (by omega)];exact kq 1 (by omega)
 have q5:(H3.put 33 e' ob).get 5=hp.get 5:=by rw[aI,if_neg (by omega)];exact kq 5 (by omega)
 have hEq:Eff.app H3 (.pat [0+33] [⟨0+33,e',ob⟩])=H3.put 33 e' ob:=rfl;rw[hEq];simp only[Nat.zero_add]at ho';generalize H3.put 33 e' ob=H4 at ho' q8 q6 q29 q1 q5 ⊢;simp only[q29,go_sem,seval];refine qF (kb:=0) (s:=37) q8 (Src.sl (El.loops [i])) (El.loops _) (by rw[aZ];simp only[aZ,List.length_singleton]at ho8 ⊢;omega) (by decide) ?_;intro v2 k2 rd pa hk2 ho2 hk;simp only[go_sem,seval];refine cC ?_;simp only[fw,go_sem,seval];refine⟨ps++[(some o,i)],v6,v',v2,k2,rfl,?_,?_,(hk 1 (by omega) (by omega)).trans (q1.trans g1'),(hk 5 (by omega) (by omega)).trans (q5.trans g5),?_,?_,by omega,?_⟩;rw[htk];exact hps.snoc_cut hs0 (by rw[htl,Nat.zero_add];exact two);rw[hfe,fe,if_neg hs0,if_pos (show bD n.loops.es d.length s (tnB d.length) ((n.loops.es.length:Int)+(bX d:Nat))=0 from he),hcu,cA,List.length_singleton];rw[uV d hs0];exact q6.mono (hk 9 (by omega) (by omega));rw[List.filterMap_append,List.map_append];exact ho'.mono (hk 33 (by omega) (by omega));rw[uV d hs0,List.drop_append_of_le_length (by omega),List.map_append,List.map_append];exact ho2
end
end
section
section
variable{pg:Pg}
end
end
section
section
variable{pg:Pg}
theorem c568(hf:pg.fs 568=some DV)(nl cl:Bool)(ls:List Lin)(hb:ls.length<=big):bZ pg 568 [.sl nl (ls.map Lin.av) cl] IsB:=by
 refine bZ.ofX hf ?_;unfold DV;simp only[go_sem,seval];refine aY ls (λd r env hp=>env=nO (.sl nl (ls.map Lin.av) cl) (.int .i64 d.length)) ?_ ?_ ?_;rfl;rintro env hp rfl;simp only[nM,nO,bA,go_sem,seval];rintro d x r env hp hes rfl;obtain⟨hget,e1,e2,ew⟩:=cM hes hb;have hlb:=x.ts.ok;cases b1:decide (6<(x.ts.es.length:Int))
 case true=>simp only[nM,nO,e1,e2,hget,b1,go_sem,seval]
 cases b2:decide (x.c < -100)
 case true=>simp only[nM,nO,e1,e2,hget,b1,b2,go_sem,seval]
 cases b3:decide (100<x.c)
 case true=>simp only[nM,nO,e1,e2,hget,b1,b2,b3,go_sem,seval]
 simp only[nM,nO,e1,e2,hget,b1,b2,b3,go_sem,seval];refine aY x.ts.es (λd2 r2 env hp=>env=nP (.sl nl (ls.map Lin.av) cl) (.int .i64 d.length) (.int .i64 d2.length)) ?_ ?_ ?_;rfl;rintro env hp rfl;simp only[nN,nP,bA,hget,e1,e2,ew,go_sem,seval];rfl;rintro d2 y r2 env hp he2 rfl;obtain⟨hget2,f1,f2,fw⟩:=cM he2 hlb;cases b4:decide (y.c < -100)
 case true=>simp only[nN,nP,e1,e2,hget,hget2,f1,f2,b4,go_sem,seval]
 cases b5:decide (100<y.c)
 case true=>simp only[nN,nP,e1,e2,hget,hget2,f1,f2,b4,b5,go_sem,seval]
 cases b6:decide (35<(y.v.bs.length:Int))
 case true=>simp only[nN,nP,e1,e2,hget,hget2,f1,f2,b4,b5,b6,go_sem,seval]
 simp only[nN,nP,e1,e2,hget,hget2,f1,f2,b4,b5,b6,fw,go_sem,seval];rfl
theorem c569(hf:pg.fs 569=some DU)(h568:∀(nl cl:Bool) (ls:List Lin),ls.length<=big->bZ pg 568 [.sl nl (ls.map Lin.av) cl] IsB)(h25:∀p:aE,p.ok->Ret pg 25 [p.av] (.bool (G7 p))) :
  ∀p:aE,p.ok->bZ pg 569 [p.av] IsB:=by
 refine aE.ind' λp ih hp=>?_;obtain⟨hb,hk⟩:=(aE.ok_iff p).1 hp;obtain⟨r1,a1,b1,rfl⟩:=h568 p.at_.nl p.at_.cl p.at_.es p.at_.ok;have a2:=h25 p hp;rw[aE.avc]at a2;refine bZ.ofX hf ?_;unfold DU;simp only[go_sem,seval];refine aY p.kids (λd r env hp=>env=A6 (.pt 1 0 0) (.int .i64 d.length)/\hp.get 1=some (0,.blk (wY p p.kids) 9 true true false)) ?_ ?_ ?_;exact⟨rfl,rfl⟩;rintro env hp ⟨rfl,h1⟩;simp only[wY]at h1;simp only[A5,A6,bA,h1,go_sem,seval];refine aG a1 ?_;cases b1;simp only[go_sem,seval];simp only[h1,go_sem,seval];refine aG a2 ?_;simp only[go_sem,seval];rintro d x r env hp hes ⟨rfl,h1⟩;have h0:=h1;simp only[wY]at h1;obtain⟨r3,a3,b3,rfl⟩:=ih x (by rw[hes];simp) (hk x (by rw[hes];simp));obtain⟨hget,e1,e2,ew⟩:=cM hes hb;simp only[A5,A6,e1,e2,hget,h1,go_sem,seval];refine aG (a3) ?_;cases b3;simp only[go_sem,seval];simp only[ew,go_sem,seval];exact⟨rfl,h0⟩
theorem c556(hf:pg.fs 556=some DZ)(h568:∀(nl cl:Bool) (ls:List Lin),ls.length<=big->bZ pg 568 [.sl nl (ls.map Lin.av) cl] IsB)(h569:∀p:aE,p.ok->bZ pg 569 [p.av] IsB)
  (n:aK) (hbo:n.body.ok) (hio:n.index.ok):bZ pg 556 [n.av] IsB:=by
 obtain⟨r1,a1,b1,rfl⟩:=h568 n.at_.nl n.at_.cl n.at_.es n.at_.ok;obtain⟨r2,a2,b2,rfl⟩:=h569 n.index hio;obtain⟨r3,a3,b3,rfl⟩:=h569 n.body hbo;rw[aE.avc]at a2 a3;have lb:=n.loops.ok;refine bZ.ofX hf ?_;unfold DZ;simp only[go_sem,seval];refine aY n.loops.es (λd r env hp=>env=pU (.pt 1 0 0) (.int .i64 d.length)/\hp.get 1=some (0,.blk n.cells 23 true true false)) ?_ ?_ ?_;exact⟨rfl,rfl⟩;rintro env hp ⟨rfl,h1⟩;simp only[aK.cells,aE.cells,Sl.av,aE.kav,List.cons_append,List.nil_append]at h1;cases b4:decide ((n.loops.es.length:Int)<=5)
 case false=>simp only[pT,pU,bA,h1,b4,go_sem,seval]
 simp only[pT,pU,bA,h1,b4,go_sem,seval];refine aG a1 ?_;cases b1;simp only[go_sem,seval];simp only[h1,go_sem,seval];refine aG a2 ?_;cases b2;simp only[go_sem,seval];simp only[h1,go_sem,seval];refine aG a3 ?_;simp only[go_sem,seval];rintro d x r env hp hes ⟨rfl,h1⟩;have h0:=h1;simp only[aK.cells,aE.cells,Sl.av,aE.kav,List.cons_append,List.nil_append]at h1;obtain⟨r4,a4,b4,rfl⟩:=h568 x.hi.nl x.hi.cl x.hi.es x.hi.ok;obtain⟨r5,a5,b5,rfl⟩:=h568 false true [x.lo] (by simp[big]);simp only[List.map_cons,List.map_nil,Lin.avc]at a5;obtain⟨hget,e1,e2,ew⟩:=cM hes lb;cases b6:decide (35<(x.v.bs.length:Int))
 case true=>simp only[pT,pU,e1,e2,hget,h1,b6,go_sem,seval]
 simp only[pT,pU,e1,e2,hget,h1,b6,go_sem,seval];refine aG (a4) ?_;cases b4;simp only[go_sem,seval];simp only[h1,e2,hget,go_sem,seval];refine aG (a5) ?_;cases b5;simp only[go_sem,seval];simp only[ew,go_sem,seval];exact⟨rfl,h0⟩
end
end
section
structure CodeNV(pg:Pg):Prop where
 f15:pg.fs 15=some GH
 f25:pg.fs 25=some NI
 f26:pg.fs 26=some GG
 f40:pg.fs 40=some GD
 f41:pg.fs 41=some JN
 f42:pg.fs 42=some F8
 f51:pg.fs 51=some NF
 f54:pg.fs 54=some NE
 f56:pg.fs 56=some DX
 f57:pg.fs 57=some NC
 f67:pg.fs 67=some aIT
 f70:pg.fs 70=some aIR
 f77:pg.fs 77=some M3
 f87:pg.fs 87=some M1
 f89:pg.fs 89=some JM
 f90:pg.fs 90=some JL
 f91:pg.fs 91=some JK
 f95:pg.fs 95=some aIN
 f96:pg.fs 96=some aIM
 f98:pg.fs 98=some MZ
 f105:pg.fs 105=some N4
 f106:pg.fs 106=some D8
 f107:pg.fs 107=some N3
 f109:pg.fs 109=some N2
 f111:pg.fs 111=some N1
 f114:pg.fs 114=some yH
 f115:pg.fs 115=some yG
 f118:pg.fs 118=some D7
 f121:pg.fs 121=some D6
 f123:pg.fs 123=some D5
 f124:pg.fs 124=some oA
 f125:pg.fs 125=some D4
 f126:pg.fs 126=some vP
 f137:pg.fs 137=some N0
 f138:pg.fs 138=some yF
 f140:pg.fs 140=some NZ
 f143:pg.fs 143=some D3
 f144:pg.fs 144=some NY
 f145:pg.fs 145=some NX
 f146:pg.fs 146=some NW
 f147:pg.fs 147=some NV
 f148:pg.fs 148=some NU
 f161:pg.fs 161=some yE
 f162:pg.fs 162=some yD
 f164:pg.fs 164=some D2
 f175:pg.fs 175=some yC
 f177:pg.fs 177=some NT
 f179:pg.fs 179=some NS
 f180:pg.fs 180=some NR
 f181:pg.fs 181=some NQ
 f182:pg.fs 182=some NP
 f183:pg.fs 183=some NO
 f184:pg.fs 184=some NN
 f191:pg.fs 191=some vO
 f192:pg.fs 192=some D1
 f193:pg.fs 193=some D0
 f194:pg.fs 194=some vN
 f205:pg.fs 205=some vM
 f206:pg.fs 206=some NM
 f207:pg.fs 207=some NL
 f208:pg.fs 208=some NK
 f209:pg.fs 209=some NJ
 f557:pg.fs 557=some ND
 f558:pg.fs 558=some DY
 f570:pg.fs 570=some NB
 f571:pg.fs 571=some NA
 f572:pg.fs 572=some vK
 f573:pg.fs 573=some DT
 f574:pg.fs 574=some DS
 f592:pg.fs 592=some M9
 f593:pg.fs 593=some vJ
 f594:pg.fs 594=some M8
 f595:pg.fs 595=some x9
 f607:pg.fs 607=some rY
section
variable{pg:Pg}
theorem OH(C:CodeNV pg)(p q:aE)(hp:p.ok):Ret pg 118 [p.av,q.av] (.bool (bT p q)):=c118 C.f118 C.f161 C.f15 (c121 C.f121 C.f162 C.f191) p hp q
theorem aJc(C:CodeNV pg)(p:aE)(hp:p.ok)(nl cl:Bool)(vars:List Str)(hb:vars.length+p.sz<=big)(v:Int):Ret pg 123 [p.av,.sl nl (vars.map Str.av) cl,.int .i64 v] (.bool (iK p vars v)):=by
 have h77:∀s:Str,Ret pg 77 [.str s.bs] (.bool (c8 s.bs)):=λs=>c77 C.f77 C.f114 C.f115 s.bs s.ok;have h54:∀l:Lin,Ret pg 54 [l.av] (.bool (gC l)):=c54 C.f54 h77 C.f90;have h121:=c121 C.f121 C.f162 C.f191;have h118:=c118 C.f118 C.f161 C.f15 h121;have h125:=c125 C.f125;have h87:∀(nl cl:Bool)(fn:List aJ),fn.length<=big->∀n:Int,Ret pg 87 [.sl nl (fn.map aJ.av) cl,.int .i64 n] (.bool (dH fn n)):=λnl cl fn hb n=>c87 C.f87 C.f124 h125 nl cl fn hb n;have h192:=c192 C.f192 h125;have h193:∀(nl cl:Bool)(ls:List Lin),ls.length<=big->∀(nl' cl':Bool)(vars:List Str),vars.length<=big->Ret pg 193 [.sl nl (ls.map Lin.av) cl,.sl nl' (vars.map Str.av) cl'] (.bool (bW ls vars)):=
  λnl cl ls hb nl' cl' vars hb'=>c193 C.f193 h54 C.f194 nl cl ls hb nl' cl' vars hb'
 exact c123 C.f123 C.f40 (c164 C.f164 h192 h118 h193 C.f124 h77 C.f194 h87) p hp nl cl vars hb v
theorem aJa(C:CodeNV pg)(n:aK)(nl cl:Bool)(vars:List Str)(hn:vX n vars)(values:Int):Ret pg 558 [n.av,.sl nl (vars.map Str.av) cl,.int .i64 values] (.bool (jX n vars values)):=by have h77:∀s:Str,Ret pg 77 [.str s.bs] (.bool (c8 s.bs)):=λs=>c77 C.f77 C.f114 C.f115 s.bs s.ok;have h54:∀l:Lin,Ret pg 54 [l.av] (.bool (gC l)):=c54 C.f54 h77 C.f90;exact c558 C.f558 h77 C.f572 (λl nl cl vars hb=>c573 C.f573 h54 C.f595 C.f572 l nl cl vars hb) (aJc C) (c574 C.f574 (OH C)) n nl cl vars hn.sz' values
theorem aJb(C:CodeNV pg)(p:aE)(hp:p.ok):Ret pg 25 [p.av] (.bool (G7 p)):=c25 C.f25 C.f40 C.f41 C.f42 C.f56 C.f26 p hp
end
end
section
section
variable{pg:Pg}
theorem c583(hf:pg.fs 583=some DR)(h162:∀a b:Lin,Ret pg 162 [a.av,b.av] (.bool (bU a b)))(nl cl nl' cl':Bool)(a b:List Lin)(hb:a.length<=big):Ret pg 583 [.sl nl (a.map Lin.av) cl,.sl nl' (b.map Lin.av) cl'] (.bool (eqL bU a b)):=by
 refine Ret.ofX hf ?_;unfold DR;cases b2:decide ((a.length:Int)=(b.length:Int))
 case false=>simp only[b2,go_sem,seval];rw[u7 b2]
 case true=>
 have hl:a.length=b.length:=by have:=aR b2;omega
 simp only[b2,go_sem,seval];refine aY a (λd r env hp=>env=A0 (.sl nl (a.map Lin.av) cl) (.sl nl' (b.map Lin.av) cl') (.int .i64 d.length)/\eqL bU a b=eqL bU r (b.drop d.length)) ?_ ?_ ?_;exact⟨rfl,rfl⟩;rintro env hp ⟨rfl,hI⟩;simp only[AZ,A0,bA,go_sem,seval];rw[hI,jL hl];rintro d x r env hp hes ⟨rfl,hI⟩;obtain⟨hget,e1,e2,ew⟩:=cM hes hb;obtain⟨y,gy,f1,f2,hq⟩:=xD (q:=bU) hes hl;rw[hq]at hI;simp only[AZ,A0,e1,e2,hget,gy,f1,f2,go_sem,seval];refine aG (h162 x y) ?_;cases hxy:bU x y;simp only[go_sem,seval];exact⟨by kernel_rfl,by rw[hI,hxy];rfl⟩;simp only[ew,go_sem,seval];exact⟨by kernel_rfl,rfl,by rw[hI,hxy,Bool.true_and]⟩
end
end
section
section
variable{pg:Pg}
theorem P6(x y:Lin):eqL bU [x] [y]=bU x y:=by simp[eqL]
set_option maxHeartbeats 4000000 in
theorem c562(hf:pg.fs 562=some DW)(h583:∀(nl cl nl' cl':Bool) (a b:List Lin),a.length<=big->Ret pg 583 [.sl nl (a.map Lin.av) cl,.sl nl' (b.map Lin.av) cl'] (.bool (eqL bU a b)))
  (h118:∀p q:aE,p.ok->Ret pg 118 [p.av,q.av] (.bool (bT p q))) (a b:aK) (hbo:a.body.ok) (hio:a.index.ok):Ret pg 562 [a.av,b.av] (.bool (cT a b)):=by
 have a1:=h583 a.at_.nl a.at_.cl b.at_.nl b.at_.cl a.at_.es b.at_.es a.at_.ok;have a2:=h118 a.index b.index hio;have a3:=h118 a.body b.body hbo;simp only[aE.avc]at a2 a3;have lb:=a.loops.ok;refine Ret.ofX hf ?_;unfold DW;cases b1:decide ((a.loops.es.length:Int)=(b.loops.es.length:Int))
 case false=>simp only[b1,go_sem,seval];simp[cT,b1]
 have hl:a.loops.es.length=b.loops.es.length:=by have:=aR b1;omega
 cases b2:decide (a.value=b.value)
 case false=>simp only[b1,b2,go_sem,seval];simp[cT,b1,b2]
 cases b3:(a.dyn==b.dyn)
 case false=>simp only[b1,b2,b3,go_sem,seval];simp[cT,b1,b2,b3]
 cases b4:decide (a.check=b.check)
 case false=>simp only[b1,b2,b3,b4,go_sem,seval];simp[cT,b1,b2,b3,b4]
 simp only[b1,b2,b3,b4,go_sem,seval];refine aG a1 ?_;cases b5:eqL bU a.at_.es b.at_.es
 case false=>simp only[go_sem,seval];simp[cT,b1,b2,b3,b4,b5]
 simp only[go_sem,seval];refine aG a2 ?_;cases b6:bT a.index b.index
 case false=>simp only[go_sem,seval];simp[cT,b1,b2,b3,b4,b5,b6]
 simp only[go_sem,seval];refine aG a3 ?_;cases b7:bT a.body b.body
 case false=>simp only[go_sem,seval];simp[cT,b1,b2,b3,b4,b5,b6,b7]
 simp only[go_sem,seval];have hspec:cT a b=eqL e9 a.loops.es b.loops.es:=by simp[cT,b1,b2,b3,b4,b5,b6,b7]
 rw[hspec];clear a1 a2 a3 hspec b1 b2 b3 b4 b5 b6 b7;refine aY a.loops.es (λd r env hp=>env=A8 (.pt 1 0 0) (.pt 5 0 0) (.int .i64 d.length)/\hp.get 1=some (0,.blk a.cells 23 true true false)/\hp.get 5=some (0,.blk b.cells 23 true true false)/\eqL e9 a.loops.es b.loops.es=eqL e9 r (b.loops.es.drop d.length)) ?_ ?_ ?_;exact⟨rfl,rfl,rfl,rfl⟩;rintro env hp ⟨rfl,h1,h5,hI⟩;simp only[aK.cells,aE.cells,Sl.av,aE.kav,List.cons_append,List.nil_append]at h1 h5;simp only[A7,A8,bA,h1,h5,go_sem,seval];rw[hI,jL hl];rintro d x r env hp hes ⟨rfl,h1,h5,hI⟩;have h10:=h1;have h50:=h5;simp only[aK.cells,aE.cells,Sl.av,aE.kav,List.cons_append,List.nil_append]at h1 h5;obtain⟨hget,e1,e2,ew⟩:=cM hes lb;obtain⟨y,gy,f1,f2,hq⟩:=xD (q:=e9) hes hl;rw[hq]at hI;have a1:=h583 false true false true [x.lo] [y.lo] (by simp[big]);have a2:=h583 x.hi.nl x.hi.cl y.hi.nl y.hi.cl x.hi.es y.hi.es x.hi.ok;rw[P6]at a1;simp only[List.map_cons,List.map_nil,Lin.avc]at a1;simp only[A7,A8,e1,e2,hget,gy,f1,f2,h1,h5,go_sem,seval];refine⟨by kernel_rfl,?_⟩;cases b1:decide (x.v.bs=y.v.bs)
 case false=>simp only[b1,go_sem,seval];rw[hI];simp[e9,b1]
 cases b2:decide (x.step=y.step)
 case false=>simp only[b1,b2,go_sem,seval];rw[hI];simp[e9,b1,b2]
 simp only[b1,b2,go_sem,seval];refine aG (a1) ?_;cases b3:bU x.lo y.lo;simp only[go_sem,seval];rw[hI];simp[e9,b1,b2,b3];simp only[h1,h5,e1,e2,hget,gy,f1,f2,go_sem,seval];refine aG (a2) ?_;cases b4:eqL bU x.hi.es y.hi.es;simp only[go_sem,seval];rw[hI];simp[e9,b1,b2,b3,b4];simp only[ew,go_sem,seval];exact⟨rfl,by first|exact h10|rfl,by first|exact h50|rfl,by rw[hI];simp[e9,b1,b2,b3,b4]⟩
end
end
section
theorem CZ:∀(ls:List Loop)(all:List Str),dS ls all=true->∀x∈ls,x.hi.es≠[]/\x.hi.es.length<big
 |[],_,_,x,hx=>by simp at hx
 |y::r,all,h,x,hx=>by simp only[dS,aF]at h;rcases List.mem_cons.1 hx with rfl|hx;have h1:=h.1;simp only[fJ,aF,gI,sY]at h1;obtain⟨⟨_,⟨⟨h2,h3⟩,_⟩,_⟩,_⟩:=h1;refine⟨λq=>?_,by simp only[big];omega⟩;rw[q]at h2;simp at h2;exact CZ r _ h.2 x hx
section
variable{pg:Pg}
end
end
section
structure Cut where
 k:Int
 size:Int
 name:Str
 sizes:Sl Int
def Cut.av(x:Cut):AV:=.agg ([bL x.k]++([bL x.size]++([Str.av x.name]++([x.sizes.av bL]++[]))))
section
variable{pg:Pg}
set_option maxHeartbeats 8000000 in
theorem c741(hf:pg.fs 741=some DN)(h743:Ret pg 743 [] (.bool true))(n:aK)(hbo:n.body.ok)(hio:n.index.ok)(hwf:∀x∈n.loops.es,wfL x)(vars:Sl Str)(c:Cut)
  (h556:bZ pg 556 [n.av] IsB) (h558:Ret pg 558 [n.av,.sl vars.nl (vars.es.map Str.av) vars.cl,.int .i64 1000] (.bool (jX n vars.es 1000)))
  (h746:(∀x∈n.loops.es,mB x)->bZ pg 746 [n.av,.int .i64 c.k,.int .i64 c.size,.str c.name.bs] (iJ n c.k c.size c.name))
  (h747:(∀x∈n.loops.es,mB x)->bZ pg 747 [n.av,.int .i64 c.k,.int .i64 c.size,.str c.name.bs] (iJ n c.k c.size c.name))
  (h748:(∀x∈n.loops.es,mB x)->d9 n.loops.es=true->n.loops.es.length<=12->∀(nl cl:Bool)(z:List Int),(∀(i:Nat)(s:Int),z[i]?=some s->s≠0->i<10)->bZ pg 748 [n.av,.sl nl (z.map bL) cl] (iD n z))
  (h749:(∀x∈n.loops.es,mB x)->(∀x∈n.loops.es,l9 x)->n.loops.es.length<=12->∀(nl cl:Bool)(z:List Int),(∀(i:Nat)(s:Int),z[i]?=some s->s≠0->i<10)->bZ pg 749 [n.av,.sl nl (z.map bL) cl] (iD n z))
  (h562:∀a b:aK,a.body.ok->a.index.ok->Ret pg 562 [a.av,b.av] (.bool (cT a b))) :
  Ret pg 741 [n.av,.sl vars.nl (vars.es.map Str.av) vars.cl,c.av] (.bool true):=by
 obtain⟨r1,a1,b1,rfl⟩:=h556;have hcv:c.av = .agg [.int .i64 c.k,.int .i64 c.size,.str c.name.bs,.sl c.sizes.nl (c.sizes.es.map bL) c.sizes.cl]:=rfl;rw[aK.avc]at a1 h558;rw[hcv];refine Ret.ofX hf ?_;unfold DN;simp only[go_sem,seval];refine cS h743 rfl rfl ?_;simp only[go_sem,seval];refine aG a1 ?_;cases b1
 case false=>simp only[go_sem,seval]
 cases b2:decide (35<(c.name.bs.length:Int))
 case true=>simp only[b2,go_sem,seval]
 cases b4:decide (8<(c.sizes.es.length:Int))
 case true=>simp only[b2,b4,go_sem,seval]
 simp only[b2,b4,go_sem,seval];refine aG h558 ?_;cases b3:jX n vars.es 1000
 case false=>simp only[go_sem,seval]
 have hlo:dS n.loops.es vars.es=true:=by simp only[jX,aF]at b3;exact b3.1.1.1.1.1.1.1
 have hl12:n.loops.es.length<=12:=by simp only[jX,aF,cY]at b3;have:=b3.1.1.1.1.1.1.2;omega
 have hlin:=uL _ _ hlo;have hall:∀x∈n.loops.es,mB x:=by intro x hx;obtain⟨p,q⟩:=CZ _ _ hlo x hx;exact⟨hwf x hx,p,q⟩
 have hposs:=uK _ _ hlo;have hz10:∀(i:Nat)(s:Int),c.sizes.es[i]?=some s->s≠0->i<10:=by intro i s hi _;have h1:=(bR.1 hi).1;have h2:=bQ b4;omega
 have hz0:∀(i:Nat)(s:Int),(List.replicate n.loops.es.length (0:Int))[i]?=some s->s≠0->i<10:=by intro i s hi hs;exact absurd (List.mem_replicate.1 (List.mem_of_getElem? hi)).2 hs
 obtain⟨r2,a2,s2⟩:=h746 hall;obtain⟨r3,a3,s3⟩:=h747 hall;obtain⟨A,B,e,rfl,rfl,hAB,hA⟩:=HY s2 s3;obtain⟨r4,a4,s4⟩:=h748 hall hposs hl12 c.sizes.nl c.sizes.cl c.sizes.es hz10;obtain⟨r5,a5,s5⟩:=h749 hall (λx hx=>LC (hlin x hx)) hl12 c.sizes.nl c.sizes.cl c.sizes.es hz10;obtain⟨X,Y,f,rfl,rfl,hXY,hX⟩:=J8 s4 s5;obtain⟨r6,a6,s6⟩:=h748 hall hposs hl12 false true (List.replicate n.loops.es.length 0) hz0;obtain⟨Z,rfl,hZ,hZb,hZi⟩:=BS hposs s6;have okA:A.body.ok/\A.index.ok:=by
  rcases hA with rfl|⟨p,q⟩
  exact⟨oY,oY⟩;rw[p,q];exact⟨hbo,hio⟩
 have okX:X.body.ok/\X.index.ok:=by
  rcases hX with rfl|⟨p,q⟩
  exact⟨oY,oY⟩;rw[p,q];exact⟨hbo,hio⟩
 have q1:=h562 A B okA.1 okA.2;have q2:=h562 X Y okX.1 okX.2;have q3:=h562 Z n (by rw[hZb];exact hbo) (by rw[hZi];exact hio);rw[hAB]at q1;rw[hXY]at q2;rw[hZ]at q3;clear s2 s3 s4 s5 s6 hAB hXY hZ h746 h747 h748 h749 h562 okA okX hA hX hlin hall hz10 hz0;rw[aK.avc]at a2 a3 a4 a5 a6;simp only[go_sem,seval];refine cS a2 (by simp only[go_sem,seval]) (by first|rfl|(rw[aK.avc];rfl)|(simp only[aK.avc];rfl)) ?_;simp only[go_sem,seval];refine cS a3 (by simp only[go_sem,seval]) (by first|rfl|(rw[aK.avc];rfl)|(simp only[aK.avc];rfl)) ?_;simp only[go_sem,seval];refine cS a4 (by simp only[go_sem,seval]) (by first|rfl|(rw[aK.avc];rfl)|(simp only[aK.avc];rfl)) ?_;simp only[go_sem,seval];refine cS a5 (by simp only[go_sem,seval]) (by first|rfl|(rw[aK.avc];rfl)|(simp only[aK.avc];rfl)) ?_;have hn1:((n.loops.es.length:Int)<=1073741824)=True:=eq_true (by omega);have hfl:(List.replicate n.loops.es.length [AV.int IntKind.i64 0]).flatten=(List.replicate n.loops.es.length (0:Int)).map bL:=by
  rw[List.map_replicate];generalize n.loops.es.length=m
  induction m with
  |zero=>rfl
  |succ m ih=>rw[List.replicate_succ,List.flatten_cons,ih];rfl
 simp only[hn1,hfl,go_sem,seval];generalize hH:Hp.put _ 53 0 (Ob.blk ((List.replicate n.loops.es.length (0:Int)).map bL) _ _ _ _)=H1;have m1:H1.get 1=some (0,.blk n.cells 23 true true false):=by rw[<-hH,aK.cellsE];simp only[go_sem,seval]
 have m25:H1.get 25=some (0,.blk A.cells 23 true true false):=by rw[<-hH,aK.cellsE];simp only[go_sem,seval]
 have m33:H1.get 33=some (0,.blk B.cells 23 true true false):=by rw[<-hH,aK.cellsE];simp only[go_sem,seval]
 have m41:H1.get 41=some (0,.blk X.cells 23 true true false):=by rw[<-hH,aK.cellsE];simp only[go_sem,seval]
 have m49:H1.get 49=some (0,.blk Y.cells 23 true true false):=by rw[<-hH,aK.cellsE];simp only[go_sem,seval]
 have m53:H1.get 53=some (0,.blk ((List.replicate n.loops.es.length (0:Int)).map bL) 1 false true false):=by rw[<-hH];simp only[go_sem,seval]
 have m61:H1.next 61=0:=by rw[<-hH];rfl
 clear hH;have hsn:Tev.snap 64 H1 (.rf 53 0 0 n.loops.es.length n.loops.es.length)=some (.sl false ((List.replicate n.loops.es.length (0:Int)).map bL) true,[53]):=by
  have ht:treeL ((List.replicate n.loops.es.length (0:Int)).map bL)=true:=bV (f:=bL) (λ_=>rfl) _;have hm:=cX 62 H1 ht;have hch:j6 1 false n.loops.es.length (((List.replicate n.loops.es.length (0:Int)).map bL).drop 0)=some ((List.replicate n.loops.es.length (0:Int)).map bL):=by obtain⟨cs,c1,_,_,c4⟩:=bE (El.ints (List.replicate n.loops.es.length (0:Int)));rw[oZ]at c1;cases c1;have:=c4 [];rw[List.append_nil,aZ,aHf]at this;exact this
  rw[Tev.snap,if_neg (by simp[AV.tree])];simp only[m53,hch,hm,if_true,Option.map_some,beq_self_eq_true,Bool.and_self]
 refine cL a6 (keys:=[53]++[]) (by simp only[depth];exact mV (by simp only[go_sem,seval]) hsn) (v:=.tup [Z.av,.int .i64 0]) (pa:=[]) rfl ?_;have hfk:bF H1 ([53]++[])=[⟨53,0,.blk ((List.replicate n.loops.es.length (0:Int)).map bL) 1 false true true⟩]:=by simp only[List.append_nil,bF,m53]
 rw[hfk];have q1':=q1;have q2':=q2;have q3':=q3;rw[aK.avc,aK.avc]at q1' q2' q3';have hee:decide (e=e)=true:=decide_eq_true rfl;have hff:decide (f=f)=true:=decide_eq_true rfl;rw[aK.cellsE]at m1 m25 m33 m41 m49;cases hflat:(AV.tup [Z.av,AV.int .i64 0]).flat
 all_goals
  simp only[m61,go_sem,seval];refine cC ?_;simp only[hee,m25,m33,go_sem,seval];refine aG q1' ?_;simp only[hff,m41,m49,go_sem,seval];refine aG q2' ?_;simp only[m1,go_sem,seval];refine aG q3' ?_;simp only[go_sem,seval]
end
end
section
structure TyC(P:Program)(tI tS cQ tCut:TypeId):Prop where
 u_tCut:∃fs,P.underlying tCut=some (.struct fs)/\fs.toList.map (λf=>(f.type,f.offset))=[(tI,0),(tI,1),(tS,2),(cQ,3)]
 c_tCut:P.cellsOf tCut=4
section
variable{H:Type}{enc:TypeId×Value->H}{P:Program}{w:World}{num:Nm}{ρ : Rho}{b:DataW H->Nat}{bs:List (DataW H)->Nat}{tI tS tB tCoef tLin tStep tPull sCoef sLin sStep sPull cQ sStr tCut:TypeId}
variable(B:EK b bs)(T:TyP P tI tS tB tCoef tLin tStep tPull sCoef sLin sStep sPull cQ sStr)(N:TyC P tI tS cQ tCut)
include B T N
theorem PA(M:Nat):Rd enc P w num ρ b M tCut (λx:Cut=>[bL x.k]++([bL x.size]++([Str.av x.name]++([x.sizes.av bL]++[])))) (λ_ _=>True):=by
 intro fuel hN cs d ps h hb;obtain⟨fs,hu,hL⟩:=N.u_tCut;obtain⟨xs,n,hn,hx,hcl,hl,hf⟩:=eG hu hL h;rw[N.c_tCut]at hcl;obtain⟨y0,y1,y2,y3,rfl⟩:∃y0 y1 y2 y3,xs=[y0,y1,y2,y3]:=by
  match xs,hl with
  |[y0,y1,y2,y3],_=>exact⟨y0,y1,y2,y3,rfl⟩
 have hx':d = .agg [y0.1,y1.1,y2.1,y3.1]:=hx;subst hx';rw[B.agg]at hb ⊢;simp only[B.cons,B.nil]at hb ⊢;have f0:_=some y0:=hf 0 (tI,0) rfl;have f1:_=some y1:=hf 1 (tI,1) rfl;have f2:_=some y2:=hf 2 (tS,2) rfl;have f3:_=some y3:=hf 3 (cQ,3) rfl;simp only[T.c_sInt,T.c_tI,T.c_tS]at f0 f1 f2 f3;obtain⟨a0,p0,g0⟩:=(Rd.int (enc:=enc) (w:=w) (num:=num) (ρ := ρ) (b:=b) (N:=n) T.uI) n (Nat.le_refl _) _ y0.1 y0.2 f0 (by omega);obtain⟨a1,p1,g1⟩:=(Rd.int (enc:=enc) (w:=w) (num:=num) (ρ := ρ) (b:=b) (N:=n) T.uI) n (Nat.le_refl _) _ y1.1 y1.2 f1 (by omega);obtain⟨a2,p2,g2⟩:=(Rd.str (enc:=enc) (w:=w) (num:=num) (ρ := ρ) (N:=n) B T.uS) n (Nat.le_refl _) _ y2.1 y2.2 f2 (by omega);obtain⟨a3,p3,g3⟩:=(GW (enc:=enc) (w:=w) (num:=num) (ρ := ρ) B T n) n (Nat.le_refl _) _ y3.1 y3.2 f3 (by omega);refine⟨⟨a0,a1,a2,a3⟩,?_,trivial⟩;have q:=(p0.piece (p1.piece (p2.piece (p3.piece (aL.done (by omega))))))
 rw[List.drop_zero]at q;exact q
end
end
end Go.Tev
section
set_option maxRecDepth 100000
namespace Go.Proofs
open Go.Tev
theorem tyS:TyP Tryz.prog 3 9 4 79 62 138 29 60 23 26 27 33 32 where
 uI:=Tryz.underlying3
 uS:=Tryz.underlying9
 uB:=Tryz.underlying4
 u_tCoef:=⟨_,Tryz.underlying79,by kernel_rfl⟩
 u_tLin:=⟨_,Tryz.underlying62,by kernel_rfl⟩
 u_tStep:=⟨_,Tryz.underlying138,by kernel_rfl⟩
 u_tPull:=⟨_,Tryz.underlying29,by kernel_rfl⟩
 u_sCoef:=Tryz.underlying60
 u_sLin:=Tryz.underlying23
 u_sStep:=Tryz.underlying26
 u_sPull:=Tryz.underlying27
 u_sInt:=Tryz.underlying33
 u_sStr:=Tryz.underlying32
 c_tI:=by kernel_rfl
 c_tS:=by kernel_rfl
 c_tB:=by kernel_rfl
 c_tCoef:=by kernel_rfl
 c_tLin:=by kernel_rfl
 c_tStep:=by kernel_rfl
 c_tPull:=by kernel_rfl
 c_sCoef:=by kernel_rfl
 c_sLin:=by kernel_rfl
 c_sStep:=by kernel_rfl
 c_sPull:=by kernel_rfl
 c_sInt:=by kernel_rfl
 c_sStr:=by kernel_rfl
theorem tyN:TyN Tryz.prog 3 9 4 62 29 23 64 25 31 22 where
 u_tLoop:=⟨_,Tryz.underlying64,by kernel_rfl⟩
 u_tAcc:=⟨_,Tryz.underlying25,by kernel_rfl⟩
 u_tNest:=⟨_,Tryz.underlying31,by kernel_rfl⟩
 u_sLoop:=Tryz.underlying22
 c_tLoop:=by kernel_rfl
 c_tAcc:=by kernel_rfl
 c_tNest:=by kernel_rfl
 c_sLoop:=by kernel_rfl
theorem tyC:TyC Tryz.prog 3 9 33 43 where
 u_tCut:=⟨_,Tryz.underlying43,by kernel_rfl⟩
 c_tCut:=by kernel_rfl
theorem zW{ρ : Rho}{W:World}{g:Nat}{v:AV}{cs:Array Value}{T:TypeId}{fr:Nat×Nat}(ht:v.tree=true)(hg:W.heap[g]?=some (.cells cs T fr))(h:aL (Rv nm ρ W noF) v.cells cs.toList) :
  (v.tree=true/\∃c T fr,W.heap[gnum g]?=some (.cells c T fr)/\c.size=v.cells.length)/\Rv nm ρ W noF (.fp v) (.pointer (some ⟨gnum g,0,none⟩)):=by
 have hl:=h.length;have hsz:cs.size=v.cells.length:=by rw[hl];simp
 refine⟨⟨ht,cs,T,fr,hg,hsz⟩,?_⟩;have hlt:g<W.heap.size:=by by_cases hlt:g<W.heap.size;exact hlt;rw[Array.getElem?_eq_none (Nat.le_of_not_lt hlt)]at hg;cases hg
 have hcell:∀n,n<cs.size->W.cell? ⟨g,0+n,none⟩=some (cs[n]?.getD undef):=by intro n hn;simp only[World.cell?,hg,Option.isSome_none,Bool.false_eq_true,if_false,Nat.zero_add];rw[Array.getElem?_eq_getElem hn];rfl
 refine .fp v g 0 (λn=>cs[n]?.getD undef) (λh=>h) hlt (λn hn=>hcell n (by omega)) ?_;intro j x hx;have hj:j<cs.size:=by rw[hsz];exact(List.getElem?_eq_some_iff.1 hx).1
 have h2:=h.get j x (cs[j]'hj) hx (by rw[Array.getElem?_toList,Array.getElem?_eq_getElem hj]);simpa[Array.getElem?_eq_getElem hj] using h2
theorem qJ{P:Program}{W:World}{n:String}{g:Nat}{cs:Array Value}(hg:P.globalNamed n=some g)(h:W.var? P n=some cs):∃T fr,W.heap[g]?=some (.cells cs T fr):=by unfold World.var? at h;rw[hg,Option.bind_some]at h;split at h;rename_i c T fr hh;cases h;exact⟨T,fr,hh⟩;cases h
theorem C2{P:Program}{W:World}{fuel:Nat}{t:TypeId}{cs:List Value}{name:String}{d:DataW Unit}{p:List MemPlace}{ms}(ht:P.underlying t=some (.interface ms))
  (h:DataW.trod (λ_=>()) P W 0 (λ_=>true) false fuel t cs=some (.iface name d,p)):∃u v,cs=[.iface u v]:=by
 cases fuel with
 |zero=>simp[DataW.trod]at h
 |succ fuel=>
  unfold DataW.trod at h;rw[ht]at h;split at h<;>first|(rename_i e;cases e;done)|skip
  all_goals first|(exact⟨_,_,rfl⟩)|(cases h;done)|skip
theorem aSo{W:World}(hL:laidMetH Tryz.prog YtagdhpkdbdilaaaGreatDoor.Rows.tileStripUptoRow.laid W):f9 nm glS gnum (λ_ _=>none) W noF:=by
 have e:(YtagdhpkdbdilaaaGreatDoor.Rows.tileStripUptoRow.laid.filter λx=>x.2.handleName?.isSome)=[]:=by kernel_rfl
 have h:laidMet Tryz.prog YtagdhpkdbdilaaaGreatDoor.Rows.tileStripUptoRow.laid W:=by unfold laidMetH at hL;rw[e]at hL;exact hL
 obtain⟨ps,hv,_,_⟩:=h;obtain⟨g1,t1,cs1,f1,p1,q1,hg1,ht1,hv1,hd1,hr1,_⟩:=hv;obtain⟨g2,t2,cs2,f2,p2,q2,hg2,ht2,hv2,hd2,hr2,_⟩:=hr1;obtain⟨g3,t3,cs3,f3,p3,q3,hg3,ht3,hv3,hd3,hr3,_⟩:=hr2;obtain⟨g4,t4,cs4,f4,p4,q4,hg4,ht4,hv4,hd4,hr4,_⟩:=hr3;obtain⟨g5,t5,cs5,f5,p5,q5,hg5,ht5,hv5,hd5,hr5,_⟩:=hr4;clear hr5;obtain⟨T3,fr3,hh3⟩:=qJ hg3 hv3;obtain⟨T4,fr4,hh4⟩:=qJ hg4 hv4;obtain⟨T5,fr5,hh5⟩:=qJ hg5 hv5;obtain rfl:2=g3:=Option.some.inj ((show Tryz.prog.globalNamed _=some 2 by kernel_rfl).symm.trans hg3);obtain rfl:1=g4:=Option.some.inj ((show Tryz.prog.globalNamed _=some 1 by kernel_rfl).symm.trans hg4);obtain rfl:0=g5:=Option.some.inj ((show Tryz.prog.globalNamed _=some 0 by kernel_rfl).symm.trans hg5);obtain rfl:229=t3:=Option.some.inj ((show (Tryz.prog.globals[2]?).map (·.type)=some 229 by kernel_rfl).symm.trans ht3);obtain rfl:113=t4:=Option.some.inj ((show (Tryz.prog.globals[1]?).map (·.type)=some 113 by kernel_rfl).symm.trans ht4);obtain rfl:113=t5:=Option.some.inj ((show (Tryz.prog.globals[0]?).map (·.type)=some 113 by kernel_rfl).symm.trans ht5);have hd3':DataW.trod (λ_=>()) Tryz.prog W 0 (λ_=>true) false f3 229 cs3.toList=some (Lib.tabData .u64 Lib.pow10Tab,p3):=hd3;have hcsP:=Lib.cells_of_tab Tryz.underlying229 Tryz.underlying171 (by kernel_rfl) (by kernel_rfl) hd3';obtain⟨uR,vR,hcR⟩:=C2 Tryz.underlying113 hd4;obtain⟨uY,vY,hcY⟩:=C2 Tryz.underlying113 hd5;intro g v hg;unfold glS at hg;cases h1:g.beq 0 with
 |true=>rw[h1]at hg;simp only[cond_true,Option.some.injEq]at hg;subst hg;obtain rfl:=Nat.eq_of_beq_eq_true h1;exact zW (by kernel_rfl) hh5 (by rw[hcY];exact .cons (.ifc _ _ _ (.top _)) .nil)
 |false=>
  cases h2:g.beq 1 with
  |true=>rw[h1,h2]at hg;simp only[cond_true,cond_false,Option.some.injEq]at hg;subst hg;obtain rfl:=Nat.eq_of_beq_eq_true h2;exact zW (by kernel_rfl) hh4 (by rw[hcR];exact .cons (.ifc _ _ _ (.top _)) .nil)
  |false=>
   cases h3:g.beq 2 with
   |true=>
    rw[h1,h2,h3]at hg;simp only[cond_true,cond_false,Option.some.injEq]at hg;subst hg;obtain rfl:=Nat.eq_of_beq_eq_true h3;refine zW (by kernel_rfl) hh3 ?_;rw[hcsP];refine aL.mk_get (by simp[AV.cells]) ?_;intro i x y hx hy;simp only[AV.cells,List.getElem?_map]at hx hy;cases hz:Lib.pow10Tab[i]? with
    |none=>rw[hz]at hx;cases hx
    |some z=>rw[hz]at hx hy;cases hx;cases hy;exact .int _ _
   |false=>rw[h1,h2,h3]at hg;cases hg
end Go.Proofs
end
namespace Go.Tev
section
structure CodeTl(pg:Pg):Prop where
 f175:pg.fs 175=some yC
 f205:pg.fs 205=some vM
 f293:pg.fs 293=some NH
 f306:pg.fs 306=some vL
 f316:pg.fs 316=some NG
 f556:pg.fs 556=some DZ
 f562:pg.fs 562=some DW
 f568:pg.fs 568=some DV
 f569:pg.fs 569=some DU
 f583:pg.fs 583=some DR
 f593:pg.fs 593=some vJ
 f607:pg.fs 607=some rY
 f740:pg.fs 740=some M7
 f744:pg.fs 744=some M6
 f745:pg.fs 745=some M5
 f758:pg.fs 758=some DI
 f759:pg.fs 759=some M4
 f760:pg.fs 760=some DH
 f761:pg.fs 761=some rX
 f778:pg.fs 778=some vH
 f779:pg.fs 779=some rW
 f780:pg.fs 780=some x6
 f781:pg.fs 781=some M2
 f782:pg.fs 782=some x5
 f783:pg.fs 783=some pO
 f794:pg.fs 794=some vG
section
variable{pg:Pg}
theorem aIY(D:CodeTl pg)(nl cl:Bool)(ls:List Loop)(hb:ls.length<=big)(hw:∀x∈ls,wfL x/\x.hi.es≠[]/\x.hi.es.length<big):Ret pg 758 [.sl nl (ls.map Loop.av) cl] (.bool (d9 ls)):=
 c758 D.f758 D.f306 D.f175 D.f205 D.f780 D.f593 D.f607 D.f778 D.f761 D.f783 D.f779 nl cl ls hb hw
end
end
section
structure CodeTs(pg:Pg):Prop where
 f298:pg.fs 298=some yB
 f582:pg.fs 582=some yA
 f599:pg.fs 599=some x8
 f608:pg.fs 608=some DQ
 f691:pg.fs 691=some DP
 f741:pg.fs 741=some DN
 f746:pg.fs 746=some DM
 f747:pg.fs 747=some DL
 f748:pg.fs 748=some DK
 f749:pg.fs 749=some DJ
 f762:pg.fs 762=some x7
 f763:pg.fs 763=some vI
 f764:pg.fs 764=some DG
 f765:pg.fs 765=some DF
 f766:pg.fs 766=some DE
 f784:pg.fs 784=some rV
section
variable{pg:Pg}
theorem aIZ(C:CodeNV pg)(D:CodeTl pg)(E:CodeTs pg)(A:OraN pg)(h743:Ret pg 743 [] (.bool true))(n:aK)(vars:Sl Str)(c:Cut)(hn:vX n vars.es)(hwf:∀x∈n.loops.es,wfL x) :
  Ret pg 741 [n.av,.sl vars.nl (vars.es.map Str.av) vars.cl,c.av] (.bool true):=by
 have h162:∀a b:Lin,Ret pg 162 [a.av,b.av] (.bool (bU a b)):=c162 C.f162 C.f191;have h746:=fun(n:aK)(hw:∀x∈n.loops.es,wfL x/\x.hi.es≠[]/\x.hi.es.length<big)(k size:Int)(name:Str)=>c746 E.f746 (bAh A C.f57 C.f91 C.f126) D.f761 D.f783 E.f762 D.f306 E.f298 E.f763 E.f784 n hw k size name;have h764:=fun(n:aK)(k size:Int)(name:Str)(m:Int)=>c764 E.f764 (λs=>c77 C.f77 C.f114 C.f115 s.bs s.ok) n k size name m;have h765:=fun(x:Loop)(h1:x.hi.es≠[])(h2:x.hi.es.length<big)(size:Int)(name:Str)=>c765 E.f765 E.f582 E.f599 (c608 E.f608) x h1 h2 size name;have h766:=λh n hw a j hj ha z nl cl s f hz v m hm g1 g17 g5 g13 g21 ho=>c766 E.f766 (aZI A) h746 h n hw a j hj ha z nl cl s f hz v m hm g1 g17 g5 g13 g21 ho;have h760:=fun(nl cl:Bool)(ls:List Loop)(hb:ls.length<=big)=>c760 D.f760 D.f782 D.f794 nl cl ls hb;exact c741 E.f741 h743 n hn.body hn.index hwf vars c (c556 D.f556 (c568 D.f568) (c569 D.f569 (c568 D.f568) (aJb C)) n hn.body hn.index) (aJa C n _ _ vars.es hn 1000)
  (λhw=>h746 n hw c.k c.size c.name) (λhw=>c747 E.f747 h764 h765 n hw c.k c.size c.name)
  (λhw hp hl nl cl z hz=>c748 E.f748 h766 C.f98 C.f138 E.f763 E.f784 (aIY D) n hw hp hl nl cl z hz)
  (λhw hne hl nl cl z hz=>c749 E.f749 h764 h765 (aSQ E.f691) h760 n hw hne hl nl cl z hz)
  (c562 D.f562 (λnl cl nl' cl' a b hb=>c583 D.f583 h162 nl cl nl' cl' a b hb) (OH C))
end
end
end Go.Tev
