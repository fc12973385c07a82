import Derived.Test.YtagdhpkdbdilaaaGreatDoorSAW
import Derived.Test.YtagdhpkdbdilaaaGreatDoorSBE
import Derived.Test.YtagdhpkdbdilaaaGreatDoorSAR
import Derived.Test.YtagdhpkdbdilaaaGreatDoorSAI
import Derived.Test.YtagdhpkdbdilaaaGreatDoorSAM
import Derived.Test.YtagdhpkdbdilaaaGreatDoorSBC
import Derived.Test.YtagdhpkdbdilaaaGreatDoorSBB
set_option linter.all false
namespace Go.Tev
section
section
variable{pg:Pg}
end
end
section
def aSd(n:Int):List UInt8:=if n<0 then [] else 105::mJ 20 n.toNat
section
variable{pg:Pg}
end
end
section
end
section
def aIv(i:Nat)(l:Lin):Bool:=decide (l.c=0)&&match l.ts.es with
 |[t]=>decide (t.v.bs=aSd i)&&decide (t.c=1)
 |_=>false
def KL:Nat->List Lin->Bool
 |_,[]=>true
 |i,l::r=>aIv i l&&KL (i+1) r
def aJY(p:aE)(rank:Int):Bool := !p.dyn&&(decide ((p.at_.es.length:Int)=rank)&&KL 0 p.at_.es)
def aXq(v rank:Int)(p:aE):Bool := !(decide (p.op.bs=[114,101,97,100])&&(decide (p.value=v) && !aJY p rank))
mutual
def aXp(v rank:Int):aE->Bool
 |.mk op num value name at_ dyn check fn knl kids kcl=>aXq v rank (.mk op num value name at_ dyn check fn knl kids kcl)&&UG v rank kids
def UG(v rank:Int):List aE->Bool
 |[]=>true
 |p::r=>aXp v rank p&&UG v rank r
end
end
section
section
variable{pg:Pg}
end
end
section
section
variable{pg:Pg}
end
end
section
theorem aK.cellsE(x:aK):x.cells=[.sl x.loops.nl (x.loops.es.map Loop.av) x.loops.cl,.int .i64 x.value,.sl x.at_.nl (x.at_.es.map Lin.av) x.at_.cl,.bool x.dyn,.str x.index.op.bs,.int .i64 x.index.num,.int .i64 x.index.value,.str x.index.name.bs,.sl x.index.at_.nl (x.index.at_.es.map Lin.av) x.index.at_.cl,.bool x.index.dyn,.int .i64 x.index.check,.sl x.index.fn.nl (x.index.fn.es.map aJ.av) x.index.fn.cl,.sl x.index.knl (x.index.kids.map aE.av) x.index.kcl,.int .i64 x.check,.str x.body.op.bs,.int .i64 x.body.num,.int .i64 x.body.value,.str x.body.name.bs,.sl x.body.at_.nl (x.body.at_.es.map Lin.av) x.body.at_.cl,.bool x.body.dyn,.int .i64 x.body.check,.sl x.body.fn.nl (x.body.fn.es.map aJ.av) x.body.fn.cl,.sl x.body.knl (x.body.kids.map aE.av) x.body.kcl]:=rfl
def kE:aK:=⟨aIf Loop,0,aIf Lin,false,kD,0,kD⟩
theorem vZ{d:Nat}{h:Hp}{v t:AV}{keys:List Nat}{rest:List AV}(hs:snap (d+1) h v=some (t,keys))(hr:treeL rest=true):snap (d+2) h (.agg (v::rest))=some (.agg (t::rest),keys):=by
 have hm:=cX d h hr;by_cases hv:v.tree=true;have e:snap (d+1) h v=some (v,[]):=by unfold snap;rw[if_pos hv]
 rw[e]at hs;cases hs;unfold snap;rw[if_pos (by simp only[AV.tree,treeL,hv,hr,Bool.and_self])];have ht:¬(AV.agg (v::rest)).tree=true:=by simp only[AV.tree,treeL,aF];exact λq=>hv q.1
 rw[snap,if_neg ht];simp only[mapS,hs,hm,Option.map_some,List.append_nil]
theorem nI{h:Hp}{v t w:AV}{keys:List Nat}{rest:List AV}(hs:snap 62 h v=some (t,keys))(hr:treeL rest=true)(hw:w.tree=true):conv h (.tup [.agg (v::rest),w])=some (.tup [.agg (t::rest),w]):=
 MW hw (vZ hs hr)
theorem fE:kE.cells=[.sl true [] true,.int .i64 0,.sl true [] true,.bool false,.str [],.int .i64 0,.int .i64 0,.str [],.sl true [] true,.bool false,.int .i64 0,.sl true [] true,.sl true [] true,.int .i64 0,.str [],.int .i64 0,.int .i64 0,.str [],.sl true [] true,.bool false,.int .i64 0,.sl true [] true,.sl true [] true]:=rfl
theorem Own.cell{h:Hp}{k0 esz:Nat}{ag:Bool}{v:AV}{es:List AV}(o:Own h k0 esz ag v es):v.fits 1 false=true/\v.cells=[v]/\v.one=true:=by rcases o with ⟨_,nl,cl,rfl,_⟩|⟨e,cs,rfl,_,_⟩<;>exact⟨rfl,rfl,rfl⟩
section
variable{pg:Pg}
end
end
section
def bD(ls:List Loop)(k size:Int)(name:List UInt8)(m:Int):Int:=
 if (decide (k<0)||decide ((ls.length:Int)<=k)||decide (size<1)||decide (4096<size))=true then 2 else
 match ls[k.toNat]? with
 |none=>2
 | some x=>if (!decide (x.step=1) || !c8 name||ls.any (λy=>decide (y.v.bs=name)))=true then 1 else if (decide (4<=(x.hi.es.length:Int))||decide (12<=m))=true then 3 else 0
structure qG(x:Loop)(size:Int)(name:Str)(o i:Loop):Prop where
 ov:o.v=name
 olo:o.lo=x.lo
 ohi:o.hi.es=x.hi.es
 ost:o.step=size
 onl:o.hi.nl=false
 iv:i.v=x.v
 ilo:i.lo.strip=(fD name 0).strip
 ihi:∃l:Lin,i.hi.es=x.hi.es++[l]/\l.strip=(fD name (-size)).strip
 ist:i.step=1
 inl:i.hi.nl=false
theorem qG.uniq{x:Loop}{size:Int}{name:Str}{o i o' i':Loop}(h:qG x size name o i)(h':qG x size name o' i'):o.strip=o'.strip/\i.strip=i'.strip:=by obtain⟨h1,h2,h3,h4,_,h6,h7,⟨l,h8,h8'⟩,h9,_⟩:=h;obtain⟨g1,g2,g3,g4,_,g6,g7,⟨l',g8,g8'⟩,g9,_⟩:=h';constructor;simp only[Loop.strip,h1,g1,h2,g2,h4,g4];rw[pF (s:=o.hi) (t:=o'.hi) (by rw[h3,g3])];simp only[Loop.strip,h6,g6,h7,g7,h9,g9];rw[pF (s:=i.hi) (t:=i'.hi) (by rw[h8,g8,List.map_append,List.map_append,List.map_cons,List.map_cons,h8',g8'])]
def kV(o i:Loop)(k:Nat)(ls:List Loop):List Loop:=ls.take k++[o,i]++ls.drop (k+1)
def iJ(n:aK)(k size:Int)(name:Str)(r:AV):Prop:=
 if bD n.loops.es k size name.bs n.loops.es.length=0 then
  ∃(x o i:Loop)(s:Sl Loop),n.loops.es[k.toNat]?=some x/\qG x size name o i/\s.es=kV o i k.toNat n.loops.es/\r = .tup [({n with loops:=s}:aK).av,.int .i64 0]
 else r = .tup [kE.av,.int .i64 (bD n.loops.es k size name.bs n.loops.es.length)]
theorem dZ{n:aK}{k size:Int}{name:Str}{e:Int}(h:bD n.loops.es k size name.bs n.loops.es.length=e)(he:e≠0):iJ n k size name (.tup [kE.av,.int .i64 e]):=by unfold iJ;rw[h,if_neg he]
theorem aK.strip_loops{n:aK}{s t:Sl Loop}(h:s.es.map Loop.strip=t.es.map Loop.strip):({n with loops:=s}:aK).strip=({n with loops:=t}:aK).strip:=by simp only[aK.strip];rw[pF h]
theorem HY{n:aK}{k size:Int}{name:Str}{r r':AV}(h:iJ n k size name r)(h':iJ n k size name r'):∃(a b:aK)(e:Int),r = .tup [a.av,.int .i64 e]/\r' = .tup [b.av,.int .i64 e]/\cT a b=true/\(a=kE\/a.body=n.body/\a.index=n.index):=by unfold iJ at h h';by_cases he:bD n.loops.es k size name.bs n.loops.es.length=0;rw[if_pos he]at h h';obtain⟨x,o,i,s,hx,ht,hs,rfl⟩:=h;obtain⟨x',o',i',s',hx',ht',hs',rfl⟩:=h';rw[hx]at hx';cases hx';obtain⟨e1,e2⟩:=ht.uniq ht';refine⟨_,_,0,rfl,rfl,l8 (aK.strip_loops ?_),.inr ⟨rfl,rfl⟩⟩;rw[hs,hs'];simp only[kV,List.map_append,List.map_cons,List.map_nil,e1,e2];rw[if_neg he]at h h';exact⟨_,_,_,h,h',iZ _,.inl rfl⟩
theorem mM{ls:List Loop}{k size:Int}{name:List UInt8}{m:Int}(h:bD ls k size name m=0):∃x,ls[k.toNat]?=some x/\0<=k/\k<ls.length/\ls.any (λy=>decide (y.v.bs=name))=false/\x.hi.es.length<4/\m<12:=by unfold bD at h;split at h;cases h;rename_i h1;simp only[Bool.or_eq_true,cY,not_or,Int.not_lt,Int.not_le]at h1;split at h;cases h;rename_i x hx;split at h;cases h;rename_i h2;split at h;cases h;rename_i h3;simp only[Bool.or_eq_true,not_or,Bool.not_eq_true]at h2;simp only[Bool.or_eq_true,cY,not_or,Int.not_le]at h3;exact⟨x,hx,by omega,by omega,h2.2,by omega,by omega⟩
def j2(o i:Loop)(k:Nat)(d:List Loop):List Loop:=if d.length<=k then d else kV o i k d
theorem P0{o i:Loop}{k:Nat}{d:List Loop}{y:Loop}(h:d.length<k):j2 o i k (d++[y])=j2 o i k d++[y]:=by rw[j2,if_pos (by simp;omega),j2,if_pos (by omega)]
theorem P2{o i:Loop}{k:Nat}{d:List Loop}{y:Loop}(h:d.length=k):j2 o i k (d++[y])=j2 o i k d++[o,i]:=by subst h;rw[j2,if_neg (by simp),j2,if_pos (Nat.le_refl _),kV];simp
theorem P1{o i:Loop}{k:Nat}{d:List Loop}{y:Loop}(h:k<d.length):j2 o i k (d++[y])=j2 o i k d++[y]:=by rw[j2,if_neg (by simp;omega),j2,if_neg (by omega),kV,kV,List.take_append_of_le_length (by omega),List.drop_append_of_le_length (by omega)];simp
theorem LR{o i:Loop}{k:Nat}{d:List Loop}(h:k<d.length):j2 o i k d=kV o i k d:=by rw[j2,if_neg (by omega)]
theorem uU{o i:Loop}{k:Nat}{ls:List Loop}(h:k<ls.length):(kV o i k ls).length=ls.length+1:=by simp only[kV,cA,List.length_take,List.length_cons,List.length_nil,List.length_drop];omega
theorem LQ(o i:Loop)(k:Nat)(d:List Loop):(j2 o i k d).length<=d.length+1:=by unfold j2;split;omega;rw[uU (by omega)];exact Nat.le_refl _
theorem zT(ls:List Loop)(l:Lin):fZ (ls.map Loop.strip) l.strip=fZ ls l:=by simp only[fZ,Lin.strip,List.any_map];rfl
theorem mU:∀ls:List Loop,d9 (ls.map Loop.strip)=d9 ls
 |[]=>rfl
 |x::r=>by
  have h:∀q:List Loop,((x.strip).hi.es++[(x.strip).lo]).any (fZ (q.map Loop.strip))=(x.hi.es++[x.lo]).any (fZ q):=by
   intro q;have e:(x.strip).hi.es++[(x.strip).lo]=(x.hi.es++[x.lo]).map Lin.strip:=by simp[Loop.strip,Sl.mapS]
   rw[e,List.any_map];congr 1;funext l;exact zT q l
  rw[List.map_cons,d9,d9,mU r];have:=h (x::r);rw[List.map_cons]at this;rw[this]
theorem wD{a b:List Loop}(h:a.map Loop.strip=b.map Loop.strip):d9 a=d9 b:=by rw[<-mU a,h,mU]
def neL(l:Lin):Prop:=∀c∈l.ts.es,c.c≠0
def l9(x:Loop):Prop:=neL x.lo/\∀l∈x.hi.es,neL l
theorem pJ(ls:List Loop)(l:Lin)(h:neL l):fZ ls l=ls.any λy=>mL l y.v.bs:=by unfold fZ;rw[OG];congr 1;funext y;exact(x4 _ _ h).symm
theorem wW:∀ls:List Loop,(∀x∈ls,l9 x)->d9 ls=tM ls
 |[],_=>rfl
 |x::r,h=>by
  have hx:=h x List.mem_cons_self
  have e1:((x.hi.es++[x.lo]).any (fZ (x::r)))=(x::r).any λy=>kZ x y.v.bs:=by rw[Bool.eq_iff_iff];simp only[List.any_eq_true,i8,List.mem_singleton,kZ,Bool.or_eq_true];constructor;rintro⟨l,hl|rfl,hh⟩;rw[pJ _ _ (hx.2 l hl),List.any_eq_true]at hh;obtain⟨y,hy,hu⟩:=hh;exact⟨y,hy,.inr ⟨l,hl,hu⟩⟩;rw[pJ _ _ hx.1,List.any_eq_true]at hh;obtain⟨y,hy,hu⟩:=hh;exact⟨y,hy,.inl hu⟩;rintro⟨y,hy,hu|⟨l,hl,hu⟩⟩;exact⟨x.lo,.inr rfl,by rw[pJ _ _ hx.1,List.any_eq_true];exact⟨y,hy,hu⟩⟩;exact⟨l,.inl hl,by rw[pJ _ _ (hx.2 l hl),List.any_eq_true];exact⟨y,hy,hu⟩⟩
  simp only[d9,tM,e1,wW r (λy hy=>h y (bS _ hy))]
theorem LC{x:Loop}(h:zS x=true):l9 x:=by
 simp only[zS,aF,eJ]at h
 have one:∀l:Lin,gC l=true->neL l:=λl hl=>by simp only[gC,aF]at hl;exact BU _ _ hl.1.1
 exact⟨one _ h.1,λl hl=>one l (h.2 l hl)⟩
theorem w7{l m:Lin}(h:l.strip=m.strip)(hm:neL m):neL l:=by have e:l.ts.es=m.ts.es:=congrArg (λq=>q.ts.es) h;intro c hc;exact hm c (e ▸ hc)
theorem G0(s:Str)(n:Int):neL (fD s n):=by intro c hc;simp only[fD,sC,List.mem_singleton]at hc;subst hc;show (1:Int)≠0;decide
theorem qG.nes{x:Loop}{size:Int}{name:Str}{o i:Loop}(h:qG x size name o i)(hx:l9 x):l9 o/\l9 i:=by refine⟨⟨h.olo ▸ hx.1,λl hl=>hx.2 l (h.ohi ▸ hl)⟩,w7 h.ilo (G0 _ _),λl hl=>?_⟩;obtain⟨m,h1,h2⟩:=h.ihi;rw[h1]at hl;rcases i8.1 hl with q|q;exact hx.2 l q;rw[List.mem_singleton.1 q];exact w7 h2 (G0 _ _)
def tnB(k:Nat):List UInt8:=[116,UInt8.ofNat (48+k)]
def tn(k:Nat):Str:=⟨tnB k,by simp[tnB,big]⟩
theorem aHj{j k:Nat}(hj:j<10)(hk:k<10)(h:tnB j=tnB k):j=k:=by
 have e:UInt8.ofNat (48+j)=UInt8.ofNat (48+k):=by simpa[tnB] using h
 have e2:=congrArg UInt8.toNat e;simp only[UInt8.toNat_ofNat']at e2;omega
abbrev Pc:=Option Loop×Loop
def pcL(p:Pc):List Loop:=p.1.toList++[p.2]
def eP(ps:List Pc):List Loop:=ps.flatMap pcL
inductive dY:Nat->List Loop->List Int->List Pc->Prop
 |nil (k:Nat):dY k [] [] []
 |keep {k:Nat} {x:Loop} {r:List Loop} {z:List Int} {ps:List Pc}:dY (k+1) r z ps->dY k (x::r) (0::z) ((none,x)::ps)
 |cut {k:Nat} {x:Loop} {r:List Loop} {s:Int} {z:List Int} {ps:List Pc} {o i:Loop}:s≠0->qG x s (tn k) o i->dY (k+1) r z ps->dY k (x::r) (s::z) ((some o,i)::ps)
def jH(p:Pc):Pc:=(p.1.map Loop.strip,p.2.strip)
theorem dY.uniq:∀{k:Nat}{ls:List Loop}{z:List Int}{ps qs:List Pc},dY k ls z ps->dY k ls z qs->ps.map jH=qs.map jH:=by
 intro k ls z ps qs h
 induction h generalizing qs with
 |nil=>intro h';cases h';rfl
 |keep _ ih=>
  intro h';cases h' with
  |keep h2=>rw[List.map_cons,List.map_cons,ih h2]
  |cut hs _ _=>exact absurd rfl hs
 |cut hs ht _ ih=>
  intro h';cases h' with
  |keep _=>exact absurd rfl hs
  |cut _ ht' h2=>obtain⟨e1,e2⟩:=ht.uniq ht';rw[List.map_cons,List.map_cons,ih h2];simp[jH,e1,e2]
theorem dY.snoc_keep:∀{k:Nat}{ls:List Loop}{z:List Int}{ps:List Pc},dY k ls z ps->∀x:Loop,dY k (ls++[x]) (z++[0]) (ps++[(none,x)]):=by
 intro k ls z ps h x
 induction h with
 |nil k=>exact .keep (.nil _)
 |keep _ ih=>exact .keep ih
 |cut hs ht _ ih=>exact .cut hs ht ih
theorem dY.snoc_cut:∀{k:Nat}{ls:List Loop}{z:List Int}{ps:List Pc},dY k ls z ps->∀{x o i:Loop}{s:Int},s≠0->qG x s (tn (k+ls.length)) o i->dY k (ls++[x]) (z++[s]) (ps++[(some o,i)]):=by
 intro k ls z ps h
 induction h with
 |nil k=>intro x o i s hs ht;exact .cut hs ht (.nil _)
 |keep _ ih=>intro x o i s hs ht;exact .keep (ih hs (by simpa[Nat.add_assoc,Nat.add_comm 1] using ht))
 |cut hs0 ht0 _ ih=>intro x o i s hs ht;exact .cut hs0 ht0 (ih hs (by simpa[Nat.add_assoc,Nat.add_comm 1] using ht))
theorem dY.len{k:Nat}{ls:List Loop}{z:List Int}{ps:List Pc}(h:dY k ls z ps):ps.length=ls.length/\z.length=ls.length:=by
 induction h with
 |nil=>exact⟨rfl,rfl⟩
 |keep _ ih=>simp[ih]
 |cut _ _ _ ih=>simp[ih]
def bX(z:List Int):Nat:=(z.filter λs => !decide (s=0)).length
theorem dY.curlen{k:Nat}{ls:List Loop}{z:List Int}{ps:List Pc}(h:dY k ls z ps):(eP ps).length=ls.length+bX z:=by
 induction h with
 |nil=>rfl
 |keep _ ih=>simp only[eP,List.flatMap_cons,pcL,bX]at ih ⊢;simp[ih];omega
 |cut hs _ _ ih=>simp only[eP,List.flatMap_cons,pcL,bX]at ih ⊢;simp[ih,hs];omega
theorem dY.outs{k:Nat}{ls:List Loop}{z:List Int}{ps:List Pc}(h:dY k ls z ps):(ps.filterMap (·.1)).length=bX z:=by
 induction h with
 |nil=>rfl
 |keep _ ih=>simpa[bX] using ih
 |cut hs _ _ ih=>simp only[bX]at ih ⊢;simp[ih,hs]
theorem dY.any{k:Nat}{ls:List Loop}{z:List Int}{ps:List Pc}(h:dY k ls z ps){j:Nat}(hj:j<10)(hk:∀i:Nat,k<=i->i<k+ls.length->i≠j)(hz:∀(i:Nat) (s:Int),z[i]?=some s->s≠0->k+i<10) :
  (eP ps).any (λy=>decide (y.v.bs=tnB j))=ls.any λy=>decide (y.v.bs=tnB j):=by
 induction h with
 |nil=>rfl
 |keep _ ih=>rename_i k x r z ps _;have ih':=ih (λi h1 h2=>hk i (by omega) (by simp;omega)) (λi s h1 h2=>by have:=hz (i+1) s (by simpa using h1) h2;omega);simp only[eP,List.flatMap_cons,pcL,List.any_append,List.any_cons,List.any_nil,Option.toList]at ih' ⊢;rw[ih'];simp
 |cut hs ht _ ih=>
  rename_i k x r s z ps o i _;have ih':=ih (λi h1 h2=>hk i (by omega) (by simp;omega)) (λi s h1 h2=>by have:=hz (i+1) s (by simpa using h1) h2;omega);have hk0:k<10:=by have:=hz 0 s rfl hs;omega
  have hne:decide (o.v.bs=tnB j)=false:=decide_eq_false λq=>by rw[ht.ov]at q;exact hk k (Nat.le_refl k) (by simp) (aHj hk0 hj q)
  have hiv:decide (i.v.bs=tnB j)=decide (x.v.bs=tnB j):=by rw[ht.iv]
  simp only[eP,List.flatMap_cons,pcL,List.any_append,List.any_cons,List.any_nil,Option.toList]at ih' ⊢;rw[ih',hne,hiv];simp
def fe(ls:List Loop):Nat->Nat->List Int->Int
 |_,_,[]=>0
 |k,a,s::r=>if s=0 then fe ls (k+1) a r else if bD ls k s (tnB k) ((ls.length:Int)+a)=0 then fe ls (k+1) (a+1) r else bD ls k s (tnB k) ((ls.length:Int)+a)
def bH(z:List Int):Nat:=z.findIdx λs => !decide (s=0)
def eZ(ls:List Loop)(z:List Int)(ps:List Pc):List Loop:=ls.take (bH z)++ps.filterMap (·.1)++(ps.drop (bH z)).map (·.2)
def iD(n:aK)(z:List Int)(r:AV):Prop:=
 if z.length≠n.loops.es.length then r = .tup [kE.av,.int .i64 1] else
 if fe n.loops.es 0 0 z≠0 then r = .tup [kE.av,.int .i64 (fe n.loops.es 0 0 z)] else
 ∃ps:List Pc,dY 0 n.loops.es z ps /\
  if d9 (eZ n.loops.es z ps)=true then ∃s:Sl Loop,s.es=eZ n.loops.es z ps/\r = .tup [({n with loops:=s}:aK).av,.int .i64 0] else r = .tup [kE.av,.int .i64 10]
theorem PE{ps:List Pc}:(ps.filterMap (·.1)).map Loop.strip=(ps.map jH).filterMap (·.1):=by
 induction ps with
 |nil=>rfl
 |cons p r ih=>
  obtain⟨a,b⟩:=p;cases a with
  |none=>simpa[jH] using ih
  |some a=>simpa[jH] using ih
theorem PD{ps:List Pc}(f:Nat):((ps.drop f).map (·.2)).map Loop.strip=((ps.map jH).drop f).map (·.2):=by rw[<-List.map_drop,List.map_map,List.map_map];rfl
theorem yR{ls:List Loop}{z:List Int}{ps qs:List Pc}(h:ps.map jH=qs.map jH):(eZ ls z ps).map Loop.strip=(eZ ls z qs).map Loop.strip:=by simp only[eZ,List.map_append,PE,PD,h]
theorem J8{n:aK}{z:List Int}{r r':AV}(h:iD n z r)(h':iD n z r'):∃(a b:aK)(e:Int),r = .tup [a.av,.int .i64 e]/\r' = .tup [b.av,.int .i64 e]/\cT a b=true/\(a=kE\/a.body=n.body/\a.index=n.index):=by unfold iD at h h';by_cases h1:z.length≠n.loops.es.length;rw[if_pos h1]at h h';exact⟨_,_,_,h,h',iZ _,.inl rfl⟩;rw[if_neg h1]at h h';by_cases h2:fe n.loops.es 0 0 z≠0;rw[if_pos h2]at h h';exact⟨_,_,_,h,h',iZ _,.inl rfl⟩;rw[if_neg h2]at h h';obtain⟨ps,p1,p2⟩:=h;obtain⟨qs,q1,q2⟩:=h';have hst:=yR (ls:=n.loops.es) (z:=z) (p1.uniq q1);rw[<-wD hst]at q2;by_cases h3:d9 (eZ n.loops.es z ps)=true;rw[if_pos h3]at p2 q2;obtain⟨s,hs,rfl⟩:=p2;obtain⟨t,ht,rfl⟩:=q2;exact⟨_,_,0,rfl,rfl,l8 (aK.strip_loops (by rw[hs,ht,hst])),.inr ⟨rfl,rfl⟩⟩;rw[if_neg h3]at p2 q2;exact⟨_,_,_,p2,q2,iZ _,.inl rfl⟩
theorem C6(ls:List Loop):∀(m k a:Nat),fe ls k a (List.replicate m 0)=0
 |0,_,_=>rfl
 |m+1,k,a=>by rw[List.replicate_succ,fe,if_pos rfl,C6 ls m]
theorem dY.zeros:∀{k m:Nat}{ls:List Loop}{ps:List Pc},dY k ls (List.replicate m 0) ps->ps=ls.map λx=>(none,x)
 |k,0,ls,ps,h=>by cases h;rfl
 |k,m+1,ls,ps,h=>by
  rw[List.replicate_succ]at h;cases h with
  |keep h2=>rw[dY.zeros h2];rfl
  |cut hs _ _=>exact absurd rfl hs
theorem FK(m:Nat):bH (List.replicate m 0)=m:=by
 induction m with
 |zero=>rfl
 |succ m ih=>rw[bH]at ih ⊢;rw[List.replicate_succ,List.findIdx_cons,ih];rfl
theorem wE(n:aK)(s:Sl Loop)(h:s.es=n.loops.es):cT {n with loops:=s} n=true:=by simp[cT,h,cP eO,mT,cP rR]
theorem BS{n:aK}{r:AV}(hp:d9 n.loops.es=true)(h:iD n (List.replicate n.loops.es.length 0) r):∃a:aK,r = .tup [a.av,.int .i64 0]/\cT a n=true/\a.body=n.body/\a.index=n.index:=by
 unfold iD at h;rw[if_neg (by simp),if_neg (by simp[C6])]at h;obtain⟨ps,p1,p2⟩:=h;have hps:=p1.zeros;have hls:eZ n.loops.es (List.replicate n.loops.es.length 0) ps=n.loops.es:=by
  rw[eZ,FK,hps];have e1:((n.loops.es.map λx=>((none:Option Loop),x)).filterMap (·.1))=[]:=by simp[List.filterMap_eq_nil_iff]
  rw[e1,List.drop_eq_nil_of_le (by simp)];simp
 rw[hls,if_pos hp]at p2;obtain⟨s,hs,rfl⟩:=p2;exact⟨_,rfl,wE n s hs,rfl,rfl⟩
end
section
theorem yT{d:Nat}{h:Hp}{es ts:List AV}{keys:List Nat}{nl cl:Bool}(hm:mapS (Tev.snap (d+1) h) es=some (ts,keys)):Tev.snap (d+2) h (.sl nl es cl)=some (.sl nl ts cl,keys):=by
 rw[l7];by_cases ht:(AV.sl nl es cl).tree=true;rw[if_pos ht];have h2:treeL es=true:=by simpa[AV.tree] using ht
 rw[cX d h h2]at hm;cases hm;rfl;rw[if_neg ht];simp only[hm];rfl
theorem sJ{d:Nat}{h:Hp}{es ts:List AV}{keys:List Nat}(hm:mapS (Tev.snap (d+1) h) es=some (ts,keys)):Tev.snap (d+2) h (.agg es)=some (.agg ts,keys):=by
 rw[l7];by_cases ht:(AV.agg es).tree=true;rw[if_pos ht];have h2:treeL es=true:=by simpa[AV.tree] using ht
 rw[cX d h h2]at hm;cases hm;rfl;rw[if_neg ht];simp only[hm];rfl
theorem iT{f:AV->Option (AV×List Nat)}{x y:AV}{s s':List Nat}{r l:List AV}(hx:f x=some (y,s))(hr:mapS f r=some (l,s')):mapS f (x::r)=some (y::l,s++s'):=by simp only[fR,hx,hr]
theorem d6{d:Nat}{h:Hp}{x:AV}{s':List Nat}{r l:List AV}(hx:x.tree=true)(hr:mapS (Tev.snap (d+1) h) r=some (l,s')):mapS (Tev.snap (d+1) h) (x::r)=some (x::l,s'):=by simp only[fR,sI hx,hr,List.nil_append]
theorem o9{h:Hp}{k e esz n:Nat}{ag:Bool}{cs es:List AV}(hn:n=es.length)(hg:h.get k=some (e,.blk cs esz ag false false))(hu:aP esz ag es=some cs)(he:∀x∈es,El esz ag x)(d:Nat):Tev.snap (d+2) h (.rf k e 0 n n)=some (.sl false es false,[k]):=by
 subst hn;obtain⟨cs',h1,h2,h3,h4⟩:=bE he;rw[hu]at h1;cases h1;have h5:=h4 [];rw[List.append_nil]at h5;have ht:treeL es=true:=by
  clear h2 h4 h5 hu hg
  induction es with
  |nil=>rfl
  |cons x r ih=>simp only[treeL,aF];exact⟨(he x (by simp)).tree,ih (λy hy=>he y (bS _ hy))⟩
 have h6:mapS (Tev.snap (d+1) h) es=some (es,[]):=cX d h ht;rw[l7];simp[hg,h5,h6,AV.tree]
theorem UE(h:Hp)(nl cl:Bool)(es:List Loop)(i:Int)(h0:0<=i)(hi:i<=es.length):jF h 5 true false false [.sl nl (es.map Loop.av) cl,.int .i64 i]=some (.sl nl ((es.drop i.toNat).map Loop.av) (nl||cl),.pat [] []):=by
 obtain⟨i,rfl⟩:=eK h0
 have ha:((es.map Loop.av).all λv=>v.cells.length==5)=true:=by simp only[List.all_map,eJ,Function.comp,Loop.cells_av];intro y _;rfl
 have h1:(0:Int)<=(i:Int)/\(i:Int)<=((es.map Loop.av).length:Int)/\((es.map Loop.av).length:Int)<=((es.map Loop.av).length:Int)/\((es.map Loop.av).length:Int)<=((es.map Loop.av).length:Int)/\((es.map Loop.av).all λv=>v.cells.length==5)=true:=⟨by omega,by simp;omega,by omega,by omega,ha⟩
 simp only[jF,gT,jS,Option.getD_some,Option.getD_none,Bool.false_eq_true,if_false,if_true];rw[if_pos h1];simp[val,List.map_drop,List.take_of_length_le]
theorem UF(h:Hp)(nl cl:Bool)(es:List Loop)(i:Int)(h0:0<=i)(hi:i<=es.length):jF h 5 false true false [.sl nl (es.map Loop.av) cl,.int .i64 i]=some (.sl nl ((es.take i.toNat).map Loop.av) ((nl||cl)&&i==(es.length:Int)),.pat [] []):=by
 obtain⟨i,rfl⟩:=eK h0
 have ha:((es.map Loop.av).all λv=>v.cells.length==5)=true:=by simp only[List.all_map,eJ,Function.comp,Loop.cells_av];intro y _;rfl
 have h1:(0:Int)<=0/\(0:Int)<=(i:Int)/\(i:Int)<=(i:Int)/\(i:Int)<=((es.map Loop.av).length:Int)/\((es.map Loop.av).all λv=>v.cells.length==5)=true:=⟨by omega,by omega,by omega,by simp;omega,ha⟩
 simp only[jF,gT,jS,Option.getD_some,Option.getD_none,Bool.false_eq_true,if_false,if_true];rw[if_pos h1];simp[val,List.map_take]
theorem tL:∀(a b:List Ent)(h:Hp),bJ h (a++b)=bJ (bJ h a) b
 |[],_,_=>rfl
 |_::r,b,h=>tL r b _
theorem rF{h:Hp}{rd:List Nat}{fz:List Ent}{k e j:Nat}{o:Ob}(hj:∀x∈fz,x.k≠j):(Eff.app h (.pat rd (fz++[⟨k,e,o⟩]))).get j=if k=j then some (e,o) else h.get j:=by show (bJ h (fz++[⟨k,e,o⟩])).get j=_;rw[tL];show ((bJ h fz).put k e o).get j=_;rw[aI];by_cases hk:k=j;rw[if_pos hk,if_pos hk];rw[if_neg hk,if_neg hk];refine jU _ _ (λhm=>?_);obtain⟨x,hx,hx1⟩:=List.mem_map.1 hm;exact hj x hx hx1
section
variable{pg:Pg}{kb:Nat}
theorem HJ{f s esz:Nat}{ag:Bool}{h:Hp}{vs ts es:List AV}{keys:List Nat}{Q:AV->Eff->Prop}{t:Tok Q}(hr:bZ pg f ts (wJ esz ag es))(hm:mapS (snap depth h) vs=some (ts,keys))(hn:es≠[])(he:∀x∈es,El esz ag x)
  (q:∀cs fz,aP esz ag es=some cs->(∀x∈fz,x.k∈keys)->Q (.rf (kb+s) (h.next (kb+s)) 0 es.length es.length) (.pat ((kb+s)::keys) (fz++[⟨kb+s,h.next (kb+s),.blk cs esz ag false false⟩]))):XO pg kb (.call f true false) s h vs Q t:=by
 obtain⟨r,hr,⟨rfl,_⟩|rfl⟩:=hr;exact absurd rfl hn;obtain⟨cs,c1,c2,_,_⟩:=bE he;refine cL hr hm (v:=.rf (kb+s) (h.next (kb+s)) 0 es.length es.length) (pa:=[⟨kb+s,h.next (kb+s),.blk cs esz ag false false⟩]) (by simp[fN,c1]) ?_;refine q cs _ c1 ?_;intro x hx;split at hx;cases hx;exact lU _ _ x hx
def Src(h:Hp)(esz:Nat)(ag:Bool)(w:AV)(xs:List AV):Prop:=∃ds rd,aP esz ag xs=some ds/\bI h esz ag w=some (ds,xs.length,rd)
theorem Src.sl{h:Hp}{esz:Nat}{ag nl cl:Bool}{xs:List AV}(hx:∀x∈xs,El esz ag x):Src h esz ag (.sl nl xs cl) xs:=by obtain⟨ds,d1,d2,d3,_⟩:=bE hx;exact⟨ds,[],d1,by simp[bI,d1]⟩
theorem Own.src{h:Hp}{k2 esz:Nat}{ag:Bool}{w:AV}{xs:List AV}(o2:Own h k2 esz ag w xs)(hx:∀x∈xs,El esz ag x):Src h esz ag w xs:=by
 rcases o2 with ⟨rfl,nl',cl',rfl,hc⟩|⟨e,cs,rfl,hg,hu⟩
 exact Src.sl hx;obtain⟨ds,d1,d2,d3,_⟩:=bE hx;rw[hu]at d1;cases d1;refine⟨cs,[k2],hu,?_⟩;simp only[bI,hg,List.drop_zero];rw[if_pos ⟨trivial,by omega,by rw[<-d2,List.take_length];exact d3⟩,<-d2,List.take_length]
theorem qF{esz bytes s k1:Nat}{ag:Bool}{h:Hp}{v w:AV}{es xs:List AV}{Q:AV->Eff->Prop}{t:Tok Q}(o:Own h k1 esz ag v es)(o2:Src h esz ag w xs)(he:∀x∈es,El esz ag x)
  (hl:es.length+xs.length<=1073741824) (hb:bytes<=65536)
  (q:∀v' k' rd pa,(k'=k1\/k'=kb+s)->Own (Eff.app h (.pat rd pa)) k' esz ag v' (es++xs)->(∀k,k≠kb+s->k≠k1->(Eff.app h (.pat rd pa)).get k=h.get k)->Q v' (.pat rd pa)) :
  XO pg kb (.app esz ag bytes) s h [v,w] Q t:=by
 rw[kY];obtain⟨ds,rd,d1,hs⟩:=o2;simp only[lH,hs];by_cases hxs:xs=[]
 subst hxs;cases d1;rcases o with ⟨rfl,nl',cl',rfl,hc⟩|⟨e,cs,rfl,hg,hu⟩
 simp only[fM,List.length_nil,if_true];exact q _ k1 _ _ (.inl rfl) (.inl ⟨rfl,nl',cl',rfl,hc⟩) (λ_ _ _=>rfl);obtain⟨cs',c1,c2,_,_⟩:=bE he;rw[hu]at c1;cases c1;simp only[fM,hg,List.length_nil,if_true,true_and,Nat.zero_add];rw[if_pos (by omega)];exact q _ k1 _ _ (.inl rfl) (.inr ⟨e,cs,by simp,by simpa[Eff.app,bJ] using hg,by simpa using hu⟩) (λ_ _ _=>rfl);have hn:xs.length≠0:=by simpa using hxs
 rcases o with ⟨rfl,nl',cl',rfl,hc⟩|⟨e,cs,rfl,hg,hu⟩
 simp only[fM,hn,if_false,hc,List.length_nil,Nat.zero_add,Bool.true_and];have hlx:xs.length<=1073741824:=by simpa using hl
 simp only[hlx,hb,decide_true,Bool.and_self,if_true,aP,List.nil_append];refine q _ (kb+s) _ _ (.inr rfl) (.inr ⟨_,ds,rfl,?_,by simpa using d1⟩) ?_;rw[eS,aI,if_pos rfl];intro k hk _;rw[eS,aI,if_neg (Ne.symm hk)];obtain⟨cs',c1,c2,_,_⟩:=bE he;rw[hu]at c1;cases c1;have h1:¬(es.length+xs.length<=es.length):=by omega
 by_cases hk1:k1=kb+s;subst hk1;simp only[fM,hg,hn,if_false,true_and,Nat.zero_add];rw[if_pos (by omega)];simp only[h1,if_false,hl,hb,decide_true,Bool.true_and,beq_self_eq_true,Bool.not_true,Bool.and_false,Bool.false_eq_true,Bool.not_false,if_true];refine q _ (kb+s) _ _ (.inr rfl) (.inr ⟨e+1,cs++ds,by simp,?_,cG hu d1⟩) ?_;rw[eS,aI,if_pos rfl];simp[<-c2];intro k hk _;rw[eS,aI,if_neg (Ne.symm hk)];have h2:(k1==kb+s)=false:=by simpa using hk1
 simp only[fM,hg,hn,if_false,true_and,Nat.zero_add];rw[if_pos (by omega)];simp only[h1,if_false,hl,hb,decide_true,Bool.true_and,h2,Bool.not_false,if_true,Bool.false_eq_true];refine q _ (kb+s) _ _ (.inr rfl) (.inr ⟨h.next (kb+s),cs++ds,by simp,?_,cG hu d1⟩) ?_;rw[l6,aI,if_pos rfl];simp[<-c2];intro k hk hk2;rw[l6,aI,if_neg (Ne.symm hk),aI,if_neg (Ne.symm hk2)]
theorem HK{esz bytes s k1 e n:Nat}{ag:Bool}{h:Hp}{cs:List AV}{es xs:List AV}{nl cl:Bool}{Q:AV->Eff->Prop}{t:Tok Q}(hnl:n=es.length)(hg:h.get k1=some (e,.blk cs esz ag false false))(hu:aP esz ag es=some cs)(hk1:k1≠kb+s)
  (he:∀x∈es,El esz ag x) (hx:∀x∈xs,El esz ag x) (hn:xs≠[]) (hl:n+xs.length<=1073741824) (hb:bytes<=65536)
  (q:∀ds,aP esz ag (es++xs)=some ds->Q (.rf (kb+s) (h.next (kb+s)) 0 (n+xs.length) (n+xs.length)) (.pat [kb+s,k1] [⟨k1,e,.dead⟩,⟨kb+s,h.next (kb+s),.blk ds esz ag false false⟩])) :
  XO pg kb (.app esz ag bytes) s h [.rf k1 e 0 n n,.sl nl xs cl] Q t:=by
 subst hnl;rw[kY];obtain⟨ds,d1,d2,d3,_⟩:=bE hx;obtain⟨cs',c1,c2,_,_⟩:=bE he;rw[hu]at c1;cases c1;have hn':xs.length≠0:=by simpa using hn
 have h1:¬(es.length+xs.length<=es.length):=by omega
 have h2:(k1==kb+s)=false:=by simpa using hk1
 have q':=q (cs++ds) (cG hu d1);simp only[lH,bI,d1,Option.map_some,fM,hg,hn',if_false,true_and,Nat.zero_add];rw[if_pos (by omega)];simp only[h1,if_false,hl,hb,decide_true,Bool.true_and,h2,Bool.not_false,if_true,Bool.false_eq_true,List.drop_zero,<-c2,List.take_length];exact q'
theorem HL{esz bytes s:Nat}{ag:Bool}{h:Hp}{xs:List AV}{nl cl nl' cl':Bool}{Q:AV->Eff->Prop}{t:Tok Q}(hc:(nl||cl)=true)(hx:∀x∈xs,El esz ag x)(hn:xs≠[])(hl:xs.length<=1073741824)(hb:bytes<=65536)
  (q:∀ds,aP esz ag xs=some ds->Q (.rf (kb+s) (h.next (kb+s)) 0 xs.length xs.length) (.pat [kb+s] [⟨kb+s,h.next (kb+s),.blk ds esz ag false false⟩])):XO pg kb (.app esz ag bytes) s h [.sl nl [] cl,.sl nl' xs cl'] Q t:=by
 rw[kY];obtain⟨ds,d1,d2,d3,_⟩:=bE hx;have hn':xs.length≠0:=by simpa using hn
 simp only[lH,bI,d1,Option.map_some,fM,hn',if_false,hc,List.length_nil,Nat.zero_add,Bool.true_and,hl,hb,decide_true,Bool.and_self,if_true,aP,List.nil_append];exact q ds d1
theorem TZ{esz bytes s k2 e n:Nat}{ag:Bool}{h:Hp}{ds xs:List AV}{nl cl:Bool}{Q:AV->Eff->Prop}{t:Tok Q}(hc:(nl||cl)=true)(hnl:n=xs.length)(hg:h.get k2=some (e,.blk ds esz ag false false))(hu:aP esz ag xs=some ds)(hx:∀x∈xs,El esz ag x)(hn:xs≠[])
  (hl:n<=1073741824) (hb:bytes<=65536) (q:Q (.rf (kb+s) (h.next (kb+s)) 0 n n) (.pat [kb+s,k2] [⟨kb+s,h.next (kb+s),.blk ds esz ag false false⟩])):XO pg kb (.app esz ag bytes) s h [.sl nl [] cl,.rf k2 e 0 n n] Q t:=by
 subst hnl;rw[kY];obtain⟨ds',d1,d2,d3,_⟩:=bE hx;rw[hu]at d1;cases d1;have hn':xs.length≠0:=by simpa using hn
 have hs:bI h esz ag (.rf k2 e 0 xs.length xs.length)=some (ds,xs.length,[k2]):=by simp only[bI,hg,List.drop_zero];rw[if_pos ⟨trivial,by omega,by rw[<-d2,List.take_length];exact d3⟩,<-d2,List.take_length]
 simp only[lH,hs,fM,hn',if_false,hc,List.length_nil,Nat.zero_add,Bool.true_and,hl,hb,decide_true,Bool.and_self,if_true,aP,List.nil_append];exact q
theorem aJI(e:Nat)(ag:Bool)(bytes:Nat)(z:List AV)(s:Nat)(h:Hp)(vs:List AV)(Q:AV->Eff->Prop)(t:Tok Q):XO pg kb (.apz e ag bytes z) s h vs Q t=XV (G9 h (kb+s) e ag bytes z vs) Q ⟨⟩:=cE rfl s h vs Q
theorem c762(hf:pg.fs 762=some x7)(y:Loop)(name:List UInt8):Ret pg 762 [y.av,.fp (.str name)] (.bool (decide (y.v.bs=name))):=by refine Ret.ofX hf ?_;unfold x7;simp only[go_sem,seval]
theorem c298(hf:pg.fs 298=some yB)(s:Str):Ret pg 298 [.str s.bs] (fD s 0).av:=by
 refine Ret.ofX hf ?_;unfold yB;simp only[go_sem,seval]
 first|rfl|simp[fD,sC,Lin.avc,aN.avc]
theorem c784(hf:pg.fs 784=some rV)(n:Nat)(hn:n<=big)(h0:0<n):bZ pg 784 [.sl true [] true,.int .i64 n] (wJ 5 true []):=by
 refine bZ.ofX hf ?_;unfold rV;have e0:decide ((n:Int)<0)=false:=by simp
 have e1:decide (0<(n:Int))=true:=by simpa using h0
 have wn:wr .i64 (n:Int)=n:=aHg (by simp only[big]at hn;omega);have w0:wr .i64 0=0:=rfl;have ws:wr .i64 ((n:Int)-0)=n:=by rw[Int.sub_zero];exact wn
 have z1:∀h:Hp,jF h 5 false true false [.sl true [] true,.int .i64 0]=some (.sl true [] true,.pat [] []):=λ_=>rfl;have z2:G9 [] 1 5 true 80 [AV.str [],AV.int IntKind.i64 0,AV.sl true [] true,AV.sl true [] true,AV.int IntKind.i64 0] [.sl true [] true,.int .i64 n]=some (.rf 1 0 0 n n,.pat [1] [⟨1,0,.blk (List.replicate n [AV.str [],AV.int IntKind.i64 0,AV.sl true [] true,AV.sl true [] true,AV.int IntKind.i64 0]).flatten 5 true false false⟩]):=by
  simp only[G9];rw[if_pos ⟨by omega,by simp only[big]at hn;omega,by decide,rfl,rfl⟩];simp only[fM,Int.toNat_natCast];rw[if_neg (by omega)];have:((true||true)&&decide (List.length ([]:List AV)+n<=1073741824)&&decide (80<=65536))=true:=by simp only[big]at hn;simp;omega
  rw[if_pos this];simp[aP,Hp.next,Hp.get]
 have z3:∀(h:Hp)(cs:List AV),h.get 1=some (0,.blk cs 5 true false false)->jF h 5 false true false [.rf 1 0 0 n n,.int .i64 0]=some (.rf 1 0 0 0 n,.pat [1] []):=by intro h cs hg;simp only[jF,gT,jS,hg];simp
 simp only[e0,w0,ws,e1,↓z1,go_sem,seval];rw[aJI];have z4:=z3 (Hp.put [] 1 0 (.blk (List.replicate n [AV.str [],AV.int IntKind.i64 0,AV.sl true [] true,AV.sl true [] true,AV.int IntKind.i64 0]).flatten 5 true false false)) _ rfl;simp only[↓z2,↓z4,go_sem,seval];exact⟨.os [] 5 true,rfl,.inr rfl⟩
def i6(L:List (Sl Loop)):List Loop:=L.flatMap (·.es)
theorem yJ(d:List (Sl Loop))(x:Sl Loop):i6 (d++[x])=i6 d++x.es:=by simp[i6]
set_option maxHeartbeats 2000000 in
theorem c763(hf:pg.fs 763=some vI)(h784:pg.fs 784=some rV)(nl cl:Bool)(L:List (Sl Loop))(hb:L.length<=big)(hl:(i6 L).length<=big)(h0:i6 L≠[]) :
  bZ pg 763 [.sl nl (L.map λs => .sl s.nl (s.es.map Loop.av) s.cl) cl] (wJ 5 true ((i6 L).map Loop.av)):=by
 refine bZ.ofX hf ?_;unfold vI;refine Wk ?_;refine aY L (λd r env hp=>env=AH (.sl nl (L.map λs => .sl s.nl (s.es.map Loop.av) s.cl) cl) (.int .i64 (i6 d).length) (.sl nl (L.map λs => .sl s.nl (s.es.map Loop.av) s.cl) cl) (.int .i64 L.length) (.int .i64 d.length)) ?_ ?_ ?_;rfl;rintro env hp rfl;simp only[AF,AH,bA,go_sem,seval];refine aJl (c784 h784 (i6 L).length hl (List.length_pos_iff.2 h0)) (by simp only[go_sem,seval]) (by simp) ?_;intro v rd pa ho hk _;refine Wk ?_;generalize Eff.app hp _=H1 at ho ⊢;refine aY L (λd r env hp=>∃v k',env=AG v (.sl nl (L.map λs => .sl s.nl (s.es.map Loop.av) s.cl) cl) (.int .i64 L.length) (.int .i64 d.length)/\Own hp k' 5 true v ((i6 d).map Loop.av)) ?_ ?_ ?_;exact⟨v,_,rfl,ho⟩;rintro env h2 ⟨v,k',rfl,ho⟩;simp only[AE,AG,bA,go_sem,seval];exact ho.conv (El.loops _);rintro d x r env h2 he2 ⟨v,k',rfl,ho⟩;obtain⟨hget,f1,f2,fw⟩:=cM he2 hb;have hgi:(L.map λs=>AV.sl s.nl (s.es.map Loop.av) s.cl)[d.length]?=some (.sl x.nl (x.es.map Loop.av) x.cl):=by rw[List.getElem?_map,hget];rfl
 have hlx:(i6 d).length+x.es.length<=big:=by
  have:(i6 L).length=(i6 d).length+(x.es.length+(i6 r).length):=by rw[he2];simp[i6]
  omega
 simp only[AE,AG,f1,f2,hgi,go_sem,seval];refine qF (kb:=0) ho (Src.sl (El.loops _)) (El.loops _) (by simp only[aZ,big]at hlx ⊢;omega) (by decide) ?_;intro v' k2 rd pa _ ho' _;simp only[fw,go_sem,seval];exact⟨v',k2,rfl,by rw[yJ,List.map_append];exact ho'⟩
 ·rintro d x r env hp hes rfl;obtain⟨hget,f1,f2,fw⟩:=cM hes hb;have hgi:(L.map λs=>AV.sl s.nl (s.es.map Loop.av) s.cl)[d.length]?=some (.sl x.nl (x.es.map Loop.av) x.cl):=by rw[List.getElem?_map,hget];rfl
  have hlx:(i6 d).length+x.es.length<=big:=by
   have:(i6 L).length=(i6 d).length+(x.es.length+(i6 r).length):=by rw[hes];simp[i6]
   omega
  have hw:wr .i64 (((i6 d).length:Int)+(x.es.length:Int))=((i6 (d++[x])).length:Int):=by rw[yJ,cA];simp only[big]at hlx;rw[eB (by omega) (by omega)];omega
  have hz:decide (((i6 (d++[x])).length:Int)<0)=false:=by simp
  simp only[AF,AH,f1,f2,hgi,hw,hz,fw,go_sem,seval]
  try rfl
end
end
end Go.Tev
