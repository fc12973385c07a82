import Derived.Test.YtilkdbbkkcnocaaGreatDoorSAD
import Derived.MapKept
import Derived.Maps.RangeRun
import Derived.Laws.Externs
import Derived.Lib.Bytealg
import Derived.KernelRfl
import GoSem.Dispatch
set_option linter.all false
namespace Go.Tev
section
open Go.RowKit
def ER(num:Nm)(ρ : Rho)(w:World)(F:Nat->Prop)(a:AV×AV)(b:MapEntry):Prop:=
 Rv num ρ w F a.1 b.key/\Rv num ρ w F a.2 b.val/\a.1.key=true/\a.2.fits a.2.cells.length a.2.isAgg=true
theorem PV:∀a b:List UInt8,ZK a b=Lib.compareBytes a b
 |[],[]=>rfl
 |[],_::_=>rfl
 |_::_,[]=>rfl
 |a::r,b::s=>by have e1:(a<b)=(a.toNat<b.toNat):=propext UInt8.lt_iff_toNat_lt;have e2:(b<a)=(b.toNat<a.toNat):=propext UInt8.lt_iff_toNat_lt;simp only[ZK,Lib.compareBytes,PV r s,cond_eq_ite,Nat.blt_eq,e1,e2]
theorem P4(b:UInt8)(c:Nat)(hc:c<=255):(b==c.toUInt8)=b.toNat.beq c:=by rw[Bool.eq_iff_iff];simp only[beq_iff_eq,Nat.beq_eq];constructor;rintro rfl;simp[Nat.toUInt8];omega;intro h;subst h;simp[Nat.toUInt8]
theorem C5(c:Nat)(hc:c<=255):∀(l:List UInt8)(i:Nat),vH l c i=if Lib.indexByte l c.toUInt8 = -1 then -1 else Lib.indexByte l c.toUInt8+i
 |[],i=>by simp[vH,Lib.indexByte]
 |b::l,i=>by have h:=Lib.indexByte_ge l c.toUInt8;have ih:=C5 c hc l (i+1);simp only[vH,Lib.indexByte,P4 b c hc,cond_eq_ite];split;simp;rw[ih];simp only[beq_iff_eq];split;simp;rw[if_neg (by omega)];omega
theorem DN(c:Nat)(hc:c<=255):∀(l:List UInt8)(n:Nat),AQ l c n=n+Lib.countByte l c.toUInt8
 |[],n=>by simp[AQ,Lib.countByte]
 |b::l,n=>by have ih:=DN c hc l;simp only[Lib.countByte]at ih ⊢;simp only[AQ,ih,List.count_cons,P4 b c hc,cond_eq_ite];split<;>omega
def PS(q:Nat)(d:TypeDesc):Prop:=(q=0/\∃k,d = .int k)\/(q=1/\d = .string)\/(q=2/\d = .bool)
theorem tY{P:Program}{t:TypeId}{q:Nat}(h:zU P t q=true):∃d,P.underlying t=some d/\PS q d:=by
 match q,h with
 |0,h=>obtain⟨k,hk⟩:=zY h;exact⟨_,hk,.inl ⟨rfl,k,rfl⟩⟩
 |1,h=>exact⟨_,iE h,.inr (.inl ⟨rfl,rfl⟩)⟩
 |2,h=>exact⟨_,vF h,.inr (.inr ⟨rfl,rfl⟩)⟩
 |n+3,h=>simp[zU]at h
theorem mH{q:Nat}{x:AV}(h:x.keyQ q=true):x.key=true:=by unfold AV.keyQ at h;split at h<;>first|rfl|cases h
theorem dQ{P:Program}{w:World}{kt:TypeId}{d:TypeDesc}{q:Nat}(k:Value)(hd:P.underlying kt=some d)(hq:PS q d)(e:Bool):(Instr.checkKey e 10000 kt k).run P w = .ok () w:=by show (Instr.checkKey e (9999+1) kt k).run P w=_;unfold Instr.checkKey;simp only[Sem.run_bind,run_underlying hd,Result.andThen];rcases hq with ⟨_,j,rfl⟩|⟨_,rfl⟩|⟨_,rfl⟩<;>cases k<;>rfl
section
variable{num:Nm}{ρ : Rho}{w:World}{F:Nat->Prop}
theorem yZ{d:TypeDesc}{q:Nat}{x y:AV}{cx cy:Value}{r:Bool}(hq:PS q d)(hx:x.keyQ q=true)(he:eq1 x y=some r)(rx:Rv num ρ w F x cx)(ry:Rv num ρ w F y cy) :
  Instr.sameNow d cx cy=some r/\(r=true->cx=cy):=by
 rcases hq with ⟨rfl,j,rfl⟩|⟨rfl,rfl⟩|⟨rfl,rfl⟩
 ·cases x<;>simp[AV.keyQ]at hx;cases y<;>simp only[eq1]at he<;>try (cases he;done)
  split at he
  case isFalse=>cases he
  rename_i hk;cases he;subst hk;rw[rx.of_int,ry.of_int];refine⟨by simp[Instr.sameNow,Bool.beq_eq_decide_eq],λh=>?_⟩;simp at h;rw[h]
 ·cases x<;>simp[AV.keyQ]at hx;cases y<;>simp only[eq1]at he<;>try (cases he;done)
  cases he;rename_i a b;rw[rx.of_str,ry.of_str];refine⟨?_,λh=>?_⟩;have:((⟨a.toArray⟩:ByteArray)==⟨b.toArray⟩)=decide (a=b):=by rw[Bool.eq_iff_iff,MapKept.bytes_beq];simp
  simp[Instr.sameNow,this];simp at h;rw[h]
 ·cases x<;>simp[AV.keyQ]at hx;cases y<;>simp only[eq1]at he<;>try (cases he;done)
  cases he;rw[rx.of_bool,ry.of_bool];refine⟨by simp[Instr.sameNow],λh=>?_⟩;simp at h;rw[h]
theorem jJ{d:TypeDesc}{q:Nat}{x:AV}{cx:Value}(hq:PS q d)(hx:x.keyQ q=true)(rx:Rv num ρ w F x cx):∀(es:List (AV×AV))(cs:List MapEntry)(i:Nat)(r:Option AV),
  aJ (ER num ρ w F) es cs->fX es x=some r ->
  (r=none/\Instr.findNow d cx cs i=some none/\(∀u,iX es x u=es++[(x,u)])/\nN es x=es/\∀bs,rY es bs x=bs) \/
  ∃v j y,r=some v/\Instr.findNow d cx cs i=some (some (i+j,y.val))/\j<es.length/\cs[j]?=some y/\y.key=cx/\Rv num ρ w F v y.val/\(∀u,iX es x u=es.set j (x,u))/\nN es x=es.eraseIdx j/\(∀bs,rY es bs x=bs.eraseIdx j)/\(∀bs b,vV es bs x=some b->bs[j]?=some b)/\v.fits v.cells.length v.isAgg=true
 |[],_,i,r,h,hf=>by cases h;simp only[fX,aU]at hf;exact .inl ⟨hf.symm,rfl,λu=>rfl,rfl,λbs=>rfl⟩
 |(k,v)::es,_,i,r,h,hf=>by
  cases h with
  |cons h1 h2=>
   rename_i b cs;simp only[fX]at hf;split at hf;rename_i he;cases hf;obtain⟨s1,s2⟩:=yZ hq hx he rx h1.1;refine .inr ⟨v,0,b,rfl,?_,by simp,rfl,(s2 rfl).symm,h1.2.1,λu=>by simp[iX,he],by simp[nN,he],λbs=>by cases bs<;>simp[rY,he],(λbs b hb=>by cases bs<;>simp[vV,he]at hb ⊢;exact hb),h1.2.2.2⟩;simp[Instr.findNow,s1];rename_i he;obtain⟨s1,_⟩:=yZ hq hx he rx h1.1;rcases jJ hq hx rx es cs (i+1) r h2 hf with ⟨a1,a2,a3,a4,a9⟩|⟨v',j,y,a1,a2,a3,a4,a5,a6,a7,a8,a9,a10,a11⟩
   refine .inl ⟨a1,by simp[Instr.findNow,s1,a2],λu=>by simp[iX,he,a3],by simp[nN,he,a4],λbs=>by cases bs<;>simp[rY,he,a9]⟩;refine .inr ⟨v',j+1,y,a1,by simp[Instr.findNow,s1,a2];omega,by simp;omega,by simpa using a4,a5,a6,λu=>by simp[iX,he,a7],by simp[nN,he,a8],(λbs=>by cases bs<;>simp[rY,he,a9]),(λbs b hb=>by cases bs<;>simp[vV,he]at hb ⊢;exact a10 _ _ hb),a11⟩;cases hf
end
section
variable{num:Nm}{Fb:Nat->Prop}{B0:Nat}{ρ : Rho}{w w':World}{O:Nat->Prop}{h:Hp}
theorem ER.evo{ρ':Rho}{O':Nat->Prop}{a:AV×AV}{b:MapEntry}(hh:ER num ρ w (λb=>Fb b\/O b) a b)(ev:Evo ρ w O ρ' w' O'):ER num ρ' w' (λb=>Fb b\/O' b) a b:=
 ⟨hh.1.evo ev,hh.2.1.evo ev,hh.2.2⟩
theorem HpR.newM{k:Nat}(H:HpR num Fb B0 ρ w O h)(hp:jL w w' (.map #[] 0)) :
  Evo ρ w O (ρ.set k (h.next k) ⟨w.heap.size,0,0,false,0,λ_=>rfl⟩) w' (λb=>O b\/b=w.heap.size) /\
  HpR num Fb B0 (ρ.set k (h.next k) ⟨w.heap.size,0,0,false,0,λ_=>rfl⟩) w' (λb=>O b\/b=w.heap.size) (h.put k (h.next k) (.mpo [] [] 0)):=by
 have hf:=kS H k
 have ev:Evo ρ w O (ρ.set k (h.next k) ⟨w.heap.size,0,0,false,0,λ_=>rfl⟩) w' (λb=>O b\/b=w.heap.size):=
  {os:=hp.os,tape:=hp.tape,output:=hp.output,size:=by rw[hp.size];omega,
   keep:=λb hb _=>hp.old hb,own:=λb hb hO=>hO.elim id (λe=>by omega),rho:=Rho.set_keeps hf}
 refine⟨ev,H.put ev ?_ (oN h k) ?_ ?_ ?_ ?_⟩;intro k' e' L hL;unfold Rho.set at hL;split at hL;rename_i hc;exact .inr hc;exact .inl hL;intro b hO;rw[hp.size];rcases hO with hO|rfl;exact⟨(H.own b hO).1,Nat.lt_of_lt_of_le (H.own b hO).2 (by omega)⟩;exact⟨H.le,by omega⟩;intro k' e' o' L hk hg hd hL;exact⟨hp.old (H.loc_lt hg hd hL),.inl⟩;refine⟨_,#[],0,Rho.set_same _ _ _ _,hp.new,⟨rfl,rfl,rfl⟩,?_,H.le,.inr rfl⟩;intro i x y hx;simp at hx;intro _ k' e' o' L L' hk hg hl hL' hL hb;rw[Rho.set_same]at hL;cases hL;have:=H.loc_lt hg (by intro e;subst e;cases hl) hL';simp at hb;omega
theorem HpR.writeM{k e:Nat}{es es':List (AV×AV)}{bs bs':List Nat}{ck:Nat}{L:Loc}{c':Array MapEntry}{clock':Nat}(H:HpR num Fb B0 ρ w O h)
  (hg:h.get k=some (e,.mpo es bs ck)) (hL : ρ k e=some L) (ht:fH w w' L.b (.map c' clock')) (hc:aJ (ER num ρ w (λb=>Fb b\/O b)) es' c'.toList) (hb:c'.toList.map MapEntry.born=bs') :
  Evo ρ w O ρ w' O/\HpR num Fb B0 ρ w' O (h.put k e (.mpo es' bs' clock')):=by
 obtain⟨L0,c,clock,h1,h2,h3,h4,h5,h6⟩:=H.mpo _ _ _ _ _ hg;rw[h1]at hL;cases hL;have ev:Evo ρ w O ρ w' O:=ht.evo h6;refine⟨ev,H.put ev (λ_ _ _ h => .inl h) (λe0 o0 g=>by rw[hg]at g;cases g;exact Nat.le_refl _) ?_ ?_ ?_ ?_⟩;intro b hO;rw[ht.size];exact H.own b hO;intro k' e' o' L' hk hg' hd hL';exact⟨ht.other _ (iP H hg rfl h1 hk hg' hd hL'),id⟩;refine⟨L,c',clock',h1,ht.here,⟨by simpa using hc.length,rfl,hb⟩,?_,h5,h6⟩;intro i x y hx hy;exact(hc.get i x y hx (by rw[Array.getElem?_toList];exact hy)).evo ev;intro _ k' e' o' L1 L2 hk hg' hl hL' hL1 hb;rw[h1]at hL1;cases hL1;exact iP H hg rfl h1 hk hg' (by intro e;subst e;cases hl) hL' hb.symm
theorem HpR.all2M{k e:Nat}{es:List (AV×AV)}{bs:List Nat}{ck:Nat}(H:HpR num Fb B0 ρ w O h){L:Loc}(hg:h.get k=some (e,.mpo es bs ck))(hL : ρ k e=some L) :
  ∃(c:Array MapEntry),w.heap[L.b]?=some (.map c ck)/\aJ (ER num ρ w (λb=>Fb b\/O b)) es c.toList/\c.toList.map MapEntry.born=bs:=by
 obtain⟨L0,c,clock,h1,h2,h3,h4,h5,h6⟩:=H.mpo _ _ _ _ _ hg;rw[h1]at hL;cases hL;obtain⟨h3,rfl,h7⟩:=h3;exact⟨c,h2,aJ.of_get (by simpa using h3) (λi x y hx hy=>h4 i x y hx (by rw[Array.getElem?_toList]at hy;exact hy)),h7⟩
theorem iA{b:Nat}{o o':Obj}(hb:w.heap[b]?=some o):fH w {w with heap:=w.heap.setIfInBounds b o'} b o':=
 ⟨rfl,rfl,rfl,by simp,(MapKept.heap_set hb).1,λk hk=>(MapKept.heap_set hb).2 k hk⟩
end
theorem aJ.set{α β : Type}{R : α -> β -> Prop}:∀{l:List α}{m:List β}(j:Nat){a : α}{b : β},aJ R l m->R a b->aJ R (l.set j a) (m.set j b)
 |_,_,_,_,_,.nil,_ => .nil
 |_,_,0,_,_,.cons _ h2,h => .cons h h2
 |_,_,j+1,_,_,.cons h1 h2,h => .cons h1 (h2.set j h)
theorem aJ.eraseIdx{α β : Type}{R : α -> β -> Prop}:∀{l:List α}{m:List β}(j:Nat),aJ R l m->aJ R (l.eraseIdx j) (m.eraseIdx j)
 |_,_,_,.nil => .nil
 |_,_,0,.cons _ h2=>h2
 |_,_,j+1,.cons h1 h2 => .cons h1 (h2.eraseIdx j)
theorem DB{num:Nm}{ρ : Rho}{w:World}{F:Nat->Prop}{s:Nat}:∀{es:List (AV×AV)}{bs:List Nat}{cs:List MapEntry}{a u:AV},aJ (ER num ρ w F) es cs->cs.map MapEntry.born=bs->qB es bs s=some (a,u) ->
  ∃y,cs.find? (·.born==s)=some y/\Rv num ρ w F a y.key/\Rv num ρ w F u y.val
 |_,_,_,a,u,.nil,hb,hf=>by subst hb;simp[qB]at hf
 |_,_,_,a,u,.cons (b:=y) (m:=cs) h1 h2,hb,hf=>by subst hb;simp only[List.map_cons,qB]at hf;by_cases hs:y.born=s;rw[if_pos hs]at hf;cases hf;exact⟨y,by simp[hs],h1.1,h1.2.1⟩;rw[if_neg hs]at hf;obtain⟨z,z1,z2⟩:=DB h2 rfl hf;exact⟨z,by simp[hs,z1],z2⟩
theorem IC{num:Nm}{ρ : Rho}{w:World}{F:Nat->Prop}{s:Nat}(v:AV):∀{es:List (AV×AV)}{bs:List Nat}{cs:List MapEntry}{p:AV×AV},aJ (ER num ρ w F) es cs->cs.map MapEntry.born=bs->qB es bs s=some p ->
  ∃(j:Nat)(y:MapEntry),cs.findIdx? (λe=>(e.born:Int)==(s:Int))=some j/\cs[j]?=some y/\LX es bs s v=es.set j (p.1,v)/\Rv num ρ w F p.1 y.key/\p.1.key=true
 |_,_,_,p,.nil,hb,hf=>by subst hb;simp[qB]at hf
 |_,_,_,p,.cons (a:=x) (b:=y) (m:=cs) h1 h2,hb,hf=>by
  subst hb;obtain⟨a,u⟩:=x;simp only[List.map_cons,qB]at hf;by_cases hs:y.born=s;rw[if_pos hs]at hf;cases hf;refine⟨0,y,?_,rfl,by simp[LX,hs],h1.1,h1.2.2.1⟩;rw[List.findIdx?_cons,if_pos (by simp[hs])];rw[if_neg hs]at hf;obtain⟨j,z,z1,z2,z3,z4⟩:=IC v h2 rfl hf;have hs':¬(y.born:Int)=(s:Int):=by omega
  refine⟨j+1,z,?_,by simpa using z2,by simp[LX,hs,z3],z4⟩;rw[List.findIdx?_cons,if_neg (by simpa using hs'),z1];rfl
theorem zO{c:Array MapEntry}{j:Nat}{y:MapEntry}(f:MapEntry->MapEntry)(hy:c.toList[j]?=some y):(c.modify j f).toList=c.toList.set j (f y):=by
 have hyk:c[j]?=some y:=by rw[Array.getElem?_toList]at hy;exact hy
 apply List.ext_getElem?;intro i;simp only[Array.getElem?_toList,Array.getElem?_modify,List.getElem?_set];by_cases hij:j=i;subst hij;have hlt:j<c.size:=(lZ.1 hyk).1;have hcj:c[j]=y:=by have:=Array.getElem?_eq_getElem hlt;rw[this]at hyk;exact Option.some.inj hyk
 simp[hlt,hcj];simp[hij]
theorem CA{c:List MapEntry}{j:Nat}{y z:MapEntry}(hy:c[j]?=some y)(hz:z.born=y.born):(c.set j z).map MapEntry.born=c.map MapEntry.born:=by rw[List.map_set];apply List.ext_getElem?;intro i;rw[List.getElem?_set];split;rename_i hij;subst hij;split;simp[hy,hz];rename_i hlt;rw[cY (by simpa using hlt)];rfl
theorem wM{α β : Type}(f : α -> β):∀(l:List α)(j:Nat),(l.eraseIdx j).map f=(l.map f).eraseIdx j
 |[],_=>rfl
 |_::_,0=>rfl
 |x::l,j+1=>by simp[wM f l j]
theorem tN{num:Nm}{ρ : Rho}{w:World}{F:Nat->Prop}{x:AV}{c:Value}(h:Rv num ρ w F x c)(hx:x.key=true):Instr.sameBits 10000 c c=true:=by cases x<;>simp[AV.key]at hx;rw[h.of_bool];simp[Instr.sameBits];rw[h.of_int];simp[Instr.sameBits];rw[h.of_str];simp only[Instr.sameBits];rw[MapKept.bytes_beq]
def HU:Array Value->Sem Value:=λargs=>do
 let (x,y,b) <-Extern.MathBitsCarry.three "Sub64" args
 pure (Extern.MathBitsCarry.pair ((x+Extern.MathBitsCarry.m64-y-b) % Extern.MathBitsCarry.m64) (if x<y+b then 1 else 0))
theorem EQ{P:Program}(x y b:Nat)(hb:b<=1)(w:World) :
  (HU #[.int .u64 x,.int .u64 y,.int .u64 b]).run P w = .ok (.tuple #[.int .u64 (((x+18446744073709551616-y-b) % 18446744073709551616:Nat):Int),.int .u64 ((if x<y+b then 1 else 0:Nat):Int)]) w:=by
 have:b=0\/b=1:=by omega
 rcases this with rfl|rfl<;>rfl
section
variable{P:Program}{num:Nm}{Fb:Nat->Prop}{B0:Nat}{ρ : Rho}{w:World}{O:Nat->Prop}{h:Hp}{ρv:Operand->Value}{o:Oper}
variable(H:HpR num Fb B0 ρ w O h)
variable{k0:Nat}{l:List Operand}{vs:List AV}{v:AV}{eff:Eff}
variable(hv:aJ (Rv num ρ w (λb=>Fb b\/O b)) vs (l.map ρv))
include H hv
theorem aFD(hf:fitK P num o .mkm=some l)(h1:op1 h k0 .mkm vs=some (v,eff)):eC P num Fb B0 ρ w O h ρv o v eff:=by
 simp only[fitK]at hf;split at hf
 case h_2=>cases hf
 rename_i t ho;cases hf;cases hv;simp only[op1,nM,aU,bA]at h1;obtain⟨rfl,rfl⟩:=h1;obtain⟨ev,H'⟩:=H.newM (k:=k0) (gJ w (.map #[] 0));refine⟨_,.map (some w.heap.size),_,_,_,?_,.inl rfl,ev,H',?_⟩;simp only[execOp,ho,Option.map_none];rfl;exact .mp _ _ _ (Rho.set_same _ _ _ _)
theorem aFB(q:Nat)(zero:AV)(ok:Bool)(hf:fitK P num o (.mlk q zero ok)=some l)(h1:op1 h k0 (.mlk q zero ok) vs=some (v,eff)):eC P num Fb B0 ρ w O h ρv o v eff:=by
 simp only[fitK]at hf;split at hf
 case h_2=>cases hf
 rename_i t m x ok' ho;split at hf
 case h_2=>cases hf
 rename_i kt et hu;obtain⟨hg,rfl⟩:=aL hf;simp only[aD,beq_iff_eq]at hg;obtain⟨⟨rfl,hk⟩,hz⟩:=hg;obtain⟨a,b,rfl,ha,hb⟩:=hv.two;obtain⟨d,hd,hq⟩:=tY hk
 obtain⟨z,hzr,hzv⟩:∃z,(zeroValue et).run P w = .ok z w/\Rv num ρ w (λb=>Fb b\/O b) zero z:=by
  unfold fitZV at hz;split at hz
  case h_2=>cases hz
  rename_i i hi;split at hz
  case h_2=>cases hz
  rename_i z hz';refine⟨z,?_,fitV_sound hz⟩;simp[zeroValue,typeInfo,hi,hz',Sem.run,Result.andThen]
 have fin:∀(v1:AV)(c1:Value)(b1:Bool),Rv num ρ w (λb=>Fb b\/O b) v1 c1->Rv num ρ w (λb=>Fb b\/O b) (if ok then .tup [v1,.bool b1] else v1) (if ok then .tuple #[c1,.bool b1] else c1):=by intro v1 c1 b1 hr;cases ok;exact hr;exact .of_all2_tup (.cons hr (.cons (.bool _) .nil))
 simp only[op1]at h1;split at h1;split at h1
 case isFalse=>cases h1
 rename_i hx;obtain⟨rfl,rfl⟩:=bH h1;have hm:=ha.of_nilm;refine .val H (cv:=if ok then .tuple #[z,.bool false] else z) ?_ (fin _ _ _ hzv);simp only[execOp,ho,hm];simp[Instr.lookup,run_underlying hu,Result.andThen,dQ (ρv x) hd hq,MapKept.run_findKey (w:=w) hd (show Instr.findNow d (ρv x) [] 0=some none from rfl),hzr];split at h1
 case h_2=>cases h1
 rename_i k e e' es _ _ hgk;split at h1
 case isFalse=>cases h1
 rename_i hc;obtain⟨rfl,hx⟩:=hc;obtain⟨L,hm,hL⟩:=ha.of_mp;obtain⟨c,hh,hall,_⟩:=H.all2M hgk hL;split at h1;rename_i v1 hfd;cases h1;rcases jJ hq hx hb es c.toList 0 _ hall hfd with ⟨h0,_⟩|⟨v',j,y,h0,hn,_,_,_,hr,_⟩
 cases h0;cases h0;refine .val H (cv:=if ok then .tuple #[y.val,.bool true] else y.val) ?_ (fin _ _ _ hr);simp only[execOp,ho,hm];simp[Instr.lookup,run_underlying hu,Result.andThen,dQ (ρv x) hd hq,MapKept.run_getObj_map hh,MapKept.run_findKey (w:=w) hd hn];rename_i hfd;cases h1;rcases jJ hq hx hb es c.toList 0 _ hall hfd with ⟨_,hn,_⟩|⟨v',j,y,h0,_⟩
 refine .val H (cv:=if ok then .tuple #[z,.bool false] else z) ?_ (fin _ _ _ hzv);simp only[execOp,ho,hm];simp[Instr.lookup,run_underlying hu,Result.andThen,dQ (ρv x) hd hq,MapKept.run_getObj_map hh,MapKept.run_findKey (w:=w) hd hn,hzr];cases h0;cases h1;cases h1
theorem aFA(q:Nat)(hf:fitK P num o (.mup q)=some l)(h1:op1 h k0 (.mup q) vs=some (v,eff)):eC P num Fb B0 ρ w O h ρv o v eff:=by
 simp only[fitK]at hf;split at hf
 case h_2=>cases hf
 rename_i t m x y ho;split at hf
 case h_2=>cases hf
 rename_i kt et hu;obtain⟨hk,rfl⟩:=aL hf;obtain⟨a,b,c0,rfl,ha,hb,hc0⟩:=hv.three;obtain⟨d,hd,hq⟩:=tY hk;simp only[op1]at h1;split at h1
 case h_2=>cases h1
 rename_i k e;split at h1
 case h_2=>cases h1
 rename_i e' es bs clock hgk;split at h1
 case isFalse=>cases h1
 rename_i hc;obtain⟨rfl,hx,hfit⟩:=hc;split at h1
 case h_2=>cases h1
 rename_i r hfd;cases h1;obtain⟨L,hm,hL⟩:=ha.of_mp;obtain⟨c,hh,hall,hbo⟩:=H.all2M hgk hL;have hex:∀w',(Instr.mapUpdate t (ρv m) (ρv x) (ρv y)).run P w = .ok () w'->(execOp ρv o).run P w = .ok .skip w':=by intro w' hr;unfold aGp at ho;split at ho;rename_i e1;cases ho;simp only[execOp,e1];simp[hr,Result.andThen];rename_i e1;cases ho;simp only[execOp,e1];simp[hr,Result.andThen];cases ho
 have her:ER num ρ w (λb=>Fb b\/O b) (b,c0) {key := ρv x,val := ρv y,born:=0}:=⟨hb,hc0,mH hx,hfit⟩
 rcases jJ hq hx hb es c.toList 0 _ hall hfd with ⟨rfl,hn,hset,_⟩|⟨v',j,y',rfl,hn,hj,hy,hkey,_,hset,_⟩
 have ht:fH w {w with heap:=w.heap.setIfInBounds L.b (.map (c.push {key := ρv x,val := ρv y,born:=clock}) (clock+1))} L.b (.map (c.push {key := ρv x,val := ρv y,born:=clock}) (clock+1)):=iA hh;obtain⟨ev,H'⟩:=H.writeM (es':=iX es b c0) hgk hL ht (by
  rw[hset,Array.toList_push];exact hall.append (.cons ⟨hb,hc0,mH hx,hfit⟩ .nil)) (bs':=bs++[clock]) (by rw[Array.toList_push,List.map_append,hbo];rfl)
 refine⟨.skip,undef,_,ρ,O,hex _ ?_,.inr ⟨rfl,rfl⟩,ev,H',.tup [] #[] rfl (by intro i x y hx;simp at hx)⟩;rw[hm];simp[Instr.mapUpdate,run_underlying hu,Result.andThen,dQ (ρv x) hd hq,MapKept.run_getObj_map hh,MapKept.run_findKey (w:=w) hd hn,MapKept.run_setObj_map _ hh];simp only[Nat.zero_add]at hn;have hyk:c[j]?=some y':=by rw[Array.getElem?_toList]at hy;exact hy
 have ht:fH w {w with heap:=w.heap.setIfInBounds L.b (.map (c.modify j λe=>{e with key := ρv x,val := ρv y}) clock)} L.b (.map (c.modify j λe=>{e with key := ρv x,val := ρv y}) clock):=iA hh
 have hl:(c.modify j λe=>{e with key := ρv x,val := ρv y}).toList=c.toList.set j {y' with key := ρv x,val := ρv y}:=by
  apply List.ext_getElem?;intro i;simp only[Array.getElem?_toList,Array.getElem?_modify,List.getElem?_set];by_cases hij:j=i;subst hij;have hlt:j<c.size:=(lZ.1 hyk).1;have hcj:c[j]=y':=by have:=Array.getElem?_eq_getElem hlt;rw[this]at hyk;exact Option.some.inj hyk
  simp[hlt,hcj];simp[hij]
 obtain⟨ev,H'⟩:=H.writeM (es':=iX es b c0) hgk hL ht (by
  rw[hset,hl];exact hall.set j ⟨hb,hc0,mH hx,hfit⟩) (bs':=bs) (by
  rw[hl,List.map_set,<-hbo];apply List.ext_getElem?;intro i;rw[List.getElem?_set];split;rename_i hij;subst hij;split;simp[hy];rename_i hlt;rw[cY (by simpa using hlt)];rfl)
 refine⟨.skip,undef,_,ρ,O,hex _ ?_,.inr ⟨rfl,rfl⟩,ev,H',.tup [] #[] rfl (by intro i x y hx;simp at hx)⟩;rw[hm];have hsb:(Instr.keyThatStays (((c[j]?).map (·.key)).getD (ρv x)) (ρv x)).run P w = .ok (ρv x) w:=by rw[hyk];simp only[Option.map_some,Option.getD_some,hkey];simp[Instr.keyThatStays,tN hb (mH hx)]
 simp[Instr.mapUpdate,run_underlying hu,Result.andThen,dQ (ρv x) hd hq,MapKept.run_getObj_map hh,MapKept.run_findKey (w:=w) hd hn,MapKept.run_setObj_map _ hh,hsb]
theorem aFK(q:Nat)(zero:AV)(hf:fitK P num o (.men q zero)=some l)(h1:op1 h k0 (.men q zero) vs=some (v,eff)):eC P num Fb B0 ρ w O h ρv o v eff:=by
 simp only[fitK]at hf;split at hf
 case h_2=>cases hf
 rename_i t m x ho;split at hf
 case h_2=>cases hf
 rename_i kt et hu;obtain⟨hg,rfl⟩:=aL hf;simp only[aD]at hg;obtain⟨hk,hz⟩:=hg;obtain⟨a,b,rfl,ha,hb⟩:=hv.two;obtain⟨d,hd,hq⟩:=tY hk
 obtain⟨z,hzr,hzv⟩:∃z,(zeroValue et).run P w = .ok z w/\Rv num ρ w (λb=>Fb b\/O b) zero z:=by
  unfold fitZV at hz;split at hz
  case h_2=>cases hz
  rename_i i hi;split at hz
  case h_2=>cases hz
  rename_i z hz';refine⟨z,?_,fitV_sound hz⟩;simp[zeroValue,typeInfo,hi,hz',Sem.run,Result.andThen]
 simp only[op1]at h1;split at h1
 case h_2=>cases h1
 rename_i k e;split at h1
 case h_2=>cases h1
 rename_i e' es bs clock hgk;split at h1
 case isFalse=>cases h1
 rename_i hc;obtain⟨rfl,hx,hfit⟩:=hc;obtain⟨L,hm,hL⟩:=ha.of_mp;obtain⟨c,hh,hall,hbo⟩:=H.all2M hgk hL;have hex:∀cv w',(Instr.mapEntry t (ρv m) (ρv x)).run P w = .ok cv w'->(execOp ρv o).run P w = .ok (.value cv) w':=by intro cv w' hr;simp only[execOp,ho];simp[hr,Result.andThen]
 split at h1;rename_i v1 hfd;split at h1
 case h_2=>cases h1
 rename_i b1 hbn;cases h1;rcases jJ hq hx hb es c.toList 0 _ hall hfd with ⟨h0,_⟩|⟨v',j,y,h0,hn,hj,hy,hkey,hr,hset,_,_,hb2,hfv⟩
 cases h0;cases h0;simp only[Nat.zero_add]at hn;have hyk:c[j]?=some y:=by rw[Array.getElem?_toList]at hy;exact hy
 obtain rfl:b1=y.born:=by have:=hb2 _ _ hbn;rw[<-hbo,List.getElem?_map,hy]at this;exact(Option.some.inj this).symm
 have ht:fH w {w with heap:=w.heap.setIfInBounds L.b (.map (c.modify j λe=>{e with key := ρv x}) clock)} L.b (.map (c.modify j λe=>{e with key := ρv x}) clock):=iA hh;have hl:=zO (λe:MapEntry=>{e with key := ρv x}) hy;obtain⟨ev,H'⟩:=H.writeM (es':=iX es b v1) hgk hL ht (by
  rw[hset,hl];exact hall.set j ⟨hb,hr,mH hx,hfv⟩) (bs':=bs) (by rw[hl];exact(CA (z:={y with key := ρv x}) hy rfl).trans hbo)
 refine⟨_,.tuple #[y.val,.int .i64 y.born],_,ρ,O,hex _ _ ?_,.inl rfl,ev,H',(Rv.of_all2_tup (.cons hr (.cons (.int _ _) .nil))).evo ev⟩;rw[hm];have hsb:(Instr.keyThatStays y.key (ρv x)).run P w = .ok (ρv x) w:=by rw[hkey];simp[Instr.keyThatStays,tN hb (mH hx)]
 simp[Instr.mapEntry,run_underlying hu,Result.andThen,dQ (ρv x) hd hq,MapKept.run_getObj_map hh,MapKept.run_findKey (w:=w) hd hn,MapKept.run_setObj_map _ hh,hsb,hyk,goInt];rename_i hfd;cases h1;rcases jJ hq hx hb es c.toList 0 _ hall hfd with ⟨_,hn,hset,_⟩|⟨v',j,y,h0,_⟩
 have ht:fH w {w with heap:=w.heap.setIfInBounds L.b (.map (c.push {key := ρv x,val:=z,born:=clock}) (clock+1))} L.b (.map (c.push {key := ρv x,val:=z,born:=clock}) (clock+1)):=iA hh;obtain⟨ev,H'⟩:=H.writeM (es':=iX es b zero) hgk hL ht (by
  rw[hset,Array.toList_push];exact hall.append (.cons ⟨hb,hzv,mH hx,hfit⟩ .nil)) (bs':=bs++[clock]) (by rw[Array.toList_push,List.map_append,hbo];rfl)
 refine⟨_,.tuple #[z,.int .i64 clock],_,ρ,O,hex _ _ ?_,.inl rfl,ev,H',(Rv.of_all2_tup (.cons hzv (.cons (.int _ _) .nil))).evo ev⟩;rw[hm];simp[Instr.mapEntry,run_underlying hu,Result.andThen,dQ (ρv x) hd hq,MapKept.run_getObj_map hh,MapKept.run_findKey (w:=w) hd hn,MapKept.run_setObj_map _ hh,hzr,goInt];cases h0;cases h1
theorem aFJ(hf:fitK P num o .mes=some l)(h1:op1 h k0 .mes vs=some (v,eff)):eC P num Fb B0 ρ w O h ρv o v eff:=by
 simp only[fitK]at hf;split at hf
 case h_2=>cases hf
 rename_i t m s x ho;cases hf;obtain⟨a,b,c0,rfl,ha,hb,hc0⟩:=hv.three;simp only[op1]at h1;split at h1
 case h_2=>cases h1
 rename_i k e;split at h1
 case h_2=>cases h1
 rename_i ik n;split at h1
 case h_2=>cases h1
 rename_i e' es bs clock hgk;split at h1
 case isFalse=>cases h1
 rename_i hc;obtain⟨rfl,hfit,hn0⟩:=hc;split at h1
 case h_2=>cases h1
 rename_i p hfd;cases h1;obtain⟨u,rfl⟩:=hZ hn0;rw[Int.toNat_natCast]at hfd ⊢;obtain⟨L,hm,hL⟩:=ha.of_mp;obtain⟨c,hh,hall,hbo⟩:=H.all2M hgk hL;obtain⟨j,y,s1,s2,s3,s4,s5⟩:=IC c0 hall hbo hfd;have hj:c.findIdx? (λe=>(e.born:Int)==(u:Int))=some j:=by rw[<-Array.toArray_toList (xs:=c),List.findIdx?_toArray];exact s1
 have ht:fH w {w with heap:=w.heap.setIfInBounds L.b (.map (c.modify j λe=>{e with val := ρv x}) clock)} L.b (.map (c.modify j λe=>{e with val := ρv x}) clock):=iA hh;have hl:=zO (λe:MapEntry=>{e with val := ρv x}) s2;obtain⟨ev,H'⟩:=H.writeM (es':=LX es bs u c0) hgk hL ht (by
  rw[s3,hl];exact hall.set j ⟨s4,hc0,s5,hfit⟩) (bs':=bs) (by rw[hl];exact(CA (z:={y with val := ρv x}) s2 rfl).trans hbo)
 refine⟨.skip,undef,_,ρ,O,?_,.inr ⟨rfl,rfl⟩,ev,H',.tup [] #[] rfl (by intro i x y hx;simp at hx)⟩;have hbv:=hb.of_int;simp only[execOp,ho,hm,hbv];simp[Instr.entryStore,Result.andThen,MapKept.run_getObj_map hh,MapKept.run_setObj_map _ hh,asInt,asIntOf,hj]
theorem aIT(hρ : ∀g:Nat,ρv (.func g) = .func (.func g) #[] #[])(q:Nat)(hf:fitK P num o (.bx q)=some l)(h1:op1 h k0 (.bx q) vs=some (v,eff)):eC P num Fb B0 ρ w O h ρv o v eff:=by
 simp only[fitK]at hf;split at hf
 case h_2=>cases hf
 rename_i g args tys ho;split at hf
 case h_3=>cases hf
 case h_2 x y hl=>
  obtain⟨hg,rfl⟩:=aL hf;obtain⟨a,b,rfl,ha,hb⟩:=hv.two;have hargs:Array.map ρv args = #[ρv x,ρv y]:=by
   have:(Array.map ρv args).toList=[ρv x,ρv y]:=by rw[Array.toList_map,hl];rfl
   rw[<-Array.toArray_toList (xs:=Array.map ρv args),this]
  unfold aKu at hg;split at hg
  case h_2=>cases hg
  rename_i fn hfn;simp only[aD,cK]at hg;obtain⟨⟨hn,ho2⟩,hbd⟩:=hg;have hrun:∀cv,(callFunc g #[ρv x,ρv y]).run P w = .ok (.value cv) w->(execOp ρv o).run P w = .ok (.value cv) w:=by intro cv hcv;simp[execOp,ho,resolve,hρ,Deferred.ofValue,invoke,hargs,hcv]
  simp only[op1]at h1;cases hby:byA q a b with
  |none=>simp[hby]at h1
  |some r=>
  simp only[hby,Option.bind_some]at h1;obtain⟨rfl,rfl⟩:=bH h1;unfold byA at hby;split at hby
  case h_3=>cases hby
  rename_i a b;split at hby
  case isFalse=>cases hby
  rename_i hq;subst hq;cases hby;rw[if_pos rfl]at hn;have hcall:=run_callFunc_extern (P:=P) (e:=Extern.BytealgCompare.compare) hfn (by rw[hn];kernel_rfl) hbd (by unfold Extern.findNext;rw[hn,ho2];kernel_rfl) (by unfold Extern.find;rw[hn,ho2];kernel_rfl) #[ρv x,ρv y] w;rw[ha.of_str,hb.of_str,Lib.run_compareString]at hcall;rw[ha.of_str,hb.of_str]at hrun;refine .val H (hrun _ hcall) ?_;rw[PV];exact .int _ _;rename_i a c;split at hby
  case isFalse=>cases hby
  rename_i hc;obtain⟨hc0,hc1⟩:=hc;obtain⟨c,rfl⟩:=hZ hc0;have hc2:c<=255:=by omega
  split at hby;rename_i hq;subst hq;cases hby;rw[if_neg (by decide),if_pos rfl]at hn;have hcall:=run_callFunc_extern (P:=P) (e:=Extern.BytealgIndexByte.indexByte) hfn (by rw[hn];kernel_rfl) hbd (by unfold Extern.findNext;rw[hn,ho2];kernel_rfl) (by unfold Extern.find;rw[hn,ho2];kernel_rfl) #[ρv x,ρv y] w;rw[ha.of_str,hb.of_int,Lib.run_indexByteString]at hcall;rw[ha.of_str,hb.of_int]at hrun;refine .val H (hrun _ hcall) ?_;have e:vH a c 0=Lib.indexByte a c.toUInt8:=by rw[C5 c hc2];split<;>simp[*]
  simp only[Int.toNat_natCast];rw[e];exact .int _ _;split at hby
  case isFalse=>cases hby
  rename_i hq;subst hq;cases hby;rw[if_neg (by decide),if_neg (by decide)]at hn;have hcall:=run_callFunc_extern (P:=P) (e:=Extern.BytealgCount.count) hfn (by rw[hn];kernel_rfl) hbd (by unfold Extern.findNext;rw[hn,ho2];kernel_rfl) (by unfold Extern.find;rw[hn,ho2];kernel_rfl) #[ρv x,ρv y] w;rw[ha.of_str,hb.of_int,Lib.run_countString]at hcall;rw[ha.of_str,hb.of_int]at hrun;refine .val H (hrun _ hcall) ?_;simp only[Int.toNat_natCast];rw[DN c hc2,Nat.zero_add];exact .int _ _
 rename_i x y c hl;obtain⟨hg,rfl⟩:=aL hf;obtain⟨a,b,c0,rfl,ha,hb,hc⟩:=hv.three;simp only[op1]at h1;split at h1
 case h_2=>cases h1
 rename_i m n d;split at h1
 case isFalse=>cases h1
 rename_i hr;obtain⟨h0,h2,h3,h4,h5⟩:=hr;obtain⟨rfl,rfl⟩:=bH h1;have e1:=ha.of_int;have e2:=hb.of_int;have e3:=hc.of_int;obtain⟨m,rfl⟩:=hZ h0;obtain⟨n,rfl⟩:=hZ h2;obtain⟨d,rfl⟩:=hZ h3;have hargs:Array.map ρv args = #[.int .u64 m,.int .u64 n,.int .u64 d]:=by
  have:(Array.map ρv args).toList=[.int .u64 m,.int .u64 n,.int .u64 d]:=by rw[Array.toList_map,hl,List.map_cons,List.map_cons,List.map_cons,e1,e2,e3];rfl
  rw[<-Array.toArray_toList (xs:=Array.map ρv args),this]
 unfold aKv at hg;split at hg
 case h_2=>cases hg
 rename_i fn hfn;simp only[aD,cK]at hg;obtain⟨⟨hn,ho2⟩,hbd⟩:=hg;have hrun:∀cv,(callFunc g #[.int .u64 m,.int .u64 n,.int .u64 d]).run P w = .ok (.value cv) w->(execOp ρv o).run P w = .ok (.value cv) w:=by intro cv hcv;simp[execOp,ho,resolve,hρ,Deferred.ofValue,invoke,hargs,hcv]
 have hd:d=0\/d=1:=by omega
 by_cases hq:q=0;subst hq;rw[if_pos rfl]at hn;have hcall:=run_callFunc_extern (P:=P) (e:=add64Entry) hfn (by rw[hn];kernel_rfl) hbd (by unfold Extern.findNext;rw[hn,ho2];kernel_rfl) (by unfold Extern.find;rw[hn,ho2];kernel_rfl) #[.int .u64 m,.int .u64 n,.int .u64 d] w;rw[run_add64 _ _ _ h0 h2 h3 h4]at hcall;exact .val H (hrun _ hcall) (.of_all2_tup (.cons (.int _ _) (.cons (.int _ _) .nil)));rw[if_neg hq]at hn;have hcall:=run_callFunc_extern (P:=P) (e:=HU) hfn (by rw[hn];kernel_rfl) hbd (by unfold Extern.findNext;rw[hn,ho2];kernel_rfl) (by unfold Extern.find;rw[hn,ho2];kernel_rfl) #[.int .u64 m,.int .u64 n,.int .u64 d] w;rw[EQ m n d (by omega)]at hcall;refine .val H (hrun _ hcall) ?_;have hbx:bxA q (m:Int) (n:Int) (d:Int) = .tup [.int .u64 (((m+18446744073709551616-n-d) % 18446744073709551616:Nat):Int),.int .u64 ((if m<n+d then 1 else 0:Nat):Int)]:=by
  cases q with
  |zero=>exact absurd rfl hq
  |succ q=>simp only[bxA];congr 3;congr 1;omega;congr 1;congr 1;split<;>split<;>omega
 rw[hbx];exact .of_all2_tup (.cons (.int _ _) (.cons (.int _ _) .nil))
theorem YU(q:Nat)(hf:fitK P num o (.mdel q)=some l)(h1:op1 h k0 (.mdel q) vs=some (v,eff)):eC P num Fb B0 ρ w O h ρv o v eff:=by
 simp only[fitK]at hf;split at hf
 case h_2=>cases hf
 rename_i m x tys ho;split at hf
 case h_2=>cases hf
 rename_i t ht0;split at hf
 case h_2=>cases hf
 rename_i kt et hu;obtain⟨hk,rfl⟩:=aL hf;obtain⟨a,b,rfl,ha,hb⟩:=hv.two;obtain⟨d,hd,hq⟩:=tY hk;obtain⟨cn,hrun⟩:=gT (P:=P) (ρv := ρv) (w:=w) ho;simp only[op1]at h1;split at h1;split at h1
 case isFalse=>cases h1
 rename_i hx;obtain⟨rfl,rfl⟩:=bH h1;have hm:=ha.of_nilm;refine .val H (cv:=.tuple #[]) ?_ (.tup [] #[] rfl (by intro i x y hx;simp at hx));rw[hrun];simp[builtin,Builtin.delete_,ht0,hm,run_underlying hu,Result.andThen,dQ (ρv x) hd hq];split at h1
 case h_2=>cases h1
 rename_i k e e' es bs clock hgk;split at h1
 case isFalse=>cases h1
 rename_i hc;obtain⟨rfl,hx⟩:=hc;split at h1
 case h_2=>cases h1
 rename_i r hfd;cases h1;obtain⟨L,hm,hL⟩:=ha.of_mp;obtain⟨c,hh,hall,hbo⟩:=H.all2M hgk hL;rcases jJ hq hx hb es c.toList 0 _ hall hfd with ⟨_,hn,_,hdel,hbd⟩|⟨v',j,y',_,hn,hj,hy,hkey,_,_,hdel,hbd⟩
 have ht:fH w {w with heap:=w.heap.setIfInBounds L.b (.map c clock)} L.b (.map c clock):=iA hh;obtain⟨ev,H'⟩:=H.writeM (es':=nN es b) hgk hL ht (by rw[hdel];exact hall) (bs':=rY es bs b) (by rw[hbd];exact hbo);refine⟨.value (.tuple #[]),.tuple #[],_,ρ,O,?_,.inl rfl,ev,H',.tup [] #[] rfl (by intro i x y hx;simp at hx)⟩;rw[hrun];simp[builtin,Builtin.delete_,ht0,hm,run_underlying hu,Result.andThen,dQ (ρv x) hd hq,MapKept.run_getObj_map hh,MapKept.run_findKey (w:=w) hd hn,MapKept.run_setObj_map _ hh];simp only[Nat.zero_add]at hn;have hjl:j<c.size:=by rw[Array.getElem?_toList]at hy;exact(lZ.1 hy).1
 have ht:fH w {w with heap:=w.heap.setIfInBounds L.b (.map (c.eraseIdxIfInBounds j) clock)} L.b (.map (c.eraseIdxIfInBounds j) clock):=iA hh;obtain⟨ev,H'⟩:=H.writeM (es':=nN es b) hgk hL ht (by
  have:(c.eraseIdxIfInBounds j).toList=c.toList.eraseIdx j:=by unfold Array.eraseIdxIfInBounds;rw[dif_pos hjl,Array.toList_eraseIdx]
  rw[hdel,this];exact hall.eraseIdx j) (bs':=rY es bs b) (by
  have:(c.eraseIdxIfInBounds j).toList=c.toList.eraseIdx j:=by unfold Array.eraseIdxIfInBounds;rw[dif_pos hjl,Array.toList_eraseIdx]
  rw[this,hbd.1,<-hbo,wM])
 refine⟨.value (.tuple #[]),.tuple #[],_,ρ,O,?_,.inl rfl,ev,H',.tup [] #[] rfl (by intro i x y hx;simp at hx)⟩;rw[hrun];simp[builtin,Builtin.delete_,ht0,hm,run_underlying hu,Result.andThen,dQ (ρv x) hd hq,MapKept.run_getObj_map hh,MapKept.run_findKey (w:=w) hd hn,MapKept.run_setObj_map _ hh];cases h1
theorem aFy(hf:fitK P num o .rng=some l)(h1:op1 h k0 .rng vs=some (v,eff)):eC P num Fb B0 ρ w O h ρv o v eff:=by
 simp only[fitK]at hf;split at hf
 case h_2=>cases hf
 rename_i t x ho;split at hf
 case h_2=>cases hf
 rename_i kt et hu;cases hf;obtain⟨a,rfl,ha⟩:=hv.one;simp only[op1]at h1;split at h1
 case h_2=>cases h1
 rename_i k e;split at h1
 case h_2=>cases h1
 rename_i e' es bs ck hgk;split at h1
 case isFalse=>cases h1
 rename_i hc;subst hc;cases h1;obtain⟨L,hm,hL⟩:=ha.of_mp;obtain⟨c,hh,hall,hbo⟩:=H.all2M hgk hL;obtain⟨ev,H'⟩:=H.newI (k:=k0) hL (gJ w (.mapIter (some L.b) ck #[] ck));refine⟨_,.pointer (some ⟨w.heap.size,0,none⟩),_,_,_,?_,.inl rfl,ev,H',?_⟩
 ·simp only[execOp,ho,hm];simp[run_range_map w t kt et L.b c ck hu hh,Result.andThen]
  try rfl
 exact .pt _ _ 0 _ (Rho.set_same _ _ _ _)
theorem aFV(hf:fitK P num o .ent=some l)(h1:op1 h k0 .ent vs=some (v,eff)):eC P num Fb B0 ρ w O h ρv o v eff:=by
 simp only[fitK]at hf;split at hf
 case h_2=>cases hf
 rename_i x ho;cases hf;obtain⟨a,rfl,ha⟩:=hv.one;simp only[op1]at h1;split at h1
 case h_2=>cases h1
 rename_i k e off;split at h1
 case h_2=>cases h1
 rename_i e' mk me since seen last hgk;split at h1
 case isFalse=>cases h1
 rename_i hc;obtain⟨rfl,rfl⟩:=hc;split at h1
 case h_2=>cases h1
 rename_i s e2 es bs ck hs hgm;split at h1
 case isFalse=>cases h1
 rename_i hc;obtain⟨rfl,rfl⟩:=hc;split at h1
 case h_2=>cases h1
 rename_i a u hfb;cases h1;obtain⟨L,hp,hL⟩:=ha.of_pt;obtain⟨L1,Lm,q1,q2,q3,q4,q5,q6⟩:=H.ito _ _ _ _ _ _ _ hgk;rw[hL]at q1;cases q1;obtain⟨c,hh,hall,hbo⟩:=H.all2M hgm q2;obtain⟨y,y1,y2,y3⟩:=DB hall hbo hfb;have hfd:c.find? (·.born==s)=some y:=by rw[<-Array.find?_toList];exact y1
 have hbk:seen.toArray.back?=some s:=by simpa using hs
 refine .val H (cv:=.tuple #[y.key,y.val]) ?_ (.of_all2_tup (.cons y2 (.cons y3 .nil)));simp only[execOp,ho,hp,q4];simp only[Nat.zero_add,Instr.entry,getObj,Sem.run_bind,Sem.run,q3,hh,Result.andThen,hbk,bne_self_eq_false,Bool.false_eq_true,if_false,hfd];rfl
end
end
section
open Go.RowKit
theorem DC:∀{tb:List (Nat×Nat)}{t f:Nat},O9 tb t=some f->(t,f)∈tb
 |(u,g)::r,t,f,h=>by simp only[O9]at h;split at h;rename_i hu;cases h;subst hu;exact List.mem_cons_self;exact bT _ (DC h)
theorem LZ{P:Program}{t:TypeId}{name:String}{f:FuncId}{v:Value}{w:World}(n:Nat)(h:OW P t name f=true):(method (n+1) t v name).run P w = .ok (f,v) w:=by
 unfold OW at h;split at h
 case h_2=>cases h
 rename_i i hi;split at h
 case h_2=>cases h
 rename_i m hm;simp only[aD]at h;obtain⟨hp,hf⟩:=h;have hpl:m.path.toList=[]:=by simpa using hp
 have hti:(typeInfo t).run P w = .ok i w:=by simp[typeInfo,hi,Sem.run,Result.andThen]
 simp only[method,Sem.run_bind,hti,Result.andThen_ok,hm,hpl,follow,Sem.run_pure];split at hf;rename_i g e hfn hu;simp only[beq_iff_eq]at hf;subst hf;simp[hfn,receiverAt,run_underlying hu,Place.get];cases hf;rename_i g d hd hfn hu;simp only[beq_iff_eq]at hf;subst hf;simp only[hfn,receiverAt,Sem.run_bind,run_underlying hu,Result.andThen_ok];cases d<;>first
  |exact absurd hu (hd _ _)
  |simp[Place.get]
 cases hf
variable{P:Program}{num:Nm}{Fb:Nat->Prop}{B0:Nat}{ρ : Rho}{w:World}{O:Nat->Prop}{h:Hp}{ρv:Operand->Value}{o:Oper}{l:List Operand}{vs:List AV}{v:AV}{eff:Eff}{k0:Nat}
 (H:HpR num Fb B0 ρ w O h) (hv:aJ (Rv num ρ w (λb=>Fb b\/O b)) vs (l.map ρv))
include H hv
theorem aFH(t:Nat)(hf:fitK P num o (.mkT t)=some l)(h1:op1 h k0 (.mkT t) vs=some (v,eff)):eC P num Fb B0 ρ w O h ρv o v eff:=by
 simp only[fitK]at hf;split at hf;rename_i u x ho;obtain⟨hg,rfl⟩:=aL hf;simp only[aD,beq_iff_eq]at hg;obtain⟨a,rfl,ha⟩:=hv.one;simp only[op1]at h1;split at h1;obtain⟨rfl,rfl⟩:=bH h1;obtain⟨⟨g0,g1⟩,g2⟩:=hg;refine .val H (cv:=.iface (num t) (ρv x)) ?_ (.ift _ _ _ ha);rw[g0];cases hu:P.underlying u with
 |none=>simp[hu]at g2
 |some d=>simp only[qW,hu,fY]at g1;simp only[execOp,ho,Instr.makeInterface,Sem.run_bind,run_underlying hu,Result.andThen_ok];split;rename_i ms hd;cases hd;simp at g1;simp
 cases h1;cases hf
theorem aFI(f:Nat)(hf:fitK P num o (.mkM f)=some l)(h1:op1 h k0 (.mkM f) vs=some (v,eff)):eC P num Fb B0 ρ w O h ρv o v eff:=by
 simp only[fitK]at hf;split at hf;rename_i g first cap ho
 obtain⟨hg,rfl⟩:=aL hf;simp only[aD,beq_iff_eq]at hg;obtain⟨⟨rfl,hz⟩,h1s⟩:=hg;have hcp:cap = #[]:=by simpa using hz
 subst hcp;obtain⟨x,rfl⟩:∃x,first = #[x]:=by
  rcases first with ⟨l⟩
  match l,h1s with
  |[x],_=>exact⟨x,rfl⟩
 obtain⟨a,rfl,ha⟩:=hv.one;simp only[op1]at h1;obtain⟨rfl,rfl⟩:=bH h1;exact .val H (cv:=.func (.func (num f)) #[ρv x] #[]) (by simp[execOp,ho,Instr.makeFunc]) (.fnm _ _ _ ha);cases hf
theorem aFt(t:Nat)(no:List Nat)(zero:AV)(ok:Bool)(hf:fitK P num o (.tas t no zero ok)=some l)(h1:op1 h k0 (.tas t no zero ok) vs=some (v,eff)):eC P num Fb B0 ρ w O h ρv o v eff:=by
 simp only[fitK]at hf;split at hf
 case h_2=>cases hf
 rename_i x xT u ok' ho;obtain⟨hg,rfl⟩:=aL hf;simp only[aD,beq_iff_eq]at hg;obtain⟨⟨⟨⟨⟨hno,ht⟩,rfl⟩,hi⟩,hi2⟩,hz⟩:=hg;obtain⟨a,rfl,ha⟩:=hv.one
 obtain⟨i,hin,z,hzi,hzv⟩:∃i,P.info? u=some i/\∃z,i.zero=some z/\Rv num ρ w (λb=>Fb b\/O b) zero z:=by
  unfold fitZV at hz;split at hz
  case h_2=>cases hz
  rename_i i hi;split at hz
  case h_2=>cases hz
  rename_i z hz';exact⟨i,hi,z,hz',fitV_sound hz⟩
 have hzr:(zeroValue u).run P w = .ok z w:=by simp[zeroValue,typeInfo,hin,hzi,Sem.run,Result.andThen]
 obtain⟨d,hu,hd⟩:∃d,P.underlying u=some d/\∀ms,d ≠ .interface ms:=by
  cases hu:P.underlying u with
  |none=>simp[hu]at hi2
  |some d=>refine⟨d,rfl,λms hm=>?_⟩;simp[qW,hu,hm]at hi
 simp only[op1]at h1;split at h1;rename_i t' v';obtain⟨c',hx,hr⟩:=ha.of_ift;split at h1;rename_i htt;subst htt;obtain⟨rfl,rfl⟩:=bH h1;refine .val H (cv:=if ok then .tuple #[c',.bool true] else c') ?_ ?_;simp only[execOp,ho,hx,Instr.typeAssert,Sem.run_bind,run_underlying hu,Result.andThen_ok];cases d<;>first
  |exact absurd rfl (hd _)
  |simp[ht]
 cases ok;exact hr;exact .of_all2_tup (.cons hr (.cons (.bool _) .nil));rename_i htt;split at h1
 case isFalse=>cases h1
 rename_i hok;obtain⟨rfl,rfl⟩:=bH h1;simp only[aD]at hok;obtain⟨hok,hmem⟩:=hok;have hne:num t' ≠ u:=by have:=eK.1 hno t' (by simpa using hmem);simpa using this
 refine .val H (cv:=.tuple #[z,.bool false]) ?_ (.of_all2_tup (.cons hzv (.cons (.bool _) .nil)));simp only[execOp,ho,hx,Instr.typeAssert,Sem.run_bind,run_underlying hu,Result.andThen_ok];cases d<;>first
  |exact absurd rfl (hd _)
  |(simp[hok,hzr,hne])
 split at h1
 case isFalse=>cases h1
 rename_i hok;obtain⟨rfl,rfl⟩:=bH h1;have hx:=ha.of_nili;refine .val H (cv:=.tuple #[z,.bool false]) ?_ (.of_all2_tup (.cons hzv (.cons (.bool _) .nil)));simp only[execOp,ho,hx,Instr.typeAssert,Sem.run_bind,run_underlying hu,Result.andThen_ok];cases d<;>first
  |exact absurd rfl (hd _)
  |(simp[hok,hzr])
 cases h1
end
section
open Go.RowKit
section
variable{P:Program}{num:Nm}{Fb:Nat->Prop}{B0:Nat}{ρ : Rho}{w:World}{O:Nat->Prop}{h:Hp}{ρv:Operand->Value}{o:Oper}
def Ob.isBlk:Ob->Bool
 |.blk .. => true
 |_=>false
def SB(ρ : Rho)(h:Hp)(S:List Nat)(b:Nat):Prop:=∃k e o L,k∈S/\h.get k=some (e,o)/\o.isBlk=true /\ ρ k e=some L/\L.b=b
theorem gR{f:AV->Option (AV×List Nat)}:∀{l:List AV}{l':List AV}{s:List Nat},mapS f l=some (l',s) ->
  l'.length=l.length/\∀(i:Nat)(x:AV),l[i]?=some x->∃x' s',l'[i]?=some x'/\f x=some (x',s')/\∀k∈s',k∈s
 |[],l',s,h=>by simp[mapS]at h;obtain⟨rfl,rfl⟩:=h;exact⟨rfl,by intro i x hx;simp at hx⟩
 |y::r,l',s,h=>by
  unfold mapS at h;split at h;cases h;rename_i y' s1 hy;split at h;cases h;rename_i r' s2 hr;cases h;obtain⟨h1,h2⟩:=gR hr;refine⟨by simp[h1],?_⟩;intro i x hx;cases i with
  |zero=>simp at hx;subst hx;exact⟨y',s1,rfl,hy,λk hk=>List.mem_append_left _ hk⟩
  |succ i=>obtain⟨x',s',q1,q2,q3⟩:=h2 i x (by simpa using hx);exact⟨x',s',by simpa using q1,q2,λk hk=>List.mem_append_right _ (q3 k hk)⟩
theorem pM{d:Nat}{v t:AV}{s:List Nat}(hs:snap d h v=some (t,s)):t.isAgg=v.isAgg/\t.cells.length=v.cells.length:=by
 cases d with
 |zero=>simp[snap]at hs
 |succ d=>
  unfold snap at hs;split at hs;cases hs;exact⟨rfl,rfl⟩;split at hs;rename_i cs _;cases hm:mapS (snap d h) cs with
  |none=>simp[hm]at hs
  |some r=>simp[hm]at hs;obtain⟨rfl,_⟩:=hs;exact⟨rfl,(gR hm).1⟩
  rename_i cs _;cases hm:mapS (snap d h) cs<;>simp[hm]at hs;obtain⟨rfl,_⟩:=hs;exact⟨rfl,rfl⟩;rename_i nl es cl _;cases hm:mapS (snap d h) es<;>simp[hm]at hs;obtain⟨rfl,_⟩:=hs;exact⟨rfl,rfl⟩;rename_i v' _;cases hm:snap d h v'<;>simp[hm]at hs;obtain⟨rfl,_⟩:=hs;exact⟨rfl,rfl⟩;rename_i t' v' _;cases hm:snap d h v'<;>simp[hm]at hs;obtain⟨rfl,_⟩:=hs;exact⟨rfl,rfl⟩;rename_i t' v' _;cases hm:snap d h v'<;>simp[hm]at hs;obtain⟨rfl,_⟩:=hs;exact⟨rfl,rfl⟩;rename_i f cs _;cases hm:mapS (snap d h) cs<;>simp[hm]at hs;obtain⟨rfl,_⟩:=hs;exact⟨rfl,rfl⟩;split at hs;split at hs;split at hs;rename_i es _;cases hm:mapS (snap d h) es<;>simp[hm]at hs;obtain⟨rfl,_⟩:=hs;exact⟨rfl,rfl⟩;cases hs;cases hs;cases hs;split at hs;split at hs;split at hs;split at hs;cases hs;exact⟨rfl,rfl⟩;split at hs;split at hs;cases hs;cases hs;exact⟨rfl,rfl⟩;cases hs;cases hs;cases hs;cases hs;cases hs
theorem rE{esz:Nat}{ag:Bool}:∀{n:Nat}{cs es:List AV},jS esz ag n cs=some es ->
  es.length=n/\n*esz<=cs.length/\∀(i:Nat)(e:AV),es[i]?=some e->e.cells.length=esz/\e.isAgg=ag/\∀j:Nat,j<esz->e.cells[j]?=cs[i*esz+j]?
 |0,cs,es,h=>by simp[jS]at h;subst h;exact⟨rfl,by simp,by intro i e he;simp at he⟩
 |n+1,cs,es,h=>by
  unfold jS at h;split at h;rename_i hag;subst hag;split at h;cases h;rename_i hl;cases hc:jS esz true n (cs.drop esz) with
  |none=>simp[hc]at h
  |some r=>
   simp[hc]at h;subst h;obtain⟨h1,h2,h3⟩:=rE hc;simp at h2;refine⟨by simp[h1],by rw[Nat.add_mul];omega,?_⟩;intro i e he;cases i with
   |zero=>simp at he;subst he;refine⟨by simp[AV.cells];omega,rfl,λj hj=>by simp[AV.cells,List.getElem?_take,hj]⟩
   |succ i=>obtain⟨q1,q2,q3⟩:=h3 i e (by simpa using he);refine⟨q1,q2,λj hj=>?_⟩;rw[q3 j hj,List.getElem?_drop,Nat.add_mul];congr 1;omega
  rename_i hag;have hag':ag=false:=by simpa using hag
  subst hag';split at h;rename_i c r;split at h;cases h;rename_i hna;cases hc:jS 1 false n r with
  |none=>simp[hc]at h
  |some r'=>
   simp[hc]at h;subst h;obtain⟨h1,h2,h3⟩:=rE hc;have hcells:c.cells=[c]:=by cases c<;>first|rfl|simp[AV.isAgg]at hna
   refine⟨by simp[h1],by simp at h2 ⊢;omega,?_⟩;intro i e he;cases i with
   |zero=>
    simp at he;subst he;refine⟨by rw[hcells];rfl,by simpa using hna,λj hj=>?_⟩;have:j=0:=by omega
    subst this;rw[hcells];rfl
   |succ i=>
    obtain⟨q1,q2,q3⟩:=h3 i e (by simpa using he);refine⟨q1,q2,λj hj=>?_⟩;rw[q3 j hj];have:j=0:=by omega
    subst this;simp
  cases h
theorem vM{ρ0:Rho}{F F':Nat->Prop}{d:Nat}{e e':AV}{s:List Nat}{m:Nat->Value}(hs:snap d h e=some (e',s))
  (ih:∀c,Rv num ρ w F e c->Rv num ρ0 w F' e' c) (hm:∀(j:Nat)(x:AV),e.cells[j]?=some x->Rv num ρ w F x (m j)) :
  ∀(j:Nat)(x:AV),e'.cells[j]?=some x->Rv num ρ0 w F' x (m j):=by
 obtain⟨h1,h2⟩:=pM hs;cases he:e.isAgg with
 |true=>
  cases e<;>simp[AV.isAgg]at he;rename_i cs;rw[show (AV.agg cs).isAgg=true from rfl]at h1;cases e'<;>simp[AV.isAgg]at h1;rename_i cs';simp only[AV.cells]at h2 hm ⊢;have hr:Rv num ρ w F (.agg cs) (.agg ((List.range cs.length).map m).toArray):=by refine .agg _ _ (by simp) ?_;intro i x y hx hy;have hi:=(cF.1 hx).1;simp[hi]at hy;subst hy;exact hm i x hx
  obtain⟨vs,hvs,hl,hg⟩:=(ih _ hr).of_agg;cases hvs;intro j x hx;have hj:=(cF.1 hx).1;have hj':j<cs.length:=by omega
  exact hg j x (m j) hx (by simp[hj'])
 |false=>
  rw[he]at h1;have c1:e.cells=[e]:=by cases e<;>first|rfl|simp[AV.isAgg]at he
  have c2:e'.cells=[e']:=by cases e'<;>first|rfl|simp[AV.isAgg]at h1
  rw[c1]at hm;rw[c2];intro j x hx;cases j with
  |zero=>simp at hx;subst hx;exact ih _ (hm 0 e rfl)
  |succ j=>simp at hx
theorem dU(H:HpR num Fb B0 ρ w O h){ρ0:Rho}{F':Nat->Prop}(hF:∀b,F' b->Fb b\/O b):∀(d:Nat)(v t:AV)(s:List Nat)(c:Value),snap d h v=some (t,s) ->
  Rv num ρ w (λb=>Fb b\/O b) v c->(∀b,SB ρ h s b->¬F' b)->Rv num ρ0 w F' t c
 |0,_,_,_,_,hs,_,_=>by simp[snap]at hs
 |d+1,v,t,s,c,hs,hr,hS=>by
  unfold snap at hs;split at hs;rename_i ht;cases hs;exact hr.tree_mono ht hF;have hsub:∀(s':List Nat),(∀k∈s',k∈s)->∀b,SB ρ h s' b->¬F' b:=by intro s' hs' b hb;obtain⟨k,e,o,L,h1,h2⟩:=hb;exact hS b ⟨k,e,o,L,hs' k h1,h2⟩
  split at hs;rename_i cs _;cases hm:mapS (snap d h) cs with
  |none=>simp[hm]at hs
  |some r=>
   simp[hm]at hs;obtain⟨rfl,rfl⟩:=hs;obtain⟨vs,rfl,hl,hg⟩:=hr.of_agg;obtain⟨m1,m2⟩:=gR hm;refine .agg _ _ (by omega) ?_;intro i x y hx hy;have hi:i<cs.length:=by have:=(cF.1 hx).1;omega
   obtain⟨x',s',q1,q2,q3⟩:=m2 i cs[i] (by simp[hi]);rw[hx]at q1;cases q1;exact dU H hF d _ _ _ _ q2 (hg i _ y (by simp[hi]) hy) (hsub s' q3)
  rename_i cs _;cases hm:mapS (snap d h) cs with
  |none=>simp[hm]at hs
  |some r=>
   simp[hm]at hs;obtain⟨rfl,rfl⟩:=hs;obtain⟨vs,rfl,hl,hg⟩:=hr.of_tup;obtain⟨m1,m2⟩:=gR hm;refine .tup _ _ (by omega) ?_;intro i x y hx hy;have hi:i<cs.length:=by have:=(cF.1 hx).1;omega
   obtain⟨x',s',q1,q2,q3⟩:=m2 i cs[i] (by simp[hi]);rw[hx]at q1;cases q1;exact dU H hF d _ _ _ _ q2 (hg i _ y (by simp[hi]) hy) (hsub s' q3)
  rename_i nl es cl _;cases hm:mapS (snap d h) es with
  |none=>simp[hm]at hs
  |some r=>
   simp[hm]at hs;obtain⟨rfl,rfl⟩:=hs;obtain⟨m1,m2⟩:=gR hm;cases nl with
   |true=>obtain⟨rfl,rfl⟩:=hr.of_nsl;have:r.1=[]:=gU (by simpa using m1);rw[this];exact .nsl _
   |false=>
    obtain⟨b,off,cap,sz,m,sp,rfl,hsp,hc,hcl,hFF,hz,hm',hrr⟩:=hr.of_sl;rw[<-m1];rw[<-m1]at hc hcl hm';refine .sl r.1 cl b off cap sz m hc hcl ?_ ?_ hm' ?_ sp (λhne=>hsp (by intro q;subst q;exact hne (gU (by simpa using m1))));intro hne;have hne':es≠[]:=by intro q;subst q;exact hne (gU (by simpa using m1))
    exact⟨λq=>(hFF hne').1 (hF b q),(hFF hne').2⟩;intro i e' he';have hi:i<es.length:=by have:=(cF.1 he').1;omega
    obtain⟨x',s',q1,q2,q3⟩:=m2 i es[i] (by simp[hi]);rw[he']at q1;cases q1;rw[(pM q2).2];exact hz i _ (by simp[hi]);intro i e' j x he' hx;have hi:i<es.length:=by have:=(cF.1 he').1;omega
    obtain⟨x',s',q1,q2,q3⟩:=m2 i es[i] (by simp[hi]);rw[he']at q1;cases q1;exact vM (m:=λj=>m (i*sz+j)) q2 (λc hc'=>dU H hF d _ _ _ c q2 hc' (hsub s' q3)) (λj x hx=>hrr i _ j x (by simp[hi]) hx) j x hx
  rename_i v' _;cases hm:snap d h v' with
  |none=>simp[hm]at hs
  |some r=>simp[hm]at hs;obtain⟨rfl,rfl⟩:=hs;obtain⟨t',c',rfl,h2⟩:=hr.of_ifc;exact .ifc _ _ _ (dU H hF d _ _ _ _ hm h2 hS)
  rename_i t' v' _;cases hm:snap d h v' with
  |none=>simp[hm]at hs
  |some r=>simp[hm]at hs;obtain⟨rfl,rfl⟩:=hs;obtain⟨c',rfl,h2⟩:=hr.of_ift;exact .ift _ _ _ (dU H hF d _ _ _ _ hm h2 hS)
  rename_i t' v' _;cases hm:snap d h v' with
  |none=>simp[hm]at hs
  |some r=>simp[hm]at hs;obtain⟨rfl,rfl⟩:=hs;obtain⟨c',rfl,h2⟩:=hr.of_fnm;exact .fnm _ _ _ (dU H hF d _ _ _ _ hm h2 hS)
  rename_i f cs _;cases hm:mapS (snap d h) cs with
  |none=>simp[hm]at hs
  |some r=>
   simp[hm]at hs;obtain⟨rfl,rfl⟩:=hs;obtain⟨vs,rfl,hl,hg⟩:=hr.of_fn;obtain⟨m1,m2⟩:=gR hm;refine .fn _ _ _ (by omega) ?_;intro i x y hx hy;have hi:i<cs.length:=by have:=(cF.1 hx).1;omega
   obtain⟨x',s',q1,q2,q3⟩:=m2 i cs[i] (by simp[hi]);rw[hx]at q1;cases q1;exact dU H hF d _ _ _ _ q2 (hg i _ y (by simp[hi]) hy) (hsub s' q3)
  rename_i k e off len cap _;split at hs
  case h_2=>cases hs
  rename_i e' cs esz ag ti fz hgk;split at hs
  case isFalse=>cases hs
  rename_i he;subst he;split at hs
  case h_2=>cases hs
  rename_i es hch;cases hm:mapS (snap d h) es with
  |none=>simp[hm]at hs
  |some r=>
   simp[hm]at hs;obtain⟨rfl,rfl⟩:=hs;obtain⟨m1,m2⟩:=gR hm;obtain⟨c1,c2,c3⟩:=rE hch;obtain⟨cap',L,rfl,hL,hlc,hcc,htt,hrm⟩:=hr.of_rf;obtain⟨L0,cb,T,q1,q2,q3,q4,q5,q6,q7,q8,q9,q10⟩:=H.blk _ _ _ _ _ _ _ hgk;rw[hL]at q1;cases q1;have hnF:¬F' L.b:=hS L.b ⟨k,e',_,L,by simp,hgk,rfl,hL,rfl⟩;have hlt:L.b<w.heap.size:=H.loc_lt hgk (by simp) hL;have hrl:r.1.length=len:=by omega
   have hcell:∀n,n<len*esz->w.cell? ⟨L.b,L.base+off+n,none⟩=some (cb.getD (L.base+off+n) undef):=by
    intro n hn;simp at c2;have:L.base+off+n<cb.size:=by omega
    simp[World.cell?,q4,this]
   have key:=Rv.sl (num:=num) (ρ := ρ0) (w:=w) (F:=F') r.1 (ti&&len==cap) L.b (L.base+off) cap' esz (λn=>cb.getD (L.base+off+n) undef) (by omega)
    (λq=>by
     simp only[aD,beq_iff_eq]at q;have:=htt (by rw[q2];exact q.1);omega)
    (λ_=>⟨hnF,hlt⟩)
    (by
     intro i u hu;have hi:i<es.length:=by have:=(cF.1 hu).1;omega
     obtain⟨x',s',p1,p2,p3⟩:=m2 i es[i] (by simp[hi]);rw[hu]at p1;cases p1;rw[(pM p2).2];exact(c3 i _ (by simp[hi])).1)
    (by intro n hn;rw[hrl]at hn;exact hcell n hn)
    (by
     intro i u j x hu hx;have hi:i<es.length:=by have:=(cF.1 hu).1;omega
     obtain⟨x',s',p1,p2,p3⟩:=m2 i es[i] (by simp[hi]);rw[hu]at p1;cases p1;refine vM (m:=λj=>cb.getD (L.base+off+(i*esz+j)) undef) p2 (λc hc'=>dU H hF d _ _ _ c p2 hc' (hsub s' (λk hk=>bT _ (p3 k hk)))) ?_ j x hx;intro j x hx;obtain⟨d1,d2,d3⟩:=c3 i es[i] (by simp[hi]);have hj:j<esz:=by have:=(cF.1 hx).1;omega
     rw[d3 j hj,List.getElem?_drop]at hx;obtain⟨y,hy,hr'⟩:=q7 _ x hx;rw[<-Nat.add_assoc]at hy;simp[hy];exact hr')
   rw[hrl]at key;exact key none (λ_=>rfl)
  rename_i k e off _;split at hs
  case h_2=>cases hs
  rename_i e' cs esz ag ti fz hgk;split at hs
  case isFalse=>cases hs
  rename_i he;obtain⟨rfl,rfl,rfl⟩:=he;split at hs
  case h_2=>cases hs
  rename_i l s1 hm;obtain⟨m1,m2⟩:=gR hm;obtain⟨L,rfl,hL⟩:=hr.of_pt;obtain⟨L0,cb,T,q1,q2,q3,q4,q5,q6,q7,q8,q9,q10⟩:=H.blk _ _ _ _ _ _ _ hgk;rw[hL]at q1;cases q1;have hcell:∀n,n<cs.length->w.cell? ⟨L.b,L.base+0+n,none⟩=some (cb.getD (L.base+n) undef):=by
   intro n hn;have:L.base+n<cb.size:=by omega
   simp[World.cell?,q4,this]
  have hlt:L.b<w.heap.size:=H.loc_lt hgk (by simp) hL;have hval:∀(i:Nat)(x:AV),(∀k∈s1,k∈s)->l[i]?=some x->Rv num ρ0 w F' x (cb.getD (L.base+i) undef):=by
   intro i x hsub1 hx;have hi:i<cs.length:=by have:=(cF.1 hx).1;omega
   obtain⟨x',s',p1,p2,p3⟩:=m2 i cs[i] (by simp[hi]);rw[hx]at p1;cases p1;obtain⟨y,hy,hr'⟩:=q7 i cs[i] (by simp[hi]);have:cb.getD (L.base+i) undef=y:=by simp[hy]
   rw[this];exact dU H hF d _ _ _ y p2 hr' (hsub s' (λk hk=>hsub1 k (p3 k hk)))
  split at hs;cases hs;have hnF:¬F' L.b:=hS L.b ⟨k,e',_,L,by simp,hgk,rfl,hL,rfl⟩;refine .fp _ _ _ (λn=>cb.getD (L.base+n) undef) hnF hlt (λn hn=>hcell n (by simp[AV.cells]at hn;omega)) ?_;intro j x hx;exact hval j x (λk hk=>bT _ hk) hx;split at hs;rename_i v1;split at hs;cases hs;rename_i hna;cases hs;have hcells:v1.cells=[v1]:=by cases v1<;>first|rfl|simp[AV.isAgg]at hna
  have hnF:¬F' L.b:=hS L.b ⟨k,e',_,L,by simp,hgk,rfl,hL,rfl⟩;refine .fp _ _ _ (λn=>cb.getD (L.base+n) undef) hnF hlt (λn hn=>hcell n (by rw[hcells]at hn;simp at hn m1;omega)) ?_;intro j x hx;rw[hcells]at hx;exact hval j x (λk hk=>bT _ hk) hx;cases hs;cases hs
end
end
end Go.Tev
