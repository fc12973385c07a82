import Derived.Test.YtmcadllokkmeiaaGreatDoorBAD
import Derived.MapKept
import Derived.Maps.RangeRun
import Derived.Laws.Externs
import Derived.KernelRfl
set_option linter.all false
namespace Go.Tev
section
open Go.RowKit
def ER(num:Nm)(ρ : Rho)(w:World)(F:Nat->Prop)(a:AV×AV)(b:MapEntry):Prop:=
 Rv num ρ w F a.1 b.key/\Rv num ρ w F a.2 b.val/\a.1.key=true/\a.2.fits a.2.cells.length a.2.isAgg=true
def Y3(q:Nat)(d:TypeDesc):Prop:=(q=0/\∃k,d = .int k)\/(q=1/\d = .string)\/(q=2/\d = .bool)
theorem F2{P:Program}{t:TypeId}{q:Nat}(h:I9 P t q=true):∃d,P.underlying t=some d/\Y3 q d:=by
 match q,h with
 |0,h=>obtain⟨k,hk⟩:=F4 h;exact⟨_,hk,.inl ⟨rfl,k,rfl⟩⟩
 |1,h=>exact⟨_,nC h,.inr (.inl ⟨rfl,rfl⟩)⟩
 |2,h=>exact⟨_,BU h,.inr (.inr ⟨rfl,rfl⟩)⟩
 |n+3,h=>simp[I9]at h
theorem qO{q:Nat}{x:AV}(h:x.keyQ q=true):x.key=true:=by unfold AV.keyQ at h;split at h<;>first|rfl|cases h
theorem jC{P:Program}{w:World}{kt:TypeId}{d:TypeDesc}{q:Nat}(k:Value)(hd:P.underlying kt=some d)(hq:Y3 q d)(e:Bool):(Instr.checkKey e 10000 kt k).run P w = .ok () w:=by show (Instr.checkKey e (9999+1) kt k).run P w=_;unfold Instr.checkKey;simp only[Sem.run_bind,run_underlying hd,Result.andThen];rcases hq with ⟨_,j,rfl⟩|⟨_,rfl⟩|⟨_,rfl⟩<;>cases k<;>rfl
section
variable{num:Nm}{ρ : Rho}{w:World}{F:Nat->Prop}
theorem FI{d:TypeDesc}{q:Nat}{x y:AV}{cx cy:Value}{r:Bool}(hq:Y3 q d)(hx:x.keyQ q=true)(he:eq1 x y=some r)(rx:Rv num ρ w F x cx)(ry:Rv num ρ w F y cy) :
  Instr.sameNow d cx cy=some r/\(r=true->cx=cy):=by
 rcases hq with ⟨rfl,j,rfl⟩|⟨rfl,rfl⟩|⟨rfl,rfl⟩
 ·cases x<;>simp[AV.keyQ]at hx;cases y<;>simp only[eq1]at he<;>try (cases he;done)
  split at he
  case isFalse=>cases he
  rename_i hk;cases he;subst hk;rw[rx.of_int,ry.of_int];refine⟨by simp[Instr.sameNow,Bool.beq_eq_decide_eq],λh=>?_⟩;simp at h;rw[h]
 ·cases x<;>simp[AV.keyQ]at hx;cases y<;>simp only[eq1]at he<;>try (cases he;done)
  cases he;rename_i a b;rw[rx.of_str,ry.of_str];refine⟨?_,λh=>?_⟩;have:((⟨a.toArray⟩:ByteArray)==⟨b.toArray⟩)=decide (a=b):=by rw[Bool.eq_iff_iff,MapKept.bytes_beq];simp
  simp[Instr.sameNow,this];simp at h;rw[h]
 ·cases x<;>simp[AV.keyQ]at hx;cases y<;>simp only[eq1]at he<;>try (cases he;done)
  cases he;rw[rx.of_bool,ry.of_bool];refine⟨by simp[Instr.sameNow],λh=>?_⟩;simp at h;rw[h]
theorem oF{d:TypeDesc}{q:Nat}{x:AV}{cx:Value}(hq:Y3 q d)(hx:x.keyQ q=true)(rx:Rv num ρ w F x cx):∀(es:List (AV×AV))(cs:List MapEntry)(i:Nat)(r:Option AV),
  bA (ER num ρ w F) es cs->oL es x=some r ->
  (r=none/\Instr.findNow d cx cs i=some none/\(∀u,lJ es x u=es++[(x,u)])/\BR es x=es/\∀bs,KN es bs x=bs) \/
  ∃v j y,r=some v/\Instr.findNow d cx cs i=some (some (i+j,y.val))/\j<es.length/\cs[j]?=some y/\y.key=cx/\Rv num ρ w F v y.val/\(∀u,lJ es x u=es.set j (x,u))/\BR es x=es.eraseIdx j/\(∀bs,KN es bs x=bs.eraseIdx j)/\(∀bs b,CJ es bs x=some b->bs[j]?=some b)/\v.fits v.cells.length v.isAgg=true
 |[],_,i,r,h,hf=>by cases h;simp only[oL,cF]at hf;exact .inl ⟨hf.symm,rfl,λu=>rfl,rfl,λbs=>rfl⟩
 |(k,v)::es,_,i,r,h,hf=>by
  cases h with
  |cons h1 h2=>
   rename_i b cs;simp only[oL]at hf;split at hf;rename_i he;cases hf;obtain⟨s1,s2⟩:=FI hq hx he rx h1.1;refine .inr ⟨v,0,b,rfl,?_,by simp,rfl,(s2 rfl).symm,h1.2.1,λu=>by simp[lJ,he],by simp[BR,he],λbs=>by cases bs<;>simp[KN,he],(λbs b hb=>by cases bs<;>simp[CJ,he]at hb ⊢;exact hb),h1.2.2.2⟩;simp[Instr.findNow,s1];rename_i he;obtain⟨s1,_⟩:=FI hq hx he rx h1.1;rcases oF hq hx rx es cs (i+1) r h2 hf with ⟨a1,a2,a3,a4,a9⟩|⟨v',j,y,a1,a2,a3,a4,a5,a6,a7,a8,a9,a10,a11⟩
   refine .inl ⟨a1,by simp[Instr.findNow,s1,a2],λu=>by simp[lJ,he,a3],by simp[BR,he,a4],λbs=>by cases bs<;>simp[KN,he,a9]⟩;refine .inr ⟨v',j+1,y,a1,by simp[Instr.findNow,s1,a2];omega,by simp;omega,by simpa using a4,a5,a6,λu=>by simp[lJ,he,a7],by simp[BR,he,a8],(λbs=>by cases bs<;>simp[KN,he,a9]),(λbs b hb=>by cases bs<;>simp[CJ,he]at hb ⊢;exact a10 _ _ hb),a11⟩;cases hf
end
section
variable{num:Nm}{Fb:Nat->Prop}{B0:Nat}{ρ : Rho}{w w':World}{O:Nat->Prop}{h:Hp}
theorem ER.evo{ρ':Rho}{O':Nat->Prop}{a:AV×AV}{b:MapEntry}(hh:ER num ρ w (λb=>Fb b\/O b) a b)(ev:Evo ρ w O ρ' w' O'):ER num ρ' w' (λb=>Fb b\/O' b) a b:=
 ⟨hh.1.evo ev,hh.2.1.evo ev,hh.2.2⟩
theorem HpR.newM{k:Nat}(H:HpR num Fb B0 ρ w O h)(hp:mF w w' (.map #[] 0)) :
  Evo ρ w O (ρ.set k (h.next k) ⟨w.heap.size,0,0,false,0⟩) w' (λb=>O b\/b=w.heap.size) /\
  HpR num Fb B0 (ρ.set k (h.next k) ⟨w.heap.size,0,0,false,0⟩) w' (λb=>O b\/b=w.heap.size) (h.put k (h.next k) (.mpo [] [] 0)):=by
 have hf:=nZ H k
 have ev:Evo ρ w O (ρ.set k (h.next k) ⟨w.heap.size,0,0,false,0⟩) w' (λb=>O b\/b=w.heap.size):=
  {os:=hp.os,tape:=hp.tape,output:=hp.output,size:=by rw[hp.size];omega,
   keep:=λb hb _=>hp.old hb,own:=λb hb hO=>hO.elim id (λe=>by omega),rho:=Rho.set_keeps hf}
 refine⟨ev,H.put ev ?_ (tZ h k) ?_ ?_ ?_ ?_⟩;intro k' e' L hL;unfold Rho.set at hL;split at hL;rename_i hc;exact .inr hc;exact .inl hL;intro b hO;rw[hp.size];rcases hO with hO|rfl;exact⟨(H.own b hO).1,Nat.lt_of_lt_of_le (H.own b hO).2 (by omega)⟩;exact⟨H.le,by omega⟩;intro k' e' o' L hk hg hd hL;exact⟨hp.old (H.loc_lt hg hd hL),.inl⟩;refine⟨_,#[],0,Rho.set_same _ _ _ _,hp.new,⟨rfl,rfl,rfl⟩,?_,H.le,.inr rfl⟩;intro i x y hx;simp at hx;intro _ k' e' o' L L' hk hg hl hL' hL hb;rw[Rho.set_same]at hL;cases hL;have:=H.loc_lt hg (by intro e;subst e;cases hl) hL';simp at hb;omega
theorem HpR.writeM{k e:Nat}{es es':List (AV×AV)}{bs bs':List Nat}{ck:Nat}{L:Loc}{c':Array MapEntry}{clock':Nat}(H:HpR num Fb B0 ρ w O h)
  (hg:h.get k=some (e,.mpo es bs ck)) (hL : ρ k e=some L) (ht:j7 w w' L.b (.map c' clock')) (hc:bA (ER num ρ w (λb=>Fb b\/O b)) es' c'.toList) (hb:c'.toList.map MapEntry.born=bs') :
  Evo ρ w O ρ w' O/\HpR num Fb B0 ρ w' O (h.put k e (.mpo es' bs' clock')):=by
 obtain⟨L0,c,clock,h1,h2,h3,h4,h5,h6⟩:=H.mpo _ _ _ _ _ hg;rw[h1]at hL;cases hL;have ev:Evo ρ w O ρ w' O:=ht.evo h6;refine⟨ev,H.put ev (λ_ _ _ h => .inl h) (λe0 o0 g=>by rw[hg]at g;cases g;exact aX _) ?_ ?_ ?_ ?_⟩;intro b hO;rw[ht.size];exact H.own b hO;intro k' e' o' L' hk hg' hd hL';exact⟨ht.other _ (lB H hg rfl h1 hk hg' hd hL'),id⟩;refine⟨L,c',clock',h1,ht.here,⟨by simpa using hc.length,rfl,hb⟩,?_,h5,h6⟩;intro i x y hx hy;exact(hc.get i x y hx (by rw[Array.getElem?_toList];exact hy)).evo ev;intro _ k' e' o' L1 L2 hk hg' hl hL' hL1 hb;rw[h1]at hL1;cases hL1;exact lB H hg rfl h1 hk hg' (by intro e;subst e;cases hl) hL' hb.symm
theorem HpR.all2M{k e:Nat}{es:List (AV×AV)}{bs:List Nat}{ck:Nat}(H:HpR num Fb B0 ρ w O h){L:Loc}(hg:h.get k=some (e,.mpo es bs ck))(hL : ρ k e=some L) :
  ∃(c:Array MapEntry),w.heap[L.b]?=some (.map c ck)/\bA (ER num ρ w (λb=>Fb b\/O b)) es c.toList/\c.toList.map MapEntry.born=bs:=by
 obtain⟨L0,c,clock,h1,h2,h3,h4,h5,h6⟩:=H.mpo _ _ _ _ _ hg;rw[h1]at hL;cases hL;obtain⟨h3,rfl,h7⟩:=h3;exact⟨c,h2,bA.of_get (by simpa using h3) (λi x y hx hy=>h4 i x y hx (by rw[Array.getElem?_toList]at hy;exact hy)),h7⟩
theorem nR{b:Nat}{o o':Obj}(hb:w.heap[b]?=some o):j7 w {w with heap:=w.heap.setIfInBounds b o'} b o':=
 ⟨rfl,rfl,rfl,by simp,(MapKept.heap_set hb).1,λk hk=>(MapKept.heap_set hb).2 k hk⟩
end
theorem bA.set{α β : Type}{R : α -> β -> Prop}:∀{l:List α}{m:List β}(j:Nat){a : α}{b : β},bA R l m->R a b->bA R (l.set j a) (m.set j b)
 |_,_,_,_,_,.nil,_ => .nil
 |_,_,0,_,_,.cons _ h2,h => .cons h h2
 |_,_,j+1,_,_,.cons h1 h2,h => .cons h1 (h2.set j h)
theorem bA.eraseIdx{α β : Type}{R : α -> β -> Prop}:∀{l:List α}{m:List β}(j:Nat),bA R l m->bA R (l.eraseIdx j) (m.eraseIdx j)
 |_,_,_,.nil => .nil
 |_,_,0,.cons _ h2=>h2
 |_,_,j+1,.cons h1 h2 => .cons h1 (h2.eraseIdx j)
theorem JL{num:Nm}{ρ : Rho}{w:World}{F:Nat->Prop}{s:Nat}:∀{es:List (AV×AV)}{bs:List Nat}{cs:List MapEntry}{a u:AV},bA (ER num ρ w F) es cs->cs.map MapEntry.born=bs->wH es bs s=some (a,u) ->
  ∃y,cs.find? (·.born==s)=some y/\Rv num ρ w F a y.key/\Rv num ρ w F u y.val
 |_,_,_,a,u,.nil,hb,hf=>by subst hb;simp[wH]at hf
 |_,_,_,a,u,.cons (b:=y) (m:=cs) h1 h2,hb,hf=>by subst hb;simp only[List.map_cons,wH]at hf;by_cases hs:y.born=s;rw[if_pos hs]at hf;cases hf;exact⟨y,by simp[hs],h1.1,h1.2.1⟩;rw[if_neg hs]at hf;obtain⟨z,z1,z2⟩:=JL h2 rfl hf;exact⟨z,by simp[hs,z1],z2⟩
theorem PD{num:Nm}{ρ : Rho}{w:World}{F:Nat->Prop}{s:Nat}(v:AV):∀{es:List (AV×AV)}{bs:List Nat}{cs:List MapEntry}{p:AV×AV},bA (ER num ρ w F) es cs->cs.map MapEntry.born=bs->wH es bs s=some p ->
  ∃(j:Nat)(y:MapEntry),cs.findIdx? (λe=>(e.born:Int)==(s:Int))=some j/\cs[j]?=some y/\TI es bs s v=es.set j (p.1,v)/\Rv num ρ w F p.1 y.key/\p.1.key=true
 |_,_,_,p,.nil,hb,hf=>by subst hb;simp[wH]at hf
 |_,_,_,p,.cons (a:=x) (b:=y) (m:=cs) h1 h2,hb,hf=>by
  subst hb;obtain⟨a,u⟩:=x;simp only[List.map_cons,wH]at hf;by_cases hs:y.born=s;rw[if_pos hs]at hf;cases hf;refine⟨0,y,?_,rfl,by simp[TI,hs],h1.1,h1.2.2.1⟩;rw[List.findIdx?_cons,if_pos (by simp[hs])];rw[if_neg hs]at hf;obtain⟨j,z,z1,z2,z3,z4⟩:=PD v h2 rfl hf;have hs':¬(y.born:Int)=(s:Int):=by omega
  refine⟨j+1,z,?_,by simpa using z2,by simp[TI,hs,z3],z4⟩;rw[List.findIdx?_cons,if_neg (by simpa using hs'),z1];rfl
theorem FX{c:Array MapEntry}{j:Nat}{y:MapEntry}(f:MapEntry->MapEntry)(hy:c.toList[j]?=some y):(c.modify j f).toList=c.toList.set j (f y):=by
 have hyk:c[j]?=some y:=by rw[Array.getElem?_toList]at hy;exact hy
 apply List.ext_getElem?;intro i;simp only[Array.getElem?_toList,Array.getElem?_modify,List.getElem?_set];by_cases hij:j=i;subst hij;have hlt:j<c.size:=(rU.1 hyk).1;have hcj:c[j]=y:=by have:=Array.getElem?_eq_getElem hlt;rw[this]at hyk;exact Option.some.inj hyk
 simp[hlt,hcj];simp[hij]
theorem IH{c:List MapEntry}{j:Nat}{y z:MapEntry}(hy:c[j]?=some y)(hz:z.born=y.born):(c.set j z).map MapEntry.born=c.map MapEntry.born:=by rw[List.map_set];apply List.ext_getElem?;intro i;rw[List.getElem?_set];split;rename_i hij;subst hij;split;simp[hy,hz];rename_i hlt;rw[eK (by simpa using hlt)];rfl
theorem zP{num:Nm}{ρ : Rho}{w:World}{F:Nat->Prop}{x:AV}{c:Value}(h:Rv num ρ w F x c)(hx:x.key=true):Instr.sameBits 10000 c c=true:=by cases x<;>simp[AV.key]at hx;rw[h.of_bool];simp[Instr.sameBits];rw[h.of_int];simp[Instr.sameBits];rw[h.of_str];simp only[Instr.sameBits];rw[MapKept.bytes_beq]
def OS:Array Value->Sem Value:=λargs=>do
 let (x,y,b) <-Extern.MathBitsCarry.three "Sub64" args
 pure (Extern.MathBitsCarry.pair ((x+Extern.MathBitsCarry.m64-y-b) % Extern.MathBitsCarry.m64) (if x<y+b then 1 else 0))
theorem K0{P:Program}(x y b:Nat)(hb:b<=1)(w:World) :
  (OS #[.int .u64 x,.int .u64 y,.int .u64 b]).run P w = .ok (.tuple #[.int .u64 (((x+18446744073709551616-y-b) % 18446744073709551616:Nat):Int),.int .u64 ((if x<y+b then 1 else 0:Nat):Int)]) w:=by
 have:b=0\/b=1:=by omega
 rcases this with rfl|rfl<;>rfl
section
variable{P:Program}{num:Nm}{Fb:Nat->Prop}{B0:Nat}{ρ : Rho}{w:World}{O:Nat->Prop}{h:Hp}{ρv:Operand->Value}{o:Oper}
variable(H:HpR num Fb B0 ρ w O h)
variable{k0:Nat}{l:List Operand}{vs:List AV}{v:AV}{eff:Eff}
variable(hv:bA (Rv num ρ w (λb=>Fb b\/O b)) vs (l.map ρv))
include H hv
theorem aIW(hf:fitK P num o .mkm=some l)(h1:op1 h k0 .mkm vs=some (v,eff)):iK P num Fb B0 ρ w O h ρv o v eff:=by
 simp only[fitK]at hf;split at hf
 case h_2=>cases hf
 rename_i t ho;cases hf;cases hv;simp only[op1,sS,cF,cQ]at h1;obtain⟨rfl,rfl⟩:=h1;obtain⟨ev,H'⟩:=H.newM (k:=k0) (j2 w (.map #[] 0));refine⟨_,.map (some w.heap.size),_,_,_,?_,.inl rfl,ev,H',?_⟩;simp only[execOp,ho,Option.map_none];rfl;exact .mp _ _ _ (Rho.set_same _ _ _ _)
theorem aIU(q:Nat)(zero:AV)(ok:Bool)(hf:fitK P num o (.mlk q zero ok)=some l)(h1:op1 h k0 (.mlk q zero ok) vs=some (v,eff)):iK P num Fb B0 ρ w O h ρv o v eff:=by
 simp only[fitK]at hf;split at hf
 case h_2=>cases hf
 rename_i t m x ok' ho;split at hf
 case h_2=>cases hf
 rename_i kt et hu;obtain⟨hg,rfl⟩:=bT hf;simp only[aF,beq_iff_eq]at hg;obtain⟨⟨rfl,hk⟩,hz⟩:=hg;obtain⟨a,b,rfl,ha,hb⟩:=hv.two;obtain⟨d,hd,hq⟩:=F2 hk
 obtain⟨z,hzr,hzv⟩:∃z,(zeroValue et).run P w = .ok z w/\Rv num ρ w (λb=>Fb b\/O b) zero z:=by
  unfold fitZV at hz;split at hz
  case h_2=>cases hz
  rename_i i hi;split at hz
  case h_2=>cases hz
  rename_i z hz';refine⟨z,?_,fitV_sound hz⟩;simp[zeroValue,typeInfo,hi,hz',Sem.run,Result.andThen]
 have fin:∀(v1:AV)(c1:Value)(b1:Bool),Rv num ρ w (λb=>Fb b\/O b) v1 c1->Rv num ρ w (λb=>Fb b\/O b) (if ok then .tup [v1,.bool b1] else v1) (if ok then .tuple #[c1,.bool b1] else c1):=by intro v1 c1 b1 hr;cases ok;exact hr;exact .of_all2_tup (.cons hr (.cons (.bool _) .nil))
 simp only[op1]at h1;split at h1;split at h1
 case isFalse=>cases h1
 rename_i hx;obtain⟨rfl,rfl⟩:=eB h1;have hm:=ha.of_nilm;refine .val H (cv:=if ok then .tuple #[z,.bool false] else z) ?_ (fin _ _ _ hzv);simp only[execOp,ho,hm];simp[Instr.lookup,run_underlying hu,Result.andThen,jC (ρv x) hd hq,MapKept.run_findKey (w:=w) hd (show Instr.findNow d (ρv x) [] 0=some none from rfl),hzr];split at h1
 case h_2=>cases h1
 rename_i k e e' es _ _ hgk;split at h1
 case isFalse=>cases h1
 rename_i hc;obtain⟨rfl,hx⟩:=hc;obtain⟨L,hm,hL⟩:=ha.of_mp;obtain⟨c,hh,hall,_⟩:=H.all2M hgk hL;split at h1;rename_i v1 hfd;cases h1;rcases oF hq hx hb es c.toList 0 _ hall hfd with ⟨h0,_⟩|⟨v',j,y,h0,hn,_,_,_,hr,_⟩
 cases h0;cases h0;refine .val H (cv:=if ok then .tuple #[y.val,.bool true] else y.val) ?_ (fin _ _ _ hr);simp only[execOp,ho,hm];simp[Instr.lookup,run_underlying hu,Result.andThen,jC (ρv x) hd hq,MapKept.run_getObj_map hh,MapKept.run_findKey (w:=w) hd hn];rename_i hfd;cases h1;rcases oF hq hx hb es c.toList 0 _ hall hfd with ⟨_,hn,_⟩|⟨v',j,y,h0,_⟩
 refine .val H (cv:=if ok then .tuple #[z,.bool false] else z) ?_ (fin _ _ _ hzv);simp only[execOp,ho,hm];simp[Instr.lookup,run_underlying hu,Result.andThen,jC (ρv x) hd hq,MapKept.run_getObj_map hh,MapKept.run_findKey (w:=w) hd hn,hzr];cases h0;cases h1;cases h1
theorem aIS(q:Nat)(hf:fitK P num o (.mup q)=some l)(h1:op1 h k0 (.mup q) vs=some (v,eff)):iK P num Fb B0 ρ w O h ρv o v eff:=by
 simp only[fitK]at hf;split at hf
 case h_2=>cases hf
 rename_i t m x y ho;split at hf
 case h_2=>cases hf
 rename_i kt et hu;obtain⟨hk,rfl⟩:=bT hf;obtain⟨a,b,c0,rfl,ha,hb,hc0⟩:=hv.three;obtain⟨d,hd,hq⟩:=F2 hk;simp only[op1]at h1;split at h1
 case h_2=>cases h1
 rename_i k e;split at h1
 case h_2=>cases h1
 rename_i e' es bs clock hgk;split at h1
 case isFalse=>cases h1
 rename_i hc;obtain⟨rfl,hx,hfit⟩:=hc;split at h1
 case h_2=>cases h1
 rename_i r hfd;cases h1;obtain⟨L,hm,hL⟩:=ha.of_mp;obtain⟨c,hh,hall,hbo⟩:=H.all2M hgk hL;have hex:∀w',(Instr.mapUpdate t (ρv m) (ρv x) (ρv y)).run P w = .ok () w'->(execOp ρv o).run P w = .ok .skip w':=by intro w' hr;unfold aJA at ho;split at ho;rename_i e1;cases ho;simp only[execOp,e1];simp[hr,Result.andThen];rename_i e1;cases ho;simp only[execOp,e1];simp[hr,Result.andThen];cases ho
 have her:ER num ρ w (λb=>Fb b\/O b) (b,c0) {key := ρv x,val := ρv y,born:=0}:=⟨hb,hc0,qO hx,hfit⟩
 rcases oF hq hx hb es c.toList 0 _ hall hfd with ⟨rfl,hn,hset,_⟩|⟨v',j,y',rfl,hn,hj,hy,hkey,_,hset,_⟩
 have ht:j7 w {w with heap:=w.heap.setIfInBounds L.b (.map (c.push {key := ρv x,val := ρv y,born:=clock}) (clock+1))} L.b (.map (c.push {key := ρv x,val := ρv y,born:=clock}) (clock+1)):=nR hh;obtain⟨ev,H'⟩:=H.writeM (es':=lJ es b c0) hgk hL ht (by
  rw[hset,Array.toList_push];exact hall.append (.cons ⟨hb,hc0,qO hx,hfit⟩ .nil)) (bs':=bs++[clock]) (by rw[Array.toList_push,List.map_append,hbo];rfl)
 refine⟨.skip,undef,_,ρ,O,hex _ ?_,.inr ⟨rfl,rfl⟩,ev,H',.tup [] #[] rfl (by intro i x y hx;simp at hx)⟩;rw[hm];simp[Instr.mapUpdate,run_underlying hu,Result.andThen,jC (ρv x) hd hq,MapKept.run_getObj_map hh,MapKept.run_findKey (w:=w) hd hn,MapKept.run_setObj_map _ hh];simp only[bF]at hn;have hyk:c[j]?=some y':=by rw[Array.getElem?_toList]at hy;exact hy
 have ht:j7 w {w with heap:=w.heap.setIfInBounds L.b (.map (c.modify j λe=>{e with key := ρv x,val := ρv y}) clock)} L.b (.map (c.modify j λe=>{e with key := ρv x,val := ρv y}) clock):=nR hh
 have hl:(c.modify j λe=>{e with key := ρv x,val := ρv y}).toList=c.toList.set j {y' with key := ρv x,val := ρv y}:=by
  apply List.ext_getElem?;intro i;simp only[Array.getElem?_toList,Array.getElem?_modify,List.getElem?_set];by_cases hij:j=i;subst hij;have hlt:j<c.size:=(rU.1 hyk).1;have hcj:c[j]=y':=by have:=Array.getElem?_eq_getElem hlt;rw[this]at hyk;exact Option.some.inj hyk
  simp[hlt,hcj];simp[hij]
 obtain⟨ev,H'⟩:=H.writeM (es':=lJ es b c0) hgk hL ht (by
  rw[hset,hl];exact hall.set j ⟨hb,hc0,qO hx,hfit⟩) (bs':=bs) (by
  rw[hl,List.map_set,<-hbo];apply List.ext_getElem?;intro i;rw[List.getElem?_set];split;rename_i hij;subst hij;split;simp[hy];rename_i hlt;rw[eK (by simpa using hlt)];rfl)
 refine⟨.skip,undef,_,ρ,O,hex _ ?_,.inr ⟨rfl,rfl⟩,ev,H',.tup [] #[] rfl (by intro i x y hx;simp at hx)⟩;rw[hm];have hsb:(Instr.keyThatStays (((c[j]?).map (·.key)).getD (ρv x)) (ρv x)).run P w = .ok (ρv x) w:=by rw[hyk];simp only[Option.map_some,Option.getD_some,hkey];simp[Instr.keyThatStays,zP hb (qO hx)]
 simp[Instr.mapUpdate,run_underlying hu,Result.andThen,jC (ρv x) hd hq,MapKept.run_getObj_map hh,MapKept.run_findKey (w:=w) hd hn,MapKept.run_setObj_map _ hh,hsb]
theorem aJa(q:Nat)(zero:AV)(hf:fitK P num o (.men q zero)=some l)(h1:op1 h k0 (.men q zero) vs=some (v,eff)):iK P num Fb B0 ρ w O h ρv o v eff:=by
 simp only[fitK]at hf;split at hf
 case h_2=>cases hf
 rename_i t m x ho;split at hf
 case h_2=>cases hf
 rename_i kt et hu;obtain⟨hg,rfl⟩:=bT hf;simp only[aF]at hg;obtain⟨hk,hz⟩:=hg;obtain⟨a,b,rfl,ha,hb⟩:=hv.two;obtain⟨d,hd,hq⟩:=F2 hk
 obtain⟨z,hzr,hzv⟩:∃z,(zeroValue et).run P w = .ok z w/\Rv num ρ w (λb=>Fb b\/O b) zero z:=by
  unfold fitZV at hz;split at hz
  case h_2=>cases hz
  rename_i i hi;split at hz
  case h_2=>cases hz
  rename_i z hz';refine⟨z,?_,fitV_sound hz⟩;simp[zeroValue,typeInfo,hi,hz',Sem.run,Result.andThen]
 simp only[op1]at h1;split at h1
 case h_2=>cases h1
 rename_i k e;split at h1
 case h_2=>cases h1
 rename_i e' es bs clock hgk;split at h1
 case isFalse=>cases h1
 rename_i hc;obtain⟨rfl,hx,hfit⟩:=hc;obtain⟨L,hm,hL⟩:=ha.of_mp;obtain⟨c,hh,hall,hbo⟩:=H.all2M hgk hL;have hex:∀cv w',(Instr.mapEntry t (ρv m) (ρv x)).run P w = .ok cv w'->(execOp ρv o).run P w = .ok (.value cv) w':=by intro cv w' hr;simp only[execOp,ho];simp[hr,Result.andThen]
 split at h1;rename_i v1 hfd;split at h1
 case h_2=>cases h1
 rename_i b1 hbn;cases h1;rcases oF hq hx hb es c.toList 0 _ hall hfd with ⟨h0,_⟩|⟨v',j,y,h0,hn,hj,hy,hkey,hr,hset,_,_,hb2,hfv⟩
 cases h0;cases h0;simp only[bF]at hn;have hyk:c[j]?=some y:=by rw[Array.getElem?_toList]at hy;exact hy
 obtain rfl:b1=y.born:=by have:=hb2 _ _ hbn;rw[<-hbo,fX,hy]at this;exact(Option.some.inj this).symm
 have ht:j7 w {w with heap:=w.heap.setIfInBounds L.b (.map (c.modify j λe=>{e with key := ρv x}) clock)} L.b (.map (c.modify j λe=>{e with key := ρv x}) clock):=nR hh;have hl:=FX (λe:MapEntry=>{e with key := ρv x}) hy;obtain⟨ev,H'⟩:=H.writeM (es':=lJ es b v1) hgk hL ht (by
  rw[hset,hl];exact hall.set j ⟨hb,hr,qO hx,hfv⟩) (bs':=bs) (by rw[hl];exact(IH (z:={y with key := ρv x}) hy rfl).trans hbo)
 refine⟨_,.tuple #[y.val,.int .i64 y.born],_,ρ,O,hex _ _ ?_,.inl rfl,ev,H',(Rv.of_all2_tup (.cons hr (.cons (.int _ _) .nil))).evo ev⟩;rw[hm];have hsb:(Instr.keyThatStays y.key (ρv x)).run P w = .ok (ρv x) w:=by rw[hkey];simp[Instr.keyThatStays,zP hb (qO hx)]
 simp[Instr.mapEntry,run_underlying hu,Result.andThen,jC (ρv x) hd hq,MapKept.run_getObj_map hh,MapKept.run_findKey (w:=w) hd hn,MapKept.run_setObj_map _ hh,hsb,hyk,goInt];rename_i hfd;cases h1;rcases oF hq hx hb es c.toList 0 _ hall hfd with ⟨_,hn,hset,_⟩|⟨v',j,y,h0,_⟩
 have ht:j7 w {w with heap:=w.heap.setIfInBounds L.b (.map (c.push {key := ρv x,val:=z,born:=clock}) (clock+1))} L.b (.map (c.push {key := ρv x,val:=z,born:=clock}) (clock+1)):=nR hh;obtain⟨ev,H'⟩:=H.writeM (es':=lJ es b zero) hgk hL ht (by
  rw[hset,Array.toList_push];exact hall.append (.cons ⟨hb,hzv,qO hx,hfit⟩ .nil)) (bs':=bs++[clock]) (by rw[Array.toList_push,List.map_append,hbo];rfl)
 refine⟨_,.tuple #[z,.int .i64 clock],_,ρ,O,hex _ _ ?_,.inl rfl,ev,H',(Rv.of_all2_tup (.cons hzv (.cons (.int _ _) .nil))).evo ev⟩;rw[hm];simp[Instr.mapEntry,run_underlying hu,Result.andThen,jC (ρv x) hd hq,MapKept.run_getObj_map hh,MapKept.run_findKey (w:=w) hd hn,MapKept.run_setObj_map _ hh,hzr,goInt];cases h0;cases h1
theorem aIZ(hf:fitK P num o .mes=some l)(h1:op1 h k0 .mes vs=some (v,eff)):iK P num Fb B0 ρ w O h ρv o v eff:=by
 simp only[fitK]at hf;split at hf
 case h_2=>cases hf
 rename_i t m s x ho;cases hf;obtain⟨a,b,c0,rfl,ha,hb,hc0⟩:=hv.three;simp only[op1]at h1;split at h1
 case h_2=>cases h1
 rename_i k e;split at h1
 case h_2=>cases h1
 rename_i ik n;split at h1
 case h_2=>cases h1
 rename_i e' es bs clock hgk;split at h1
 case isFalse=>cases h1
 rename_i hc;obtain⟨rfl,hfit,hn0⟩:=hc;split at h1
 case h_2=>cases h1
 rename_i p hfd;cases h1;obtain⟨u,rfl⟩:=jN hn0;rw[dU]at hfd ⊢;obtain⟨L,hm,hL⟩:=ha.of_mp;obtain⟨c,hh,hall,hbo⟩:=H.all2M hgk hL;obtain⟨j,y,s1,s2,s3,s4,s5⟩:=PD c0 hall hbo hfd;have hj:c.findIdx? (λe=>(e.born:Int)==(u:Int))=some j:=by rw[<-Array.toArray_toList (xs:=c),List.findIdx?_toArray];exact s1
 have ht:j7 w {w with heap:=w.heap.setIfInBounds L.b (.map (c.modify j λe=>{e with val := ρv x}) clock)} L.b (.map (c.modify j λe=>{e with val := ρv x}) clock):=nR hh;have hl:=FX (λe:MapEntry=>{e with val := ρv x}) s2;obtain⟨ev,H'⟩:=H.writeM (es':=TI es bs u c0) hgk hL ht (by
  rw[s3,hl];exact hall.set j ⟨s4,hc0,s5,hfit⟩) (bs':=bs) (by rw[hl];exact(IH (z:={y with val := ρv x}) s2 rfl).trans hbo)
 refine⟨.skip,undef,_,ρ,O,?_,.inr ⟨rfl,rfl⟩,ev,H',.tup [] #[] rfl (by intro i x y hx;simp at hx)⟩;have hbv:=hb.of_int;simp only[execOp,ho,hm,hbv];simp[Instr.entryStore,Result.andThen,MapKept.run_getObj_map hh,MapKept.run_setObj_map _ hh,asInt,asIntOf,hj]
theorem aLd(hρ : ∀g:Nat,ρv (.func g) = .func (.func g) #[] #[])(q:Nat)(hf:fitK P num o (.bx q)=some l)(h1:op1 h k0 (.bx q) vs=some (v,eff)):iK P num Fb B0 ρ w O h ρv o v eff:=by
 simp only[fitK]at hf;split at hf
 case h_2=>cases hf
 rename_i g args tys ho;split at hf
 case h_2=>cases hf
 rename_i x y c hl;obtain⟨hg,rfl⟩:=bT hf;obtain⟨a,b,c0,rfl,ha,hb,hc⟩:=hv.three;simp only[op1]at h1;split at h1
 case h_2=>cases h1
 rename_i m n d;split at h1
 case isFalse=>cases h1
 rename_i hr;obtain⟨h0,h2,h3,h4,h5⟩:=hr;obtain⟨rfl,rfl⟩:=eB h1;have e1:=ha.of_int;have e2:=hb.of_int;have e3:=hc.of_int;obtain⟨m,rfl⟩:=jN h0;obtain⟨n,rfl⟩:=jN h2;obtain⟨d,rfl⟩:=jN h3;have hargs:Array.map ρv args = #[.int .u64 m,.int .u64 n,.int .u64 d]:=by
  have:(Array.map ρv args).toList=[.int .u64 m,.int .u64 n,.int .u64 d]:=by rw[Array.toList_map,hl,List.map_cons,List.map_cons,List.map_cons,e1,e2,e3];rfl
  rw[<-Array.toArray_toList (xs:=Array.map ρv args),this]
 unfold aLH at hg;split at hg
 case h_2=>cases hg
 rename_i fn hfn;simp only[aF,aR]at hg;obtain⟨⟨hn,ho2⟩,hbd⟩:=hg;have hrun:∀cv,(callFunc g #[.int .u64 m,.int .u64 n,.int .u64 d]).run P w = .ok (.value cv) w->(execOp ρv o).run P w = .ok (.value cv) w:=by intro cv hcv;simp[execOp,ho,resolve,hρ,Deferred.ofValue,invoke,hargs,hcv]
 have hd:d=0\/d=1:=by omega
 by_cases hq:q=0;subst hq;rw[if_pos rfl]at hn;have hcall:=run_callFunc_extern (P:=P) (e:=add64Entry) hfn (by rw[hn];kernel_rfl) hbd (by unfold Extern.findNext;rw[hn,ho2];kernel_rfl) (by unfold Extern.find;rw[hn,ho2];kernel_rfl) #[.int .u64 m,.int .u64 n,.int .u64 d] w;rw[run_add64 _ _ _ h0 h2 h3 h4]at hcall;exact .val H (hrun _ hcall) (.of_all2_tup (.cons (.int _ _) (.cons (.int _ _) .nil)));rw[if_neg hq]at hn;have hcall:=run_callFunc_extern (P:=P) (e:=OS) hfn (by rw[hn];kernel_rfl) hbd (by unfold Extern.findNext;rw[hn,ho2];kernel_rfl) (by unfold Extern.find;rw[hn,ho2];kernel_rfl) #[.int .u64 m,.int .u64 n,.int .u64 d] w;rw[K0 m n d (by omega)]at hcall;refine .val H (hrun _ hcall) ?_;have hbx:bxA q (m:Int) (n:Int) (d:Int) = .tup [.int .u64 (((m+18446744073709551616-n-d) % 18446744073709551616:Nat):Int),.int .u64 ((if m<n+d then 1 else 0:Nat):Int)]:=by
  cases q with
  |zero=>exact absurd rfl hq
  |succ q=>simp only[bxA];congr 3;congr 1;omega;congr 1;congr 1;split<;>split<;>omega
 rw[hbx];exact .of_all2_tup (.cons (.int _ _) (.cons (.int _ _) .nil))
theorem aIR(hf:fitK P num o .rng=some l)(h1:op1 h k0 .rng vs=some (v,eff)):iK P num Fb B0 ρ w O h ρv o v eff:=by
 simp only[fitK]at hf;split at hf
 case h_2=>cases hf
 rename_i t x ho;split at hf
 case h_2=>cases hf
 rename_i kt et hu;cases hf;obtain⟨a,rfl,ha⟩:=hv.one;simp only[op1]at h1;split at h1
 case h_2=>cases h1
 rename_i k e;split at h1
 case h_2=>cases h1
 rename_i e' es bs ck hgk;split at h1
 case isFalse=>cases h1
 rename_i hc;subst hc;cases h1;obtain⟨L,hm,hL⟩:=ha.of_mp;obtain⟨c,hh,hall,hbo⟩:=H.all2M hgk hL;obtain⟨ev,H'⟩:=H.newI (k:=k0) hL (j2 w (.mapIter (some L.b) ck #[] ck));refine⟨_,.pointer (some ⟨w.heap.size,0,none⟩),_,_,_,?_,.inl rfl,ev,H',?_⟩
 ·simp only[execOp,ho,hm];simp[run_range_map w t kt et L.b c ck hu hh,Result.andThen]
  try rfl
 exact .pt _ _ 0 _ (Rho.set_same _ _ _ _)
theorem aJj(hf:fitK P num o .ent=some l)(h1:op1 h k0 .ent vs=some (v,eff)):iK P num Fb B0 ρ w O h ρv o v eff:=by
 simp only[fitK]at hf;split at hf
 case h_2=>cases hf
 rename_i x ho;cases hf;obtain⟨a,rfl,ha⟩:=hv.one;simp only[op1]at h1;split at h1
 case h_2=>cases h1
 rename_i k e off;split at h1
 case h_2=>cases h1
 rename_i e' mk me since seen last hgk;split at h1
 case isFalse=>cases h1
 rename_i hc;obtain⟨rfl,rfl⟩:=hc;split at h1
 case h_2=>cases h1
 rename_i s e2 es bs ck hs hgm;split at h1
 case isFalse=>cases h1
 rename_i hc;obtain⟨rfl,rfl⟩:=hc;split at h1
 case h_2=>cases h1
 rename_i a u hfb;cases h1;obtain⟨L,hp,hL⟩:=ha.of_pt;obtain⟨L1,Lm,q1,q2,q3,q4,q5,q6⟩:=H.ito _ _ _ _ _ _ _ hgk;rw[hL]at q1;cases q1;obtain⟨c,hh,hall,hbo⟩:=H.all2M hgm q2;obtain⟨y,y1,y2,y3⟩:=JL hall hbo hfb;have hfd:c.find? (·.born==s)=some y:=by rw[<-Array.find?_toList];exact y1
 have hbk:seen.toArray.back?=some s:=by simpa using hs
 refine .val H (cv:=.tuple #[y.key,y.val]) ?_ (.of_all2_tup (.cons y2 (.cons y3 .nil)));simp only[execOp,ho,hp,q4];simp only[bF,Instr.entry,getObj,Sem.run_bind,Sem.run,q3,hh,Result.andThen,hbk,bne_self_eq_false,bR,aL,hfd];rfl
end
end
section
open Go.RowKit
section
variable{P:Program}{num:Nm}{Fb:Nat->Prop}{B0:Nat}{ρ : Rho}{w:World}{O:Nat->Prop}{h:Hp}{ρv:Operand->Value}{o:Oper}
def Ob.isBlk:Ob->Bool
 |.blk .. => true
 |_=>false
def SB(ρ : Rho)(h:Hp)(S:List Nat)(b:Nat):Prop:=∃k e o L,k∈S/\h.get k=some (e,o)/\o.isBlk=true /\ ρ k e=some L/\L.b=b
theorem lQ{f:AV->Option (AV×List Nat)}:∀{l:List AV}{l':List AV}{s:List Nat},eN f l=some (l',s) ->
  l'.length=l.length/\∀(i:Nat)(x:AV),l[i]?=some x->∃x' s',l'[i]?=some x'/\f x=some (x',s')/\∀k∈s',k∈s
 |[],l',s,h=>by simp[eN]at h;obtain⟨rfl,rfl⟩:=h;exact⟨rfl,by intro i x hx;simp at hx⟩
 |y::r,l',s,h=>by
  unfold eN at h;split at h;cases h;rename_i y' s1 hy;split at h;cases h;rename_i r' s2 hr;cases h;obtain⟨h1,h2⟩:=lQ hr;refine⟨by simp[h1],?_⟩;intro i x hx;cases i with
  |zero=>simp at hx;subst hx;exact⟨y',s1,rfl,hy,λk hk=>List.mem_append_left _ hk⟩
  |succ i=>obtain⟨x',s',q1,q2,q3⟩:=h2 i x (by simpa using hx);exact⟨x',s',by simpa using q1,q2,λk hk=>List.mem_append_right _ (q3 k hk)⟩
theorem vK{d:Nat}{v t:AV}{s:List Nat}(hs:snap d h v=some (t,s)):t.isAgg=v.isAgg/\t.cells.length=v.cells.length:=by
 cases d with
 |zero=>simp[snap]at hs
 |succ d=>
  unfold snap at hs;split at hs;cases hs;exact⟨rfl,rfl⟩;split at hs;rename_i cs _;cases hm:eN (snap d h) cs with
  |none=>simp[hm]at hs
  |some r=>simp[hm]at hs;obtain⟨rfl,_⟩:=hs;exact⟨rfl,(lQ hm).1⟩
  rename_i cs _;cases hm:eN (snap d h) cs<;>simp[hm]at hs;obtain⟨rfl,_⟩:=hs;exact⟨rfl,rfl⟩;rename_i nl es cl _;cases hm:eN (snap d h) es<;>simp[hm]at hs;obtain⟨rfl,_⟩:=hs;exact⟨rfl,rfl⟩;rename_i v' _;cases hm:snap d h v'<;>simp[hm]at hs;obtain⟨rfl,_⟩:=hs;exact⟨rfl,rfl⟩;rename_i f cs _;cases hm:eN (snap d h) cs<;>simp[hm]at hs;obtain⟨rfl,_⟩:=hs;exact⟨rfl,rfl⟩;split at hs;split at hs;split at hs;rename_i es _;cases hm:eN (snap d h) es<;>simp[hm]at hs;obtain⟨rfl,_⟩:=hs;exact⟨rfl,rfl⟩;cases hs;cases hs;cases hs;split at hs;split at hs;split at hs;split at hs;cases hs;exact⟨rfl,rfl⟩;split at hs;split at hs;cases hs;cases hs;exact⟨rfl,rfl⟩;cases hs;cases hs;cases hs;cases hs;cases hs
theorem xQ{esz:Nat}{ag:Bool}:∀{n:Nat}{cs es:List AV},pK esz ag n cs=some es ->
  es.length=n/\n*esz<=cs.length/\∀(i:Nat)(e:AV),es[i]?=some e->e.cells.length=esz/\e.isAgg=ag/\∀j:Nat,j<esz->e.cells[j]?=cs[i*esz+j]?
 |0,cs,es,h=>by simp[pK]at h;subst h;exact⟨rfl,by simp,by intro i e he;simp at he⟩
 |n+1,cs,es,h=>by
  unfold pK at h;split at h;rename_i hag;subst hag;split at h;cases h;rename_i hl;cases hc:pK esz true n (cs.drop esz) with
  |none=>simp[hc]at h
  |some r=>
   simp[hc]at h;subst h;obtain⟨h1,h2,h3⟩:=xQ hc;simp at h2;refine⟨by simp[h1],by rw[Nat.add_mul];omega,?_⟩;intro i e he;cases i with
   |zero=>simp at he;subst he;refine⟨by simp[AV.cells];omega,rfl,λj hj=>by simp[AV.cells,List.getElem?_take,hj]⟩
   |succ i=>obtain⟨q1,q2,q3⟩:=h3 i e (by simpa using he);refine⟨q1,q2,λj hj=>?_⟩;rw[q3 j hj,List.getElem?_drop,Nat.add_mul];congr 1;omega
  rename_i hag;have hag':ag=false:=by simpa using hag
  subst hag';split at h;rename_i c r;split at h;cases h;rename_i hna;cases hc:pK 1 false n r with
  |none=>simp[hc]at h
  |some r'=>
   simp[hc]at h;subst h;obtain⟨h1,h2,h3⟩:=xQ hc;have hcells:c.cells=[c]:=by cases c<;>first|rfl|simp[AV.isAgg]at hna
   refine⟨by simp[h1],by simp at h2 ⊢;omega,?_⟩;intro i e he;cases i with
   |zero=>
    simp at he;subst he;refine⟨by rw[hcells];rfl,by simpa using hna,λj hj=>?_⟩;have:j=0:=by omega
    subst this;rw[hcells];rfl
   |succ i=>
    obtain⟨q1,q2,q3⟩:=h3 i e (by simpa using he);refine⟨q1,q2,λj hj=>?_⟩;rw[q3 j hj];have:j=0:=by omega
    subst this;simp
  cases h
theorem B6{ρ0:Rho}{F F':Nat->Prop}{d:Nat}{e e':AV}{s:List Nat}{m:Nat->Value}(hs:snap d h e=some (e',s))
  (ih:∀c,Rv num ρ w F e c->Rv num ρ0 w F' e' c) (hm:∀(j:Nat)(x:AV),e.cells[j]?=some x->Rv num ρ w F x (m j)) :
  ∀(j:Nat)(x:AV),e'.cells[j]?=some x->Rv num ρ0 w F' x (m j):=by
 obtain⟨h1,h2⟩:=vK hs;cases he:e.isAgg with
 |true=>
  cases e<;>simp[AV.isAgg]at he;rename_i cs;rw[show (AV.agg cs).isAgg=true from rfl]at h1;cases e'<;>simp[AV.isAgg]at h1;rename_i cs';simp only[AV.cells]at h2 hm ⊢;have hr:Rv num ρ w F (.agg cs) (.agg ((List.range cs.length).map m).toArray):=by refine .agg _ _ (by simp) ?_;intro i x y hx hy;have hi:=(cJ.1 hx).1;simp[hi]at hy;subst hy;exact hm i x hx
  obtain⟨vs,hvs,hl,hg⟩:=(ih _ hr).of_agg;cases hvs;intro j x hx;have hj:=(cJ.1 hx).1;have hj':j<cs.length:=by omega
  exact hg j x (m j) hx (by simp[hj'])
 |false=>
  rw[he]at h1;have c1:e.cells=[e]:=by cases e<;>first|rfl|simp[AV.isAgg]at he
  have c2:e'.cells=[e']:=by cases e'<;>first|rfl|simp[AV.isAgg]at h1
  rw[c1]at hm;rw[c2];intro j x hx;cases j with
  |zero=>simp at hx;subst hx;exact ih _ (hm 0 e rfl)
  |succ j=>simp at hx
theorem jB(H:HpR num Fb B0 ρ w O h){ρ0:Rho}{F':Nat->Prop}(hF:∀b,F' b->Fb b\/O b):∀(d:Nat)(v t:AV)(s:List Nat)(c:Value),snap d h v=some (t,s) ->
  Rv num ρ w (λb=>Fb b\/O b) v c->(∀b,SB ρ h s b->¬F' b)->Rv num ρ0 w F' t c
 |0,_,_,_,_,hs,_,_=>by simp[snap]at hs
 |d+1,v,t,s,c,hs,hr,hS=>by
  unfold snap at hs;split at hs;rename_i ht;cases hs;exact hr.tree_mono ht hF;have hsub:∀(s':List Nat),(∀k∈s',k∈s)->∀b,SB ρ h s' b->¬F' b:=by intro s' hs' b hb;obtain⟨k,e,o,L,h1,h2⟩:=hb;exact hS b ⟨k,e,o,L,hs' k h1,h2⟩
  split at hs;rename_i cs _;cases hm:eN (snap d h) cs with
  |none=>simp[hm]at hs
  |some r=>
   simp[hm]at hs;obtain⟨rfl,rfl⟩:=hs;obtain⟨vs,rfl,hl,hg⟩:=hr.of_agg;obtain⟨m1,m2⟩:=lQ hm;refine .agg _ _ (by omega) ?_;intro i x y hx hy;have hi:i<cs.length:=by have:=(cJ.1 hx).1;omega
   obtain⟨x',s',q1,q2,q3⟩:=m2 i cs[i] (by simp[hi]);rw[hx]at q1;cases q1;exact jB H hF d _ _ _ _ q2 (hg i _ y (by simp[hi]) hy) (hsub s' q3)
  rename_i cs _;cases hm:eN (snap d h) cs with
  |none=>simp[hm]at hs
  |some r=>
   simp[hm]at hs;obtain⟨rfl,rfl⟩:=hs;obtain⟨vs,rfl,hl,hg⟩:=hr.of_tup;obtain⟨m1,m2⟩:=lQ hm;refine .tup _ _ (by omega) ?_;intro i x y hx hy;have hi:i<cs.length:=by have:=(cJ.1 hx).1;omega
   obtain⟨x',s',q1,q2,q3⟩:=m2 i cs[i] (by simp[hi]);rw[hx]at q1;cases q1;exact jB H hF d _ _ _ _ q2 (hg i _ y (by simp[hi]) hy) (hsub s' q3)
  rename_i nl es cl _;cases hm:eN (snap d h) es with
  |none=>simp[hm]at hs
  |some r=>
   simp[hm]at hs;obtain⟨rfl,rfl⟩:=hs;obtain⟨m1,m2⟩:=lQ hm;cases nl with
   |true=>obtain⟨rfl,rfl⟩:=hr.of_nsl;have:r.1=[]:=iR (by simpa using m1);rw[this];exact .nsl _
   |false=>
    obtain⟨b,off,cap,sz,m,sp,rfl,hsp,hc,hcl,hFF,hz,hm',hrr⟩:=hr.of_sl;rw[<-m1];rw[<-m1]at hc hcl hm';refine .sl r.1 cl b off cap sz m hc hcl ?_ ?_ hm' ?_ sp (λhne=>hsp (by intro q;subst q;exact hne (iR (by simpa using m1))));intro hne;have hne':es≠[]:=by intro q;subst q;exact hne (iR (by simpa using m1))
    exact⟨λq=>(hFF hne').1 (hF b q),(hFF hne').2⟩;intro i e' he';have hi:i<es.length:=by have:=(cJ.1 he').1;omega
    obtain⟨x',s',q1,q2,q3⟩:=m2 i es[i] (by simp[hi]);rw[he']at q1;cases q1;rw[(vK q2).2];exact hz i _ (by simp[hi]);intro i e' j x he' hx;have hi:i<es.length:=by have:=(cJ.1 he').1;omega
    obtain⟨x',s',q1,q2,q3⟩:=m2 i es[i] (by simp[hi]);rw[he']at q1;cases q1;exact B6 (m:=λj=>m (i*sz+j)) q2 (λc hc'=>jB H hF d _ _ _ c q2 hc' (hsub s' q3)) (λj x hx=>hrr i _ j x (by simp[hi]) hx) j x hx
  rename_i v' _;cases hm:snap d h v' with
  |none=>simp[hm]at hs
  |some r=>simp[hm]at hs;obtain⟨rfl,rfl⟩:=hs;obtain⟨t',c',rfl,h2⟩:=hr.of_ifc;exact .ifc _ _ _ (jB H hF d _ _ _ _ hm h2 hS)
  rename_i f cs _;cases hm:eN (snap d h) cs with
  |none=>simp[hm]at hs
  |some r=>
   simp[hm]at hs;obtain⟨rfl,rfl⟩:=hs;obtain⟨vs,rfl,hl,hg⟩:=hr.of_fn;obtain⟨m1,m2⟩:=lQ hm;refine .fn _ _ _ (by omega) ?_;intro i x y hx hy;have hi:i<cs.length:=by have:=(cJ.1 hx).1;omega
   obtain⟨x',s',q1,q2,q3⟩:=m2 i cs[i] (by simp[hi]);rw[hx]at q1;cases q1;exact jB H hF d _ _ _ _ q2 (hg i _ y (by simp[hi]) hy) (hsub s' q3)
  rename_i k e off len cap _;split at hs
  case h_2=>cases hs
  rename_i e' cs esz ag ti fz hgk;split at hs
  case isFalse=>cases hs
  rename_i he;subst he;split at hs
  case h_2=>cases hs
  rename_i es hch;cases hm:eN (snap d h) es with
  |none=>simp[hm]at hs
  |some r=>
   simp[hm]at hs;obtain⟨rfl,rfl⟩:=hs;obtain⟨m1,m2⟩:=lQ hm;obtain⟨c1,c2,c3⟩:=xQ hch;obtain⟨cap',L,rfl,hL,hlc,hcc,htt,hrm⟩:=hr.of_rf;obtain⟨L0,cb,T,q1,q2,q3,q4,q5,q6,q7,q8,q9,q10⟩:=H.blk _ _ _ _ _ _ _ hgk;rw[hL]at q1;cases q1;have hnF:¬F' L.b:=hS L.b ⟨k,e',_,L,by simp,hgk,rfl,hL,rfl⟩;have hlt:L.b<w.heap.size:=H.loc_lt hgk (by simp) hL;have hrl:r.1.length=len:=by omega
   have hcell:∀n,n<len*esz->w.cell? ⟨L.b,L.base+off+n,none⟩=some (cb.getD (L.base+off+n) undef):=by
    intro n hn;simp at c2;have:L.base+off+n<cb.size:=by omega
    simp[World.cell?,q4,this]
   have key:=Rv.sl (num:=num) (ρ := ρ0) (w:=w) (F:=F') r.1 (ti&&len==cap) L.b (L.base+off) cap' esz (λn=>cb.getD (L.base+off+n) undef) (by omega)
    (λq=>by
     simp only[aF,beq_iff_eq]at q;have:=htt (by rw[q2];exact q.1);omega)
    (λ_=>⟨hnF,hlt⟩)
    (by
     intro i u hu;have hi:i<es.length:=by have:=(cJ.1 hu).1;omega
     obtain⟨x',s',p1,p2,p3⟩:=m2 i es[i] (by simp[hi]);rw[hu]at p1;cases p1;rw[(vK p2).2];exact(c3 i _ (by simp[hi])).1)
    (by intro n hn;rw[hrl]at hn;exact hcell n hn)
    (by
     intro i u j x hu hx;have hi:i<es.length:=by have:=(cJ.1 hu).1;omega
     obtain⟨x',s',p1,p2,p3⟩:=m2 i es[i] (by simp[hi]);rw[hu]at p1;cases p1;refine B6 (m:=λj=>cb.getD (L.base+off+(i*esz+j)) undef) p2 (λc hc'=>jB H hF d _ _ _ c p2 hc' (hsub s' (λk hk=>dY _ (p3 k hk)))) ?_ j x hx;intro j x hx;obtain⟨d1,d2,d3⟩:=c3 i es[i] (by simp[hi]);have hj:j<esz:=by have:=(cJ.1 hx).1;omega
     rw[d3 j hj,List.getElem?_drop]at hx;obtain⟨y,hy,hr'⟩:=q7 _ x hx;rw[<-eX]at hy;simp[hy];exact hr')
   rw[hrl]at key;exact key none (λ_=>rfl)
  rename_i k e off _;split at hs
  case h_2=>cases hs
  rename_i e' cs esz ag ti fz hgk;split at hs
  case isFalse=>cases hs
  rename_i he;obtain⟨rfl,rfl,rfl⟩:=he;split at hs
  case h_2=>cases hs
  rename_i l s1 hm;obtain⟨m1,m2⟩:=lQ hm;obtain⟨L,rfl,hL⟩:=hr.of_pt;obtain⟨L0,cb,T,q1,q2,q3,q4,q5,q6,q7,q8,q9,q10⟩:=H.blk _ _ _ _ _ _ _ hgk;rw[hL]at q1;cases q1;have hcell:∀n,n<cs.length->w.cell? ⟨L.b,L.base+0+n,none⟩=some (cb.getD (L.base+n) undef):=by
   intro n hn;have:L.base+n<cb.size:=by omega
   simp[World.cell?,q4,this]
  have hlt:L.b<w.heap.size:=H.loc_lt hgk (by simp) hL;have hval:∀(i:Nat)(x:AV),(∀k∈s1,k∈s)->l[i]?=some x->Rv num ρ0 w F' x (cb.getD (L.base+i) undef):=by
   intro i x hsub1 hx;have hi:i<cs.length:=by have:=(cJ.1 hx).1;omega
   obtain⟨x',s',p1,p2,p3⟩:=m2 i cs[i] (by simp[hi]);rw[hx]at p1;cases p1;obtain⟨y,hy,hr'⟩:=q7 i cs[i] (by simp[hi]);have:cb.getD (L.base+i) undef=y:=by simp[hy]
   rw[this];exact jB H hF d _ _ _ y p2 hr' (hsub s' (λk hk=>hsub1 k (p3 k hk)))
  split at hs;cases hs;have hnF:¬F' L.b:=hS L.b ⟨k,e',_,L,by simp,hgk,rfl,hL,rfl⟩;refine .fp _ _ _ (λn=>cb.getD (L.base+n) undef) hnF hlt (λn hn=>hcell n (by simp[AV.cells]at hn;omega)) ?_;intro j x hx;exact hval j x (λk hk=>dY _ hk) hx;split at hs;rename_i v1;split at hs;cases hs;rename_i hna;cases hs;have hcells:v1.cells=[v1]:=by cases v1<;>first|rfl|simp[AV.isAgg]at hna
  have hnF:¬F' L.b:=hS L.b ⟨k,e',_,L,by simp,hgk,rfl,hL,rfl⟩;refine .fp _ _ _ (λn=>cb.getD (L.base+n) undef) hnF hlt (λn hn=>hcell n (by rw[hcells]at hn;simp at hn m1;omega)) ?_;intro j x hx;rw[hcells]at hx;exact hval j x (λk hk=>dY _ hk) hx;cases hs;cases hs
end
end
section
open Go.RowKit
theorem HV(h:Hp)(a b:List Ent):dZ h (a++b)=dZ (dZ h a) b:=by
 induction a generalizing h with
 |nil=>rfl
 |cons x r ih=>simp[dZ,ih]
theorem vQ{q:Nat}:∀(pa:List Ent)(h:Hp),q ∉ pa.map (·.k)->(dZ h pa).get q=h.get q
 |[],_,_=>rfl
 |x::r,h,hq=>by simp only[List.map_cons,dA,not_or]at hq;simp only[dZ];rw[vQ r _ hq.2,aI,if_neg (λe=>hq.1 e.symm)]
theorem GQ:∀(x y:List (AV×AV)),QR x y=true->x=y
 |[],[],_=>rfl
 |[],_::_,h=>by simp[QR]at h
 |_::_,[],h=>by simp[QR]at h
 |(a,b)::r,(c,d)::s,h=>by simp only[QR,aF]at h;rw[pZ a c h.1.1,pZ b d h.1.2,GQ r s h.2]
theorem GO{x y:Ob}(h:aCS x y=true):x=y:=by cases x<;>cases y<;>simp[aCS]at h ⊢;exact⟨jE _ _ h.1.1.1.1,h.1.1.1.2,h.1.1.2,h.1.2,h.2⟩;exact⟨GQ _ _ h.1.1,h.1.2,h.2⟩;exact⟨h.1.1.1.1,h.1.1.1.2,h.1.1.2,h.1.2,h.2⟩;exact⟨h.1.1.1.1.1,h.1.1.1.1.2,jE _ _ h.1.1.1.2,h.1.1.2,h.1.2,h.2⟩
theorem DF{x y:Option (Nat×Ob)}(h:wL x y=true):x=y:=by
 cases x with
 |none=>cases y with
  |none=>rfl
  |some y=>simp[wL]at h
 |some x=>cases y with
  |none=>simp[wL]at h
  |some y=>obtain⟨a,b⟩:=x;obtain⟨c,d⟩:=y;simp only[wL,aF,beq_iff_eq]at h;rw[h.1,GO h.2]
section
variable{P:Program}{num:Nm}{Fb:Nat->Prop}{B0:Nat}{ρ : Rho}{w:World}
theorem sB:∀(S:List Nat)(h:Hp)(O:Nat->Prop),HpR num Fb B0 ρ w O h ->
  ∃O':Nat->Prop,(∀b,O' b->O b)/\HpR num Fb B0 ρ w O' (dZ h (gJ h S))/\(∀b,SB ρ h S b->¬O' b)/\(∀k,(dZ h (gJ h S)).next k=h.next k)
 |[],h,O,H=>⟨O,λ_ q=>q,H,λb ⟨k,_,_,_,hk,_⟩=>by simp at hk,λ_=>rfl⟩
 |k::r,h,O,H=>by
  unfold gJ;split;rename_i e cs esz ag ti hg;obtain⟨L,c,T,q1,_⟩:=H.blk _ _ _ _ _ _ _ hg;obtain⟨_,H1⟩:=H.freeze hg q1;obtain⟨O',o1,o2,o3,o4⟩:=sB r _ _ H1;refine⟨O',λb hb=>(o1 b hb).1,o2,?_,?_⟩;intro b ⟨k',e',o',L',hk',hg',hb',hL',hbb⟩ hO;by_cases hkk:k=k';subst hkk;rw[hg]at hg';cases hg';rw[q1]at hL';cases hL';exact(o1 b hO).2 hbb.symm;have:k'∈r:=by rcases dA.1 hk' with q|q;exact absurd q.symm hkk;exact q
  exact o3 b ⟨k',e',o',L',this,by rw[aI,if_neg hkk];exact hg',hb',hL',hbb⟩ hO;intro k';simp only[dZ];rw[o4 k'];simp only[Hp.next,aI];by_cases hkk:k=k';subst hkk;simp[hg];simp[hkk];rename_i hnot;obtain⟨O',o1,o2,o3,o4⟩:=sB r h O H;refine⟨O',o1,o2,?_,o4⟩;intro b ⟨k',e',o',L',hk',hg',hb',hL',hbb⟩ hO;rcases dA.1 hk' with q|q;subst q;cases o' with
  |dead=>simp[Ob.isBlk]at hb'
  |mpo=>simp[Ob.isBlk]at hb'
  |itr=>simp[Ob.isBlk]at hb'
  |lp=>simp[Ob.isBlk]at hb'
  |blk cs esz ag ti fz=>
   cases fz with
   |false=>exact hnot _ _ _ _ _ hg'
   |true=>obtain⟨L,c,T,q1,_,_,_,_,_,_,_,_,q10⟩:=H.blk _ _ _ _ _ _ _ hg';rw[q1]at hL';cases hL';exact q10 rfl (hbb ▸ o1 b hO)
  exact o3 b ⟨k',e',o',L',q,hg',hb',hL',hbb⟩ hO
variable{O:Nat->Prop}{h:Hp}{ρv:Operand->Value}{o:Oper}
theorem Z8(H:HpR num Fb B0 ρ w O h){k0:Nat}{k:K}{l:List Operand}{vs:List AV}{v:AV}{eff:Eff}(hcst:∀c,ρv (.const c)=c)(hfnv:∀g:Nat,ρv (.func g) = .func (.func g) #[] #[])
  (hv:bA (Rv num ρ w (λb=>Fb b\/O b)) vs (l.map ρv)) (hf:fitK P num o k=some l) (h1:op1 h k0 k vs=some (v,eff)):iK P num Fb B0 ρ w O h ρv o v eff:=by
 cases k with
 |mov=>exact aIT H hv hf h1
 |pick=>exact aFu H hv hf h1
 |box=>exact aJn H hv hf h1
 |alloc z a=>exact aBP H hv z a hf h1
 |build z p=>exact aBO H hv z p hf h1
 |mkSl a b c=>exact aFw H hv a b c hf h1
 |load a b=>exact aFx H hv a b hf h1
 |store a b=>exact aBN H hv a b hf h1
 |nilc=>exact aFv H hv hf h1
 |bin op=>exact aJo H hv op hf h1
 |beq n=>exact aJp H hv n hf h1
 |eqn q n=>exact aJi H hv hcst q n hf h1
 |eqs n q=>exact aJh H hv n q hf h1
 |un op=>exact aLa H hv op hf h1
 |cvi k=>exact aJk H hv k hf h1
 |s2b=>exact aIQ H hv hf h1
 |b2s=>exact aJq H hv hf h1
 |fad a b c=>exact aJf H hv a b c hf h1
 |iad a b c=>exact aJe H hv a b c hf h1
 |ixs=>exact aJc H hv hf h1
 |ixa a b c=>exact aJd H hv a b c hf h1
 |slc a b c d=>exact aIP H hv a b c d hf h1
 |sls a b=>exact aIO H hv a b hf h1
 |mks a b c d=>exact aIV H hv a b c d hf h1
 |len q=>exact aJb H hv q hf h1
 |cap=>exact aJm H hv hf h1
 |app a b c=>exact aJs H hv a b c hf h1
 |apz a b c d=>exact aJr H hv a b c d hf h1
 |cpy a b=>exact aJl H hv a b hf h1
 |mn=>exact aLc H hv hf h1
 |mx=>exact aLb H hv hf h1
 |ext i=>exact aJg H hv i hf h1
 |mki=>exact aIX H hv hf h1
 |mkf f=>exact aIY H hv f hf h1
 |call=>simp[op1]at h1
 |callv=>simp[op1]at h1
 |mkm=>exact aIW H hv hf h1
 |mlk a b c=>exact aIU H hv a b c hf h1
 |mup a=>exact aIS H hv a hf h1
 |men a b=>exact aJa H hv a b hf h1
 |mes=>exact aIZ H hv hf h1
 |bx a=>exact aLd H hv hfnv a hf h1
 |rng=>exact aIR H hv hf h1
 |ent=>exact aJj H hv hf h1
 |calle f=>simp[op1]at h1
 |callr f=>simp[op1]at h1
 |callvr=>simp[op1]at h1
 |bad=>simp[op1]at h1
def HR(num:Nm)(Fb:Nat->Prop)(B0:Nat)(w:World):AV->Value->Prop
 |.os es esz ag,c=>∃(b base room cap:Nat)(cl:Array Value)(T:TypeId),c = .slice (some ⟨b,base,none⟩) es.length cap/\es.length<=cap/\w.heap[b]?=some (.cells cl T (0,0))/\base+room<=cl.size /\
   cap*esz<=room/\(∀(i:Nat)(e:AV),es[i]?=some e->e.cells.length=esz)/\B0<=b /\
   (∀(i:Nat)(e:AV)(j:Nat)(x:AV),es[i]?=some e->e.cells[j]?=some x->∃y,cl[base+(i*esz+j)]?=some y/\∀ ρ0:Rho,Rv num ρ0 w (λx=>Fb x\/x=b) x y)
 |r,c=>∀ ρ0:Rho,Rv num ρ0 w Fb r c
theorem HR.of_tree{r:AV}{c:Value}(h:∀ ρ0:Rho,Rv num ρ0 w Fb r c):HR num Fb B0 w r c:=by cases r<;>first|exact h|(have:=h (λ_ _=>none);cases this)
theorem U2{O:Nat->Prop}{h:Hp}(H:HpR num Fb B0 ρ w O h){v r:AV}{c:Value}(hr:Rv num ρ w (λb=>Fb b\/O b) v c)(hc:conv h v=some r):HR num Fb B0 w r c:=by
 have htree:∀(u:AV),(snap depth h u).map (·.1)=some r->Rv num ρ w (λb=>Fb b\/O b) u c->HR num Fb B0 w r c:=by
  intro u hu hru;cases hs:snap depth h u with
  |none=>simp[hs]at hu
  |some p=>
   simp[hs]at hu;subst hu;refine HR.of_tree (λρ0=>jB H (λb hb => .inl hb) depth u p.1 p.2 c hs hru ?_);intro b ⟨k,e,o,L,_,hg,hb,hL,hbb⟩ hF;have h1:=H.fbl _ hF;cases o with
   |dead=>simp[Ob.isBlk]at hb
   |mpo=>simp[Ob.isBlk]at hb
   |itr=>simp[Ob.isBlk]at hb
   |lp=>simp[Ob.isBlk]at hb
   |blk=>obtain⟨L',_,_,q1,_,_,_,_,_,_,q8,_⟩:=H.blk _ _ _ _ _ _ _ hg;rw[q1]at hL;cases hL;omega
 unfold conv at hc
 split at hc;rename_i k e off len cap;split at hc;rename_i e' cs esz ag ti hg;split at hc
 case isFalse=>cases hc
 rename_i he;subst he;split at hc
 case h_2=>cases hc
 rename_i es hch;split at hc
 case h_2=>cases hc
 rename_i l s hm;split at hc
 case isTrue=>cases hc
 rename_i hnk;cases hc;obtain⟨m1,m2⟩:=lQ hm;obtain⟨c1,c2,c3⟩:=xQ hch;obtain⟨cap',L,rfl,hL,hlc,hcc,htt,hrm⟩:=hr.of_rf;obtain⟨L0,cb,T,q1,q2,q3,q4,q5,q6,q7,q8,q9,q10⟩:=H.blk _ _ _ _ _ _ _ hg;rw[hL]at q1;cases q1;have hll:l.length=len:=by omega
 rw[q3]at hrm;refine⟨L.b,L.base+off,L.room-off,cap',cb,T,by rw[hll],by omega,q4,by omega,by omega,?_,q8,?_⟩;intro i u hu;have hi:i<es.length:=by have:=(cJ.1 hu).1;omega
 obtain⟨x',s',p1,p2,p3⟩:=m2 i es[i] (by simp[hi]);rw[hu]at p1;cases p1;rw[(vK p2).2];exact(c3 i _ (by simp[hi])).1;intro i u j x hu hx;have hi:i<es.length:=by have:=(cJ.1 hu).1;omega
 obtain⟨x',s',p1,p2,p3⟩:=m2 i es[i] (by simp[hi]);rw[hu]at p1;cases p1;obtain⟨d1,d2,d3⟩:=c3 i es[i] (by simp[hi]);have hj:j<esz:=by have:=(cJ.1 hx).1;rw[(vK p2).2]at this;omega
 have hget:es[i].cells[j]?=cs[off+(i*esz+j)]?:=by rw[d3 j hj,List.getElem?_drop]
 have hjl:j<es[i].cells.length:=by omega
 have hx0:es[i].cells[j]?=some es[i].cells[j]:=by simp[hjl]
 obtain⟨y,hy,_⟩:=q7 _ _ (hget ▸ hx0);refine⟨y,by rw[eX];exact hy,λρ0=>?_⟩
 have key:=B6 (w:=w) (ρ := ρ) (ρ0 := ρ0) (F:=λb=>Fb b\/O b) (F':=λx=>Fb x\/x=L.b) (m:=λj=>cb.getD (L.base+(off+(i*esz+j))) undef) p2
  (λc hc'=>jB (F':=λx=>Fb x\/x=L.b) H (λb (hb:Fb b\/b=L.b)=>hb.imp id (λq=>by rw[q];exact q9 rfl)) depth _ _ _ c p2 hc' (by
   intro b ⟨k',e1,o1,L1,hk1,hg1,hb1,hL1,hbb⟩ hF;have hkk:k' ≠ k:=by intro q;subst q;exact hnk (by simpa using p3 k' hk1)
   rcases hF with hF|hF;have h1:=H.fbl _ hF;cases o1 with
   |dead=>simp[Ob.isBlk]at hb1
   |mpo=>simp[Ob.isBlk]at hb1
   |itr=>simp[Ob.isBlk]at hb1
   |lp=>simp[Ob.isBlk]at hb1
   |blk=>obtain⟨L',_,_,r1,_,_,_,_,_,_,r8,_⟩:=H.blk _ _ _ _ _ _ _ hg1;rw[r1]at hL1;cases hL1;omega
   exact lB H hg rfl hL hkk hg1 (by intro q;subst q;simp[Ob.isBlk]at hb1) hL1 (hbb.trans hF)))
  (by
   intro j x hx;have hj':j<esz:=by have:=(cJ.1 hx).1;omega
   rw[d3 j hj',List.getElem?_drop]at hx;obtain⟨y',hy',hr'⟩:=q7 _ x hx;simp[hy'];exact hr') j x hx
 simpa[hy] using key;exact htree _ hc hr;exact htree _ hc hr
theorem HT{O:Nat->Prop}{h:Hp}{w':World}{Fb':Nat->Prop}{S:List Nat}(H:HpR num Fb B0 ρ w O h)(hw:Evo (λ_ _=>none) w (λ_=>False) (λ_ _=>none) w' (λ_=>False))
  (hFb':∀b,(Fb b\/O b)->¬SB ρ h S b->Fb' b) {r v:AV} {c:Value} {k0:Nat} {th:Bool} {pa:List Ent} (hr:HR num Fb' w.heap.size w' r c) (hv:iO h k0 th r=some (v,pa)) :
  ∃ ρ' O',Evo ρ w O ρ' w' O'/\HpR num Fb B0 ρ' w' O' (dZ h ((if r.flat then [] else gJ h S)++pa))/\Rv num ρ' w' (λb=>Fb b\/O' b) v c:=by
 have hkeep:∀b,b<w.heap.size->w'.heap[b]?=w.heap[b]?:=λb hb=>hw.keep b hb (λq=>q);have hfr:∃O1:Nat->Prop,(∀b,O1 b->O b)/\HpR num Fb B0 ρ w O1 (dZ h (if r.flat then [] else gJ h S))/\(r.flat=false->∀b,SB ρ h S b->¬O1 b)/\(∀k,(dZ h (if r.flat then [] else gJ h S)).next k=h.next k):=by
  cases r.flat with
  |true=>exact⟨O,λ_ q=>q,H,(λq=>by cases q),λ_=>rfl⟩
  |false=>obtain⟨O',o1,o2,o3,o4⟩:=sB S h O H;exact⟨O',o1,o2,λ_=>o3,o4⟩
 obtain⟨O1,o1,H1,o3,o4⟩:=hfr;have ev1:Evo ρ w O1 ρ w' O1:=⟨hw.os,hw.tape,hw.output,hw.size,λb hb _=>hkeep b hb,λ_ _ q=>q,λ_ _ _ q=>q⟩
 have ev0:∀O2:Nat->Prop,(∀b,b<w.heap.size->O2 b->O1 b)->Evo ρ w O ρ w' O2:=λO2 hO=>⟨hw.os,hw.tape,hw.output,hw.size,λb hb _=>hkeep b hb,λb hb q=>o1 b (hO b hb q),λ_ _ _ q=>q⟩
 have H1':HpR num Fb B0 ρ w' O1 (dZ h (if r.flat then [] else gJ h S)):=H1.same ev1 (λb hb=>hkeep b (H1.own b hb).2);have hsub:r.flat=false->∀b,(Fb b\/O1 b)->Fb' b:=by
  intro hfl b hb;refine hFb' b (hb.imp id (o1 b)) ?_;intro hSB;rcases hb with hb|hb;obtain⟨k,e,o,L,_,hg,hbk,hL,hbb⟩:=hSB;have h1:=H.fbl _ hb;cases o with
  |dead=>simp[Ob.isBlk]at hbk
  |mpo=>simp[Ob.isBlk]at hbk
  |itr=>simp[Ob.isBlk]at hbk
  |lp=>simp[Ob.isBlk]at hbk
  |blk=>obtain⟨L',_,_,q1,_,_,_,_,_,_,q8,_⟩:=H.blk _ _ _ _ _ _ _ hg;rw[q1]at hL;cases hL;omega
  exact o3 hfl b hSB hb
 by_cases hos:∃es esz ag,r = .os es esz ag;obtain⟨es,esz,ag,rfl⟩:=hos;obtain⟨b,base,room,cap,cl,T,rfl,hcap,hheap,hsz,hrm,hes,hB,hcells⟩:=hr;have hb1:¬(Fb b\/O1 b):=by intro q;rcases q with q|q;have:=H.fbl _ q;have:=H.le;omega;have:=(H1.own _ q).2;omega
 have hblt:b<w'.heap.size:=by rcases eS b w'.heap.size with q|q;exact q;simp[Array.getElem?_eq_none q]at hheap
 have hval:∀(ρ':Rho)(i:Nat)(e:AV)(j:Nat)(x:AV),es[i]?=some e->e.cells[j]?=some x->∃y,cl[base+(i*esz+j)]?=some y/\Rv num ρ' w' (λx=>Fb x\/(O1 x\/x=b)) x y:=by
  intro ρ' i e j x he hx;obtain⟨y,hy,hrv⟩:=hcells i e j x he hx;refine⟨y,hy,?_⟩;cases hfl:(AV.os es esz ag).flat with
  |false=>refine(hrv ρ').F_mono (λq hq=>?_);rcases hq with hq|hq|hq;exact .inl (hsub hfl q (.inl hq));exact .inl (hsub hfl q (.inr hq));exact .inr hq
  |true=>
   refine(hrv ρ').flat_any ?_;have he':=Rv.flat_any.flatL_get (by simpa[AV.flat] using hfl) i e he;cases e<;>simp only[AV.cells]at hx<;>first
    |exact Rv.flat_any.flatL_get (by simpa[AV.flat] using he') j x hx
    |(cases j with
      |zero=>simp at hx;exact hx ▸ he'
      |succ j=>simp at hx)
 unfold iO at hv;simp only at hv;cases th with
 |false=>
  simp at hv;obtain⟨rfl,rfl⟩:=hv;rw[List.append_nil];refine⟨ρ,O1,ev0 O1 (λ_ _ q=>q),H1',?_⟩;refine .sl es false b base cap esz (λn=>cl.getD (base+n) undef) hcap (λq=>by cases q) (λ_=>⟨hb1,hblt⟩) hes ?_ ?_ none (λ_=>rfl);intro n hn;have h2:es.length*esz<=cap*esz:=Nat.mul_le_mul_right _ hcap;have:base+n<cl.size:=by omega
  simp[World.cell?,hheap,this];intro i e j x he hx;obtain⟨y,hy,hrv⟩:=hval ρ i e j x he hx;simp[hy];exact hrv.F_mono (λq hq=>hq.imp id .inl)
 |true=>
  simp only[aN]at hv;split at hv
  case h_2=>cases hv
  rename_i cs hcs;simp at hv;obtain⟨rfl,rfl⟩:=hv;obtain⟨rfl,hfits⟩:=qB hcs;rw[HV];have hfl:(hX es).length=es.length*esz:=lC hes;have hnx:=o4 k0;generalize dZ h (if (AV.os es esz ag).flat=true then [] else gJ h S)=h1 at *;rw[<-hnx];have hfresh:=nZ H1 k0
  have ev:Evo ρ w O1 (ρ.set k0 (h1.next k0) ⟨b,base,room,false,esz⟩) w' (λx=>O1 x\/x=b):=
   {os:=hw.os,tape:=hw.tape,output:=hw.output,size:=hw.size,keep:=λb hb _=>hkeep b hb,own:=λx hx hO=>hO.elim id (λe=>by omega),rho:=Rho.set_keeps hfresh}
  refine⟨ρ.set k0 (h1.next k0) ⟨b,base,room,false,esz⟩,λx=>O1 x\/x=b,{ev with own:=λx hx hO=>o1 x (ev.own x hx hO),keep:=λb hb _=>hkeep b hb},?_,?_⟩;simp only[dZ];refine H1.put ev ?_ (tZ h1 k0) ?_ ?_ ?_ ?_;intro k' e' L hL;unfold Rho.set at hL;split at hL;rename_i hc;exact .inr hc;exact .inl hL;intro x hO;rcases hO with hO|rfl;exact⟨(H1.own x hO).1,Nat.lt_of_lt_of_le (H1.own x hO).2 hw.size⟩;exact⟨by have:=H.le;omega,hblt⟩;intro k' e' o' L hk hg hd hL;exact⟨hkeep _ (H1.loc_lt hg hd hL),.inl⟩;refine⟨_,cl,T,Rho.set_same _ _ _ _,rfl,rfl,hheap,hsz,?_,?_,by have:=H.le;show B0<=b;omega,λ_ => .inr rfl,λq=>by cases q⟩;rw[hfl];have h2:es.length*esz<=cap*esz:=Nat.mul_le_mul_right _ hcap;show es.length*esz<=room;omega;intro n x hx;have hn:n<es.length*esz:=by have:=(cJ.1 hx).1;omega
  have hpos:0<esz:=by rcases Nat.eq_zero_or_pos esz with q|q;simp[q]at hn;exact q
  have hdm:n / esz*esz+n % esz=n:=by rw[Nat.mul_comm];exact Nat.div_add_mod n esz
  have hg:=sX hes (n / esz) (n % esz) (Nat.mod_lt _ hpos);rw[hdm,hx]at hg;have hil:n / esz<es.length:=Nat.div_lt_of_lt_mul (by rw[Nat.mul_comm];exact hn);have he:es[n / esz]?=some es[n / esz]:=by simp[hil]
  rw[he]at hg;simp only[Option.bind_some]at hg;obtain⟨y,hy,hrv⟩:=hval (ρ.set k0 (h1.next k0) ⟨b,base,room,false,esz⟩) (n / esz) _ (n % esz) x he hg.symm;rw[hdm]at hy;exact⟨y,hy,hrv⟩;intro _ k' e' o' L L' hk hg hl hL' hL hb;rw[Rho.set_same]at hL;cases hL;have:=H1.loc_lt hg (by intro e;subst e;cases hl) hL';simp at hb;omega;have:=Rv.rf (num:=num) (w:=w') (F:=λx=>Fb x\/(O1 x\/x=b)) k0 (h1.next k0) 0 es.length es.length cap _ (Rho.set_same ρ k0 (h1.next k0) ⟨b,base,room,false,esz⟩) (aX _) hcap (λq=>by cases q) (by simp;exact hrm);simpa using this
 have hrv:iO h k0 th r=some (r,[]):=by unfold iO;cases r<;>first|rfl|exact absurd ⟨_,_,_,rfl⟩ hos
 rw[hrv]at hv;simp at hv;obtain⟨rfl,rfl⟩:=hv;rw[List.append_nil];have hres:∀ ρ0:Rho,Rv num ρ0 w' Fb' r c:=by cases r<;>first|exact hr|exact absurd ⟨_,_,_,rfl⟩ hos
 refine⟨ρ,O1,ev0 O1 (λ_ _ q=>q),H1',?_⟩;cases hfl:r.flat with
 |true=>exact(hres ρ).flat_any hfl
 |false=>exact(hres ρ).F_mono (λb hb=>hsub hfl b hb)
end
end
end Go.Tev
