import Derived.Test.YtdpdokigjeaaiaaGreatDoorEvBm
import Derived.MapKept
set_option linter.all false
section
namespace Go.Tev
open Go.RowKit
section
variable {P:Program} {num:Nat→Nat} {Fb:Nat→Prop} {B0:Nat} {ρ : Rho} {w:World} {O:Nat→Prop} {h:Hp} {ρv:Operand→Value} {o:Oper}
theorem src_runs {esz n:Nat} {y':Value} {cc:List Value} (hcl:cc.length=n*esz)
  (hc:((∃ p cap,y' = .slice p 0 cap)∧n=0)∨(∃ b off cap,y' = .slice (some ⟨b,off,none⟩) n cap∧∀ j v,cc[j]?=some v→w.cell? ⟨b,off+j,none⟩=some v) ∨
    (∃ s:List UInt8,y' = .string ⟨s.toArray⟩∧esz=1∧n=s.length∧cc=s.map fun b => .int .u8 b.toNat)) (W:World) (hW:W.heap=w.heap) :
  (Builtin.lenOf y').run P W = .ok n W∧(Builtin.firstCells esz n y').run P W = .ok cc.toArray W:=by
 rcases hc with ⟨⟨p,cap,rfl⟩,rfl⟩ | ⟨b,off,cap,rfl,hcell⟩ | ⟨s,rfl,rfl,rfl,rfl⟩
 ·have:cc=[]:=List.eq_nil_of_length_eq_zero (by simpa using hcl)
  subst this
  refine ⟨rfl,?_⟩
  cases p with
  | none=>rw [run_firstCells_none]
  | some a=>exact run_firstCells_some W esz 0 a 0 cap [] (by simp) (by simp)
 ·refine ⟨rfl,run_firstCells_some W esz n _ n cap cc hcl (fun j u hj=>?_)⟩
  rw [addr_add,cell_of_heap (w:=w) (by rw [hW])]
  exact hcell j u hj
 ·refine ⟨by simp [Builtin.lenOf,ByteArray.size],?_⟩
  simp only [Builtin.firstCells]
  have:((⟨s.toArray⟩:ByteArray).extract 0 s.length).data=s.toArray:=by
   rw [ByteArray.data_extract];simp
  rw [this]
  simp
variable (H:HpR num Fb B0 ρ w O h)
variable {k0:Nat} {l:List Operand} {vs:List AV} {v:AV} {eff:Eff}
variable (hv:All2 (Rv num ρ w (fun b=>Fb b∨O b)) vs (l.map ρv))
include H hv
theorem op_app (esz:Nat) (ag:Bool) (bytes:Nat) (hf:fitK P num o (.app esz ag bytes)=some l) (h1:op1 h k0 (.app esz ag bytes) vs=some (v,eff)):Done P num Fb B0 ρ w O h ρv o v eff:=by
 simp only [fitK] at hf
 split at hf
 case h_2=>cases hf
 rename_i x y tys ho
 split at hf
 case h_2=>cases hf
 rename_i t u ht0 ht1
 split at hf
 case h_2=>cases hf
 rename_i e hel
 obtain ⟨hg,rfl⟩:=guardO_eq hf
 simp only [Bool.and_eq_true] at hg
 obtain ⟨⟨⟨hft,hfb⟩,hzs⟩,htu⟩:=hg
 obtain ⟨a,b,rfl,ha,hb⟩:=hv.two
 obtain ⟨cn,hrun⟩:=bcall_run (P:=P) (ρv := ρv) (w:=w) ho
 have hu:=elemT_eq hel
 obtain ⟨ie,hie,hsz,_⟩:=fitT_eq hft
 have hby:ie.bytes=bytes:=by simpa [fitB,hie] using hfb
 cases hz:ie.zero with
 | none=>simp [hie,hz] at hzs
 | some z=>
 have hzsz:z.cells.size=esz:=by simpa [hie,hz,hsz] using hzs
 have hdu:∃ d,P.underlying u=some d∧(d = .string∨∃ e',d = .slice e'):=by
  simp only [Bool.or_eq_true,beq_iff_eq] at htu
  rcases htu with (rfl | hs) | hs
  ·exact ⟨_,hu,.inr ⟨_,rfl⟩⟩
  ·exact ⟨_,isStr_eq hs,.inl rfl⟩
  ·obtain ⟨e',he'⟩:=Option.isSome_iff_exists.1 hs
   exact ⟨_,elemT_eq he',.inr ⟨_,rfl⟩⟩
 obtain ⟨d,hdu,hd⟩:=hdu
 simp only [op1] at h1
 split at h1
 case h_2=>cases h1
 rename_i cs n rd hsrc
 obtain ⟨cc,hall,hlen,hone,hcase⟩:=src_sound H hb hsrc
 have hcl:cc.length=n*esz:=by have:=hall.length;omega
 obtain ⟨r1,r2⟩:=src_runs (P:=P) hcl hcase w rfl
 obtain ⟨_,r3⟩:=src_runs (P:=P) hcl hcase w.drew rfl
 rw [← hsz] at r2 r3
 obtain ⟨cv,w',ρ',O',hh,ev,H',hr⟩:=appA_sound (P:=P) (z:=z.cells) (e:=e) (run:=(Builtin.append_ tys o.type #[ρv x,ρv y]).run P w) H ha h1 hall hlen hone hzsz
  (by
   intro hn hx
   subst hn
   have hcc:cc=[]:=List.eq_nil_of_length_eq_zero (by simpa using hcl)
   subst hcc
   rw [hx]
   exact run_app_nil0 w ht0 ht1 hu hdu hd hie r1 r2)
  (by
   intro a sLen sCap hn hx hle
   subst hn
   have hcc:cc=[]:=List.eq_nil_of_length_eq_zero (by simpa using hcl)
   subst hcc
   rw [hx]
   exact run_app_zero w ht0 ht1 hu hdu hd hie r1 r2 hle)
  (by
   intro b off sLen sCap hx hle hst
   rw [hx]
   rw [← hsz] at hst ⊢
   exact run_app_room w ht0 ht1 hu hdu hd hie r1 r2 hle hst)
  (by
   intro a sLen sCap oc hx hlt hm hbb hfo
   rw [hx]
   exact run_app_grow w ht0 ht1 hu hdu hd hie hz r1 r3 (hfo ie hsz) hlt hm (by rw [hby];exact hbb))
 refine ⟨.value cv,cv,w',ρ',O',?_,.inl rfl,ev,H',hr⟩
 rw [hrun]
 simp [builtin,hh]
omit H hv in
theorem zeros_all2' {F:Nat→Prop} {zero:List AV} {z:Array Value} (hz:All2 (Rv num ρ w F) zero z.toList) (n:Nat) :
  All2 (Rv num ρ w F) (List.replicate n zero).flatten (Builtin.zeroCells z n).toList:=by
 have hl:z.size=zero.length:=by simpa using hz.length.symm
 refine All2.of_get (by simp [Builtin.zeroCells,hl]) ?_
 intro i x y hx hy
 have hi:i < n*zero.length:=by
  rcases Nat.lt_or_ge i (List.replicate n zero).flatten.length with q | q
  ·simpa using q
  ·simp [List.getElem?_eq_none q] at hx
 have hpos:0 < zero.length:=by
  rcases Nat.eq_zero_or_pos zero.length with q | q
  ·simp [q] at hi
  ·exact q
 rw [get_flatten_replicate zero n i hi] at hx
 have hm:i % zero.length < zero.length:=Nat.mod_lt _ hpos
 simp [Builtin.zeroCells,hi,hl,hm] at hy
 subst hy
 refine hz.get (i % zero.length) x _ hx ?_
 have:i % zero.length < z.size:=by omega
 simp [this]
theorem op_apz (esz:Nat) (ag:Bool) (bytes:Nat) (zero:List AV) (hf:fitK P num o (.apz esz ag bytes zero)=some l) (h1:op1 h k0 (.apz esz ag bytes zero) vs=some (v,eff)):Done P num Fb B0 ρ w O h ρv o v eff:=by
 simp only [fitK] at hf
 split at hf
 case h_2=>cases hf
 rename_i x y tys ho
 split at hf
 case h_2=>cases hf
 rename_i t u ht0 ht1
 split at hf
 case h_2=>cases hf
 rename_i e hel
 obtain ⟨hg,rfl⟩:=guardO_eq hf
 simp only [Bool.and_eq_true] at hg
 obtain ⟨⟨⟨hft,hfb⟩,hfz⟩,htu⟩:=hg
 obtain ⟨a,b,rfl,ha,hb⟩:=hv.two
 obtain ⟨cn,hrun⟩:=bcall_run (P:=P) (ρv := ρv) (w:=w) ho
 have hu:=elemT_eq hel
 obtain ⟨ki,hint⟩:=isInt_eq htu
 obtain ⟨ie,z,hie,hz,hfz'⟩:=fitZ_eq hfz
 obtain ⟨ie',hie',hsz,_⟩:=fitT_eq hft
 rw [hie] at hie';cases hie'
 have hby:ie.bytes=bytes:=by simpa [fitB,hie] using hfb
 simp only [op1] at h1
 split at h1
 case h_2=>cases h1
 rename_i kv nn
 split at h1
 case isFalse=>cases h1
 rename_i hc
 obtain ⟨h0,hm,hbm,hze,hone⟩:=hc
 obtain ⟨n,rfl⟩:=Int.eq_ofNat_of_zero_le h0
 have hzz:All2 (Rv num ρ w (fun b=>Fb b∨O b)) zero z.cells.toList:=fitL_sound hfz'
 have hzsz:z.cells.size=esz:=by have:=hzz.length;simp at this;omega
 have hall:=zeros_all2' hzz n
 have hlen:(List.replicate n zero).flatten.length=n*esz:=by simp [hze]
 have hone':allOne (List.replicate n zero).flatten=true:=by
  have:∀ m:Nat,allOne (List.replicate m zero).flatten=true:=by
   intro m
   induction m with
   | zero=>rfl
   | succ m ih=>
    rw [List.replicate_succ,List.flatten_cons]
    have happ:∀ (p q:List AV),allOne p=true→allOne q=true→allOne (p++q)=true:=by
     intro p q hp hq
     induction p with
     | nil=>exact hq
     | cons x r ih2=>simp only [allOne,Bool.and_eq_true,List.cons_append] at hp ⊢;exact ⟨hp.1,ih2 hp.2⟩
    exact happ _ _ hone ih
  exact this n
 have hy : ρv y = .int kv (n:Int):=by
  generalize ρv y=yy at hb
  cases hb;rfl
 simp only [Int.ofNat_eq_natCast,Int.toNat_natCast] at h1
 obtain ⟨cv,w',ρ',O',hh,ev,H',hr⟩:=appA_sound (P:=P) (z:=z.cells) (e:=e) (run:=(Builtin.append_ tys o.type #[ρv x,.int kv (n:Int)]).run P w) H ha h1 hall hlen hone' hzsz
  (by
   intro hn hx
   subst hn
   rw [hx]
   exact run_apz_nil0 w ht0 ht1 hu hint hie)
  (by
   intro a sLen sCap hn hx hle
   subst hn
   rw [hx]
   exact run_apz_zero w ht0 ht1 hu hint hie hle)
  (by
   intro b off sLen sCap hx hle hst
   rw [hx]
   rw [← hsz] at hst ⊢
   exact run_apz_room w ht0 ht1 hu hint hie hz (by omega) (by rw [hby];exact hbm) hle (by rw [hzsz,hsz]) hst)
  (by
   intro a sLen sCap oc hx hlt hm' hbb hfo
   rw [hx]
   exact run_apz_grow w ht0 ht1 hu hint hie hz (by rw [hzsz,hsz]) (hfo ie hsz) hlt hm' (by rw [hby];exact hbb))
 refine ⟨.value cv,cv,w',ρ',O',?_,.inl rfl,ev,H',hr⟩
 rw [hrun]
 simp [builtin,hy,hh]
theorem op_cpy (esz:Nat) (ag:Bool) (hf:fitK P num o (.cpy esz ag)=some l) (h1:op1 h k0 (.cpy esz ag) vs=some (v,eff)):Done P num Fb B0 ρ w O h ρv o v eff:=by
 simp only [fitK] at hf
 split at hf
 case h_2=>cases hf
 rename_i x y tys ho
 split at hf
 case h_2=>cases hf
 rename_i t ht0
 split at hf
 case h_2=>cases hf
 rename_i e hel
 obtain ⟨hft,rfl⟩:=guardO_eq hf
 obtain ⟨a,b,rfl,ha,hb⟩:=hv.two
 obtain ⟨cn,hrun⟩:=bcall_run (P:=P) (ρv := ρv) (w:=w) ho
 have hu:=elemT_eq hel
 obtain ⟨ie,hie,hsz,_⟩:=fitT_eq hft
 simp only [op1] at h1
 split at h1
 case h_2=>cases h1
 rename_i k e' off len cap
 split at h1
 case h_2=>cases h1
 rename_i e'' cs esz' ag' ti new n rd hgk hsrc
 split at h1
 case isFalse=>cases h1
 rename_i hc
 obtain ⟨rfl,hle⟩:=hc
 cases h1
 obtain ⟨cc,hall,hlen,hone,hcase⟩:=src_sound H hb hsrc
 have hcl:cc.length=n*esz:=by have:=hall.length;omega
 obtain ⟨cap',L,hx,hL,hlc,hcc',htt,hrm⟩:=ha.of_rf
 obtain ⟨L0,c,T,q1,q2,q3,q4,q5,q6,q7,q8,q9,q10⟩:=H.blk _ _ _ _ _ _ _ hgk
 rw [hL] at q1;cases q1
 have hmul:min n len*esz≤n*esz:=Nat.mul_le_mul_right _ (Nat.min_le_left _ _)
 have hmul2:min n len*esz≤len*esz:=Nat.mul_le_mul_right _ (Nat.min_le_right _ _)
 have hall':All2 (Rv num ρ w (fun b=>Fb b∨O b)) (new.take (min n len*esz)) (cc.take (min n len*esz)):=by
  refine All2.of_get (by simp;omega) ?_
  intro i x y hx hy
  rw [List.getElem?_take] at hx hy
  split at hx
  ·rename_i hi;rw [if_pos hi] at hy;exact hall.get i x y hx hy
  ·cases hx
 have htl:(cc.take (min n len*esz)).length=min n len*esz:=by simp;omega
 have hnl:(new.take (min n len*esz)).length=min n len*esz:=by simp;omega
 have hlenOf:(Builtin.lenOf (ρv y)).run P w = .ok n w:=(src_runs (P:=P) hcl hcase w rfl).1
 have hfirst:(Builtin.firstCells esz (min n len) (ρv y)).run P w = .ok (cc.take (min n len*esz)).toArray w:=by
  rcases hcase with ⟨⟨p,cap9,hy⟩,rfl⟩ | ⟨b',off',cap'',hy,hcell⟩ | ⟨s,hy,rfl,rfl,rfl⟩
  ·have:cc=[]:=List.eq_nil_of_length_eq_zero (by simpa using hcl)
   subst this
   rw [hy]
   cases p with
   | none=>rw [run_firstCells_none];simp
   | some a=>simpa using run_firstCells_some w esz 0 a 0 cap9 [] (by simp) (by simp)
  ·rw [hy]
   refine run_firstCells_some w esz (min n len) _ n cap'' _ htl (fun j u hj=>?_)
   rw [addr_add]
   rw [List.getElem?_take] at hj
   split at hj
   ·exact hcell j u hj
   ·cases hj
  ·rw [hy]
   simp only [Builtin.firstCells]
   have:((⟨s.toArray⟩:ByteArray).extract 0 (min s.length len)).data=(s.take (min s.length len)).toArray:=by
    rw [ByteArray.data_extract];simp
   rw [this]
   simp [List.map_take]
 have honec:∀ u∈cc.take (min n len*esz),u.oneCell'=true:=by
  intro u hu
  obtain ⟨j,hj⟩:=List.getElem?_of_mem hu
  have hjl:j < new.length:=by
   have:=(List.getElem?_eq_some_iff.1 hj).1
   rw [htl] at this
   have:=hall.length;omega
  rw [List.getElem?_take] at hj
  split at hj
  ·exact (hall.get j new[j] u (by simp [hjl]) hj).one_cell (allOne_mem hone j _ (by simp [hjl]))
  ·cases hj
 have hst:=run_storeCells_cells (P:=P) L.b (L.base+off) (cc.take (min n len*esz)) 0 w (by
  intro j hj
  rw [htl] at hj
  have:L.base+off+j < c.size:=by omega
  simp [World.cell?,q4,this]) (by intro j hj;simp [World.frozen?,q4]) honec
 simp only [Nat.add_zero] at hst
 obtain ⟨c',t1,t2,t3⟩:=write_block L.b T (cc.take (min n len*esz)) (L.base+off) w c q4 (by rw [htl];omega)
 obtain ⟨ev,H'⟩:=H.write hgk hL t1 (cs':=writeA cs off (new.take (min n len*esz))) (by omega) (by rw [length_writeA _ _ _ (by omega),hnl];omega) (by
  intro i x hx
  rw [get_writeA _ _ _ (by omega),hnl] at hx
  rw [t3,htl]
  by_cases a1:i < off
  ·rw [if_pos a1] at hx
   obtain ⟨y',hy',hr'⟩:=q7 i x hx
   rw [if_neg (by omega)]
   exact ⟨y',hy',hr'⟩
  ·rw [if_neg a1] at hx
   by_cases a2:i < off+min n len*esz
   ·rw [if_pos a2] at hx
    rw [if_pos (by omega)]
    have hlt:i - off < (cc.take (min n len*esz)).length:=by omega
    refine ⟨(cc.take (min n len*esz))[i - off],?_,hall'.get _ _ _ hx (List.getElem?_eq_getElem hlt)⟩
    rw [show L.base+i - (L.base+off)=i - off by omega]
    exact List.getElem?_eq_getElem hlt
   ·rw [if_neg a2] at hx
    obtain ⟨y',hy',hr'⟩:=q7 i x hx
    rw [if_neg (by omega)]
    exact ⟨y',hy',hr'⟩)
 refine ⟨.value (.int .i64 (min n len:Nat)),_,_,_,_,?_,.inl rfl,ev,H',.int _ _⟩
 rw [hrun]
 have hmin:Nat.min n len=min n len:=rfl
 simp [builtin,Builtin.copy_,ht0,run_underlying hu,hx,hlenOf,run_sizeOf' w hie,hsz,hmin,hfirst,hst,goInt]
end
end Go.Tev
end
section
namespace Go.Tev
open Go.RowKit
def ER (num:Nat→Nat) (ρ : Rho) (w:World) (F:Nat→Prop) (a:AV × AV) (b:MapEntry):Prop:=
 Rv num ρ w F a.1 b.key∧Rv num ρ w F a.2 b.val∧a.1.key=true∧a.2.fits a.2.cells.length a.2.isAgg=true
def descQ (q:Nat) (d:TypeDesc):Prop:=(q=0∧∃ k,d = .int k)∨(q=1∧d = .string)∨(q=2∧d = .bool)
theorem kindT_eq {P:Program} {t:TypeId} {q:Nat} (h:kindT P t q=true):∃ d,P.underlying t=some d∧descQ q d:=by
 match q,h with
 | 0,h=>obtain ⟨k,hk⟩:=isInt_eq h;exact ⟨_,hk,.inl ⟨rfl,k,rfl⟩⟩
 | 1,h=>exact ⟨_,isStr_eq h,.inr (.inl ⟨rfl,rfl⟩)⟩
 | 2,h=>exact ⟨_,isBool_eq h,.inr (.inr ⟨rfl,rfl⟩)⟩
 | n+3,h=>simp [kindT] at h
theorem keyQ_key {q:Nat} {x:AV} (h:x.keyQ q=true):x.key=true:=by
 unfold AV.keyQ at h
 split at h<;>first | rfl | cases h
theorem run_checkKey' {P:Program} {w:World} {kt:TypeId} {d:TypeDesc} {q:Nat} (k:Value) (hd:P.underlying kt=some d) (hq:descQ q d) (e:Bool):(Instr.checkKey e 10000 kt k).run P w = .ok () w:=by
 show (Instr.checkKey e (9999+1) kt k).run P w=_
 unfold Instr.checkKey
 simp only [Sem.run_bind,run_underlying hd,Result.andThen]
 rcases hq with ⟨_,j,rfl⟩ | ⟨_,rfl⟩ | ⟨_,rfl⟩<;>cases k<;>rfl
section
variable {num:Nat→Nat} {ρ : Rho} {w:World} {F:Nat→Prop}
theorem sameNow_of {d:TypeDesc} {q:Nat} {x y:AV} {cx cy:Value} {r:Bool} (hq:descQ q d) (hx:x.keyQ q=true) (he:eq1 x y=some r) (rx:Rv num ρ w F x cx) (ry:Rv num ρ w F y cy) :
  Instr.sameNow d cx cy=some r∧(r=true→cx=cy):=by
 rcases hq with ⟨rfl,j,rfl⟩ | ⟨rfl,rfl⟩ | ⟨rfl,rfl⟩
 ·cases x<;>simp [AV.keyQ] at hx
  cases y<;>simp only [eq1] at he<;>try (cases he;done)
  split at he
  case isFalse=>cases he
  rename_i hk
  cases he
  subst hk
  rw [rx.of_int,ry.of_int]
  refine ⟨by simp [Instr.sameNow,Bool.beq_eq_decide_eq],fun h=>?_⟩
  simp at h
  rw [h]
 ·cases x<;>simp [AV.keyQ] at hx
  cases y<;>simp only [eq1] at he<;>try (cases he;done)
  cases he
  rename_i a b
  rw [rx.of_str,ry.of_str]
  refine ⟨?_,fun h=>?_⟩
  ·have:((⟨a.toArray⟩:ByteArray) == ⟨b.toArray⟩)=decide (a=b):=by
    rw [Bool.eq_iff_iff,MapKept.bytes_beq]
    simp
   simp [Instr.sameNow,this]
  ·simp at h
   rw [h]
 ·cases x<;>simp [AV.keyQ] at hx
  cases y<;>simp only [eq1] at he<;>try (cases he;done)
  cases he
  rw [rx.of_bool,ry.of_bool]
  refine ⟨by simp [Instr.sameNow],fun h=>?_⟩
  simp at h
  rw [h]
theorem find_sound {d:TypeDesc} {q:Nat} {x:AV} {cx:Value} (hq:descQ q d) (hx:x.keyQ q=true) (rx:Rv num ρ w F x cx):∀ (es:List (AV × AV)) (cs:List MapEntry) (i:Nat) (r:Option AV),
  All2 (ER num ρ w F) es cs→mapFind es x=some r →
  (r=none∧Instr.findNow d cx cs i=some none∧(∀ u,mapSet es x u=es++[(x,u)])∧mapDel es x=es) ∨
  ∃ v j y,r=some v∧Instr.findNow d cx cs i=some (some (i+j,y.val))∧j < es.length∧cs[j]?=some y∧y.key=cx∧Rv num ρ w F v y.val∧(∀ u,mapSet es x u=es.set j (x,u))∧mapDel es x=es.eraseIdx j
 | [],_,i,r,h,hf=>by
  cases h
  simp only [mapFind,Option.some.injEq] at hf
  exact .inl ⟨hf.symm,rfl,fun u=>rfl,rfl⟩
 | (k,v) :: es,_,i,r,h,hf=>by
  cases h with
  | cons h1 h2=>
   rename_i b cs
   simp only [mapFind] at hf
   split at hf
   ·rename_i he
    cases hf
    obtain ⟨s1,s2⟩:=sameNow_of hq hx he rx h1.1
    refine .inr ⟨v,0,b,rfl,?_,by simp,rfl,(s2 rfl).symm,h1.2.1,fun u=>by simp [mapSet,he],by simp [mapDel,he]⟩
    simp [Instr.findNow,s1]
   ·rename_i he
    obtain ⟨s1,_⟩:=sameNow_of hq hx he rx h1.1
    rcases find_sound hq hx rx es cs (i+1) r h2 hf with ⟨a1,a2,a3,a4⟩ | ⟨v',j,y,a1,a2,a3,a4,a5,a6,a7,a8⟩
    ·refine .inl ⟨a1,by simp [Instr.findNow,s1,a2],fun u=>by simp [mapSet,he,a3],by simp [mapDel,he,a4]⟩
    ·refine .inr ⟨v',j+1,y,a1,by simp [Instr.findNow,s1,a2];omega,by simp;omega,by simpa using a4,a5,a6,fun u=>by simp [mapSet,he,a7],by simp [mapDel,he,a8]⟩
   ·cases hf
end
section
variable {num:Nat→Nat} {Fb:Nat→Prop} {B0:Nat} {ρ : Rho} {w w':World} {O:Nat→Prop} {h:Hp}
theorem ER.evo {ρ':Rho} {O':Nat→Prop} {a:AV × AV} {b:MapEntry} (hh:ER num ρ w (fun b=>Fb b∨O b) a b) (ev:Evo ρ w O ρ' w' O'):ER num ρ' w' (fun b=>Fb b∨O' b) a b:=
 ⟨hh.1.evo ev,hh.2.1.evo ev,hh.2.2⟩
theorem HpR.newM {k:Nat} (H:HpR num Fb B0 ρ w O h) (hp:Pushed w w' (.map #[] 0)) :
  Evo ρ w O (ρ.set k (h.next k) ⟨w.heap.size,0,0,false,0⟩) w' (fun b=>O b∨b=w.heap.size) ∧
  HpR num Fb B0 (ρ.set k (h.next k) ⟨w.heap.size,0,0,false,0⟩) w' (fun b=>O b∨b=w.heap.size) (h.put k (h.next k) (.mpo [])):=by
 have hf:=next_fresh H k
 have ev:Evo ρ w O (ρ.set k (h.next k) ⟨w.heap.size,0,0,false,0⟩) w' (fun b=>O b∨b=w.heap.size):=
  {os:=hp.os,tape:=hp.tape,output:=hp.output,size:=by rw [hp.size];omega,
   keep:=fun b hb _=>hp.old hb,own:=fun b hb hO=>hO.elim id (fun e=>by omega),rho:=Rho.set_keeps hf}
 refine ⟨ev,H.put ev ?_ (next_le h k) ?_ ?_ ?_ ?_⟩
 ·intro k' e' L hL
  unfold Rho.set at hL
  split at hL
  ·rename_i hc;exact .inr hc
  ·exact .inl hL
 ·intro b hO
  rw [hp.size]
  rcases hO with hO | rfl
  ·exact ⟨(H.own b hO).1,Nat.lt_of_lt_of_le (H.own b hO).2 (by omega)⟩
  ·exact ⟨H.le,by omega⟩
 ·intro k' e' o' L hk hg hd hL
  exact ⟨hp.old (H.loc_lt hg hd hL),.inl⟩
 ·refine ⟨_,#[],0,Rho.set_same _ _ _ _,hp.new,rfl,?_,H.le,.inr rfl⟩
  intro i x y hx
  simp at hx
 ·intro _ k' e' o' L L' hk hg hl hL' hL hb
  rw [Rho.set_same] at hL;cases hL
  have:=H.loc_lt hg (by intro e;subst e;cases hl) hL'
  simp at hb
  omega
theorem HpR.writeM {k e:Nat} {es es':List (AV × AV)} {L:Loc} {c':Array MapEntry} {clock':Nat} (H:HpR num Fb B0 ρ w O h)
  (hg:h.get k=some (e,.mpo es)) (hL : ρ k e=some L) (ht:Turned w w' L.b (.map c' clock')) (hc:All2 (ER num ρ w (fun b=>Fb b∨O b)) es' c'.toList) :
  Evo ρ w O ρ w' O∧HpR num Fb B0 ρ w' O (h.put k e (.mpo es')):=by
 obtain ⟨L0,c,clock,h1,h2,h3,h4,h5,h6⟩:=H.mpo _ _ _ hg
 rw [h1] at hL;cases hL
 have ev:Evo ρ w O ρ w' O:=ht.evo h6
 refine ⟨ev,H.put ev (fun _ _ _ h => .inl h) (fun e0 o0 g=>by rw [hg] at g;cases g;exact Nat.le_refl _) ?_ ?_ ?_ ?_⟩
 ·intro b hO;rw [ht.size];exact H.own b hO
 ·intro k' e' o' L' hk hg' hd hL'
  exact ⟨ht.other _ (live_ne H hg rfl h1 hk hg' hd hL'),id⟩
 ·refine ⟨L,c',clock',h1,ht.here,by simpa using hc.length,?_,h5,h6⟩
  intro i x y hx hy
  exact (hc.get i x y hx (by rw [Array.getElem?_toList];exact hy)).evo ev
 ·intro _ k' e' o' L1 L2 hk hg' hl hL' hL1 hb
  rw [h1] at hL1;cases hL1
  exact live_ne H hg rfl h1 hk hg' (by intro e;subst e;cases hl) hL' hb.symm
theorem HpR.all2M {k e:Nat} {es:List (AV × AV)} (H:HpR num Fb B0 ρ w O h) {L:Loc} (hg:h.get k=some (e,.mpo es)) (hL : ρ k e=some L) :
  ∃ (c:Array MapEntry) (clock:Nat),w.heap[L.b]?=some (.map c clock)∧All2 (ER num ρ w (fun b=>Fb b∨O b)) es c.toList:=by
 obtain ⟨L0,c,clock,h1,h2,h3,h4,h5,h6⟩:=H.mpo _ _ _ hg
 rw [h1] at hL;cases hL
 exact ⟨c,clock,h2,All2.of_get (by simpa using h3) (fun i x y hx hy=>h4 i x y hx (by rw [Array.getElem?_toList] at hy;exact hy))⟩
theorem turned_set {b:Nat} {o o':Obj} (hb:w.heap[b]?=some o):Turned w {w with heap:=w.heap.setIfInBounds b o'} b o':=
 ⟨rfl,rfl,rfl,by simp,(MapKept.heap_set hb).1,fun k hk=>(MapKept.heap_set hb).2 k hk⟩
end
theorem All2.set {α β : Type} {R : α → β → Prop}:∀ {l:List α} {m:List β} (j:Nat) {a : α} {b : β},All2 R l m→R a b→All2 R (l.set j a) (m.set j b)
 | _,_,_,_,_,.nil,_ => .nil
 | _,_,0,_,_,.cons _ h2,h => .cons h h2
 | _,_,j+1,_,_,.cons h1 h2,h => .cons h1 (h2.set j h)
theorem All2.eraseIdx {α β : Type} {R : α → β → Prop}:∀ {l:List α} {m:List β} (j:Nat),All2 R l m→All2 R (l.eraseIdx j) (m.eraseIdx j)
 | _,_,_,.nil => .nil
 | _,_,0,.cons _ h2=>h2
 | _,_,j+1,.cons h1 h2 => .cons h1 (h2.eraseIdx j)
theorem sameBits_key {num:Nat→Nat} {ρ : Rho} {w:World} {F:Nat→Prop} {x:AV} {c:Value} (h:Rv num ρ w F x c) (hx:x.key=true):Instr.sameBits 10000 c c=true:=by
 cases x<;>simp [AV.key] at hx
 ·rw [h.of_bool];simp [Instr.sameBits]
 ·rw [h.of_int];simp [Instr.sameBits]
 ·rw [h.of_str]
  simp only [Instr.sameBits]
  rw [MapKept.bytes_beq]
section
variable {P:Program} {num:Nat→Nat} {Fb:Nat→Prop} {B0:Nat} {ρ : Rho} {w:World} {O:Nat→Prop} {h:Hp} {ρv:Operand→Value} {o:Oper}
variable (H:HpR num Fb B0 ρ w O h)
variable {k0:Nat} {l:List Operand} {vs:List AV} {v:AV} {eff:Eff}
variable (hv:All2 (Rv num ρ w (fun b=>Fb b∨O b)) vs (l.map ρv))
include H hv
theorem op_mkm (hf:fitK P num o .mkm=some l) (h1:op1 h k0 .mkm vs=some (v,eff)):Done P num Fb B0 ρ w O h ρv o v eff:=by
 simp only [fitK] at hf
 split at hf
 case h_2=>cases hf
 rename_i t ho
 cases hf
 cases hv
 simp only [op1,newA,Option.some.injEq,Prod.mk.injEq] at h1
 obtain ⟨rfl,rfl⟩:=h1
 obtain ⟨ev,H'⟩:=H.newM (k:=k0) (pushed_alloc w (.map #[] 0))
 refine ⟨_,.map (some w.heap.size),_,_,_,?_,.inl rfl,ev,H',?_⟩
 ·simp only [execOp,ho,Option.map_none]
  rfl
 ·exact .mp _ _ _ (Rho.set_same _ _ _ _)
theorem op_mlk (q:Nat) (zero:AV) (ok:Bool) (hf:fitK P num o (.mlk q zero ok)=some l) (h1:op1 h k0 (.mlk q zero ok) vs=some (v,eff)):Done P num Fb B0 ρ w O h ρv o v eff:=by
 simp only [fitK] at hf
 split at hf
 case h_2=>cases hf
 rename_i t m x ok' ho
 split at hf
 case h_2=>cases hf
 rename_i kt et hu
 obtain ⟨hg,rfl⟩:=guardO_eq hf
 simp only [Bool.and_eq_true,beq_iff_eq] at hg
 obtain ⟨⟨rfl,hk⟩,hz⟩:=hg
 obtain ⟨a,b,rfl,ha,hb⟩:=hv.two
 obtain ⟨d,hd,hq⟩:=kindT_eq hk
 obtain ⟨z,hzr,hzv⟩:∃ z,(zeroValue et).run P w = .ok z w∧Rv num ρ w (fun b=>Fb b∨O b) zero z:=by
  unfold fitZV at hz
  split at hz
  case h_2=>cases hz
  rename_i i hi
  split at hz
  case h_2=>cases hz
  rename_i z hz'
  refine ⟨z,?_,fitV_sound hz⟩
  simp [zeroValue,typeInfo,hi,hz',Sem.run,Result.andThen]
 have fin:∀ (v1:AV) (c1:Value) (b1:Bool),Rv num ρ w (fun b=>Fb b∨O b) v1 c1→Rv num ρ w (fun b=>Fb b∨O b) (if ok then .tup [v1,.bool b1] else v1) (if ok then .tuple #[c1,.bool b1] else c1):=by
  intro v1 c1 b1 hr
  cases ok
  ·exact hr
  ·exact .of_all2_tup (.cons hr (.cons (.bool _) .nil))
 simp only [op1] at h1
 split at h1
 ·split at h1
  case isFalse=>cases h1
  rename_i hx
  obtain ⟨rfl,rfl⟩:=val_eq h1
  have hm:=ha.of_nilm
  refine .val H (cv:=if ok then .tuple #[z,.bool false] else z) ?_ (fin _ _ _ hzv)
  simp only [execOp,ho,hm]
  simp [Instr.lookup,run_underlying hu,Result.andThen,run_checkKey' (ρv x) hd hq,MapKept.run_findKey (w:=w) hd (show Instr.findNow d (ρv x) [] 0=some none from rfl),hzr]
 ·split at h1
  case h_2=>cases h1
  rename_i k e e' es hgk
  split at h1
  case isFalse=>cases h1
  rename_i hc
  obtain ⟨rfl,hx⟩:=hc
  obtain ⟨L,hm,hL⟩:=ha.of_mp
  obtain ⟨c,clock,hh,hall⟩:=H.all2M hgk hL
  split at h1
  ·rename_i v1 hfd
   cases h1
   rcases find_sound hq hx hb es c.toList 0 _ hall hfd with ⟨h0,_⟩ | ⟨v',j,y,h0,hn,_,_,_,hr,_⟩
   ·cases h0
   ·cases h0
    refine .val H (cv:=if ok then .tuple #[y.val,.bool true] else y.val) ?_ (fin _ _ _ hr)
    simp only [execOp,ho,hm]
    simp [Instr.lookup,run_underlying hu,Result.andThen,run_checkKey' (ρv x) hd hq,MapKept.run_getObj_map hh,MapKept.run_findKey (w:=w) hd hn]
  ·rename_i hfd
   cases h1
   rcases find_sound hq hx hb es c.toList 0 _ hall hfd with ⟨_,hn,_⟩ | ⟨v',j,y,h0,_⟩
   ·refine .val H (cv:=if ok then .tuple #[z,.bool false] else z) ?_ (fin _ _ _ hzv)
    simp only [execOp,ho,hm]
    simp [Instr.lookup,run_underlying hu,Result.andThen,run_checkKey' (ρv x) hd hq,MapKept.run_getObj_map hh,MapKept.run_findKey (w:=w) hd hn,hzr]
   ·cases h0
  ·cases h1
 ·cases h1
theorem op_mup (q:Nat) (hf:fitK P num o (.mup q)=some l) (h1:op1 h k0 (.mup q) vs=some (v,eff)):Done P num Fb B0 ρ w O h ρv o v eff:=by
 simp only [fitK] at hf
 split at hf
 case h_2=>cases hf
 rename_i t m x y ho
 split at hf
 case h_2=>cases hf
 rename_i kt et hu
 obtain ⟨hk,rfl⟩:=guardO_eq hf
 obtain ⟨a,b,c0,rfl,ha,hb,hc0⟩:=hv.three
 obtain ⟨d,hd,hq⟩:=kindT_eq hk
 simp only [op1] at h1
 split at h1
 case h_2=>cases h1
 rename_i k e
 split at h1
 case h_2=>cases h1
 rename_i e' es hgk
 split at h1
 case isFalse=>cases h1
 rename_i hc
 obtain ⟨rfl,hx,hfit⟩:=hc
 split at h1
 case h_2=>cases h1
 rename_i r hfd
 cases h1
 obtain ⟨L,hm,hL⟩:=ha.of_mp
 obtain ⟨c,clock,hh,hall⟩:=H.all2M hgk hL
 have hex:∀ w',(Instr.mapUpdate t (ρv m) (ρv x) (ρv y)).run P w = .ok () w'→(execOp ρv o).run P w = .ok .skip w':=by
  intro w' hr
  unfold mupO at ho
  split at ho
  ·rename_i e1;cases ho;simp only [execOp,e1];simp [hr,Result.andThen]
  ·rename_i e1;cases ho;simp only [execOp,e1];simp [hr,Result.andThen]
  ·cases ho
 have her:ER num ρ w (fun b=>Fb b∨O b) (b,c0) {key := ρv x,val := ρv y,born:=0}:=⟨hb,hc0,keyQ_key hx,hfit⟩
 rcases find_sound hq hx hb es c.toList 0 _ hall hfd with ⟨_,hn,hset,_⟩ | ⟨v',j,y',_,hn,hj,hy,hkey,_,hset,_⟩
 ·have ht:Turned w {w with heap:=w.heap.setIfInBounds L.b (.map (c.push {key := ρv x,val := ρv y,born:=clock}) (clock+1))} L.b (.map (c.push {key := ρv x,val := ρv y,born:=clock}) (clock+1)):=turned_set hh
  obtain ⟨ev,H'⟩:=H.writeM (es':=mapSet es b c0) hgk hL ht (by
   rw [hset,Array.toList_push]
   exact hall.append (.cons ⟨hb,hc0,keyQ_key hx,hfit⟩ .nil))
  refine ⟨.skip,undef,_,ρ,O,hex _ ?_,.inr ⟨rfl,rfl⟩,ev,H',.tup [] #[] rfl (by intro i x y hx;simp at hx)⟩
  rw [hm]
  simp [Instr.mapUpdate,run_underlying hu,Result.andThen,run_checkKey' (ρv x) hd hq,MapKept.run_getObj_map hh,MapKept.run_findKey (w:=w) hd hn,MapKept.run_setObj_map _ hh]
 ·simp only [Nat.zero_add] at hn
  have hyk:c[j]?=some y':=by rw [Array.getElem?_toList] at hy;exact hy
  have ht:Turned w {w with heap:=w.heap.setIfInBounds L.b (.map (c.modify j fun e=>{e with key := ρv x,val := ρv y}) clock)} L.b (.map (c.modify j fun e=>{e with key := ρv x,val := ρv y}) clock):=turned_set hh
  have hl:(c.modify j fun e=>{e with key := ρv x,val := ρv y}).toList=c.toList.set j {y' with key := ρv x,val := ρv y}:=by
   apply List.ext_getElem?
   intro i
   simp only [Array.getElem?_toList,Array.getElem?_modify,List.getElem?_set]
   by_cases hij:j=i
   ·subst hij
    have hlt:j < c.size:=(Array.getElem?_eq_some_iff.1 hyk).1
    have hcj:c[j]=y':=by
     have:=Array.getElem?_eq_getElem hlt
     rw [this] at hyk
     exact Option.some.inj hyk
    simp [hlt,hcj]
   ·simp [hij]
  obtain ⟨ev,H'⟩:=H.writeM (es':=mapSet es b c0) hgk hL ht (by
   rw [hset,hl]
   exact hall.set j ⟨hb,hc0,keyQ_key hx,hfit⟩)
  refine ⟨.skip,undef,_,ρ,O,hex _ ?_,.inr ⟨rfl,rfl⟩,ev,H',.tup [] #[] rfl (by intro i x y hx;simp at hx)⟩
  rw [hm]
  have hsb:(Instr.keyThatStays (((c[j]?).map (·.key)).getD (ρv x)) (ρv x)).run P w = .ok (ρv x) w:=by
   rw [hyk]
   simp only [Option.map_some,Option.getD_some,hkey]
   simp [Instr.keyThatStays,sameBits_key hb (keyQ_key hx)]
  simp [Instr.mapUpdate,run_underlying hu,Result.andThen,run_checkKey' (ρv x) hd hq,MapKept.run_getObj_map hh,MapKept.run_findKey (w:=w) hd hn,MapKept.run_setObj_map _ hh,hsb]
theorem op_mdel (q:Nat) (hf:fitK P num o (.mdel q)=some l) (h1:op1 h k0 (.mdel q) vs=some (v,eff)):Done P num Fb B0 ρ w O h ρv o v eff:=by
 simp only [fitK] at hf
 split at hf
 case h_2=>cases hf
 rename_i m x tys ho
 split at hf
 case h_2=>cases hf
 rename_i t ht0
 split at hf
 case h_2=>cases hf
 rename_i kt et hu
 obtain ⟨hk,rfl⟩:=guardO_eq hf
 obtain ⟨a,b,rfl,ha,hb⟩:=hv.two
 obtain ⟨d,hd,hq⟩:=kindT_eq hk
 obtain ⟨cn,hrun⟩:=bcall_run (P:=P) (ρv := ρv) (w:=w) ho
 simp only [op1] at h1
 split at h1
 ·split at h1
  case isFalse=>cases h1
  rename_i hx
  obtain ⟨rfl,rfl⟩:=val_eq h1
  have hm:=ha.of_nilm
  refine .val H (cv:=.tuple #[]) ?_ (.tup [] #[] rfl (by intro i x y hx;simp at hx))
  rw [hrun]
  simp [builtin,Builtin.delete_,ht0,hm,run_underlying hu,Result.andThen,run_checkKey' (ρv x) hd hq]
 ·split at h1
  case h_2=>cases h1
  rename_i k e e' es hgk
  split at h1
  case isFalse=>cases h1
  rename_i hc
  obtain ⟨rfl,hx⟩:=hc
  split at h1
  case h_2=>cases h1
  rename_i r hfd
  cases h1
  obtain ⟨L,hm,hL⟩:=ha.of_mp
  obtain ⟨c,clock,hh,hall⟩:=H.all2M hgk hL
  rcases find_sound hq hx hb es c.toList 0 _ hall hfd with ⟨_,hn,_,hdel⟩ | ⟨v',j,y',_,hn,hj,hy,hkey,_,_,hdel⟩
  ·have ht:Turned w {w with heap:=w.heap.setIfInBounds L.b (.map c clock)} L.b (.map c clock):=turned_set hh
   obtain ⟨ev,H'⟩:=H.writeM (es':=mapDel es b) hgk hL ht (by rw [hdel];exact hall)
   refine ⟨.value (.tuple #[]),.tuple #[],_,ρ,O,?_,.inl rfl,ev,H',.tup [] #[] rfl (by intro i x y hx;simp at hx)⟩
   rw [hrun]
   simp [builtin,Builtin.delete_,ht0,hm,run_underlying hu,Result.andThen,run_checkKey' (ρv x) hd hq,MapKept.run_getObj_map hh,MapKept.run_findKey (w:=w) hd hn,MapKept.run_setObj_map _ hh]
  ·simp only [Nat.zero_add] at hn
   have hjl:j < c.size:=by
    rw [Array.getElem?_toList] at hy
    exact (Array.getElem?_eq_some_iff.1 hy).1
   have ht:Turned w {w with heap:=w.heap.setIfInBounds L.b (.map (c.eraseIdxIfInBounds j) clock)} L.b (.map (c.eraseIdxIfInBounds j) clock):=turned_set hh
   obtain ⟨ev,H'⟩:=H.writeM (es':=mapDel es b) hgk hL ht (by
    have:(c.eraseIdxIfInBounds j).toList=c.toList.eraseIdx j:=by
     unfold Array.eraseIdxIfInBounds
     rw [dif_pos hjl,Array.toList_eraseIdx]
    rw [hdel,this]
    exact hall.eraseIdx j)
   refine ⟨.value (.tuple #[]),.tuple #[],_,ρ,O,?_,.inl rfl,ev,H',.tup [] #[] rfl (by intro i x y hx;simp at hx)⟩
   rw [hrun]
   simp [builtin,Builtin.delete_,ht0,hm,run_underlying hu,Result.andThen,run_checkKey' (ρv x) hd hq,MapKept.run_getObj_map hh,MapKept.run_findKey (w:=w) hd hn,MapKept.run_setObj_map _ hh]
 ·cases h1
end
end Go.Tev
end
section
namespace Go.Tev
open Go.RowKit
section
variable {P:Program} {num:Nat→Nat} {Fb:Nat→Prop} {B0:Nat} {ρ : Rho} {w:World} {O:Nat→Prop} {h:Hp} {ρv:Operand→Value} {o:Oper}
def Ob.isBlk:Ob→Bool
 | .blk .. => true
 | _=>false
def SB (ρ : Rho) (h:Hp) (S:List Nat) (b:Nat):Prop:=∃ k e o L,k∈S∧h.get k=some (e,o)∧o.isBlk=true ∧ ρ k e=some L∧L.b=b
theorem mapS_get {f:AV→Option (AV × List Nat)}:∀ {l:List AV} {l':List AV} {s:List Nat},mapS f l=some (l',s) →
  l'.length=l.length∧∀ (i:Nat) (x:AV),l[i]?=some x→∃ x' s',l'[i]?=some x'∧f x=some (x',s')∧∀ k∈s',k∈s
 | [],l',s,h=>by
  simp [mapS] at h
  obtain ⟨rfl,rfl⟩:=h
  exact ⟨rfl,by intro i x hx;simp at hx⟩
 | y :: r,l',s,h=>by
  unfold mapS at h
  split at h
  ·cases h
  ·rename_i y' s1 hy
   split at h
   ·cases h
   ·rename_i r' s2 hr
    cases h
    obtain ⟨h1,h2⟩:=mapS_get hr
    refine ⟨by simp [h1],?_⟩
    intro i x hx
    cases i with
    | zero=>simp at hx;subst hx;exact ⟨y',s1,rfl,hy,fun k hk=>List.mem_append_left _ hk⟩
    | succ i=>
     obtain ⟨x',s',q1,q2,q3⟩:=h2 i x (by simpa using hx)
     exact ⟨x',s',by simpa using q1,q2,fun k hk=>List.mem_append_right _ (q3 k hk)⟩
theorem snap_agg {d:Nat} {v t:AV} {s:List Nat} (hs:snap d h v=some (t,s)):t.isAgg=v.isAgg∧t.cells.length=v.cells.length:=by
 cases d with
 | zero=>simp [snap] at hs
 | succ d=>
  unfold snap at hs
  split at hs
  ·cases hs;exact ⟨rfl,rfl⟩
  ·split at hs
   ·rename_i cs _
    cases hm:mapS (snap d h) cs with
    | none=>simp [hm] at hs
    | some r=>
     simp [hm] at hs
     obtain ⟨rfl,_⟩:=hs
     exact ⟨rfl,(mapS_get hm).1⟩
   ·rename_i cs _
    cases hm:mapS (snap d h) cs<;>simp [hm] at hs
    obtain ⟨rfl,_⟩:=hs;exact ⟨rfl,rfl⟩
   ·rename_i nl es cl _
    cases hm:mapS (snap d h) es<;>simp [hm] at hs
    obtain ⟨rfl,_⟩:=hs;exact ⟨rfl,rfl⟩
   ·rename_i v' _
    cases hm:snap d h v'<;>simp [hm] at hs
    obtain ⟨rfl,_⟩:=hs;exact ⟨rfl,rfl⟩
   ·rename_i f cs _
    cases hm:mapS (snap d h) cs<;>simp [hm] at hs
    obtain ⟨rfl,_⟩:=hs;exact ⟨rfl,rfl⟩
   ·split at hs
    ·split at hs
     ·split at hs
      ·rename_i es _
       cases hm:mapS (snap d h) es<;>simp [hm] at hs
       obtain ⟨rfl,_⟩:=hs;exact ⟨rfl,rfl⟩
      ·cases hs
     ·cases hs
    ·cases hs
   ·split at hs
    ·split at hs
     ·split at hs
      ·split at hs
       ·cases hs;exact ⟨rfl,rfl⟩
       ·split at hs
        ·split at hs
         ·cases hs
         ·cases hs;exact ⟨rfl,rfl⟩
        ·cases hs
      ·cases hs
     ·cases hs
    ·cases hs
   ·cases hs
theorem chunk_get {esz:Nat} {ag:Bool}:∀ {n:Nat} {cs es:List AV},chunk esz ag n cs=some es →
  es.length=n∧n*esz≤cs.length∧∀ (i:Nat) (e:AV),es[i]?=some e→e.cells.length=esz∧e.isAgg=ag∧∀ j:Nat,j < esz→e.cells[j]?=cs[i*esz+j]?
 | 0,cs,es,h=>by
  simp [chunk] at h;subst h
  exact ⟨rfl,by simp,by intro i e he;simp at he⟩
 | n+1,cs,es,h=>by
  unfold chunk at h
  split at h
  ·rename_i hag;subst hag
   split at h
   ·cases h
   ·rename_i hl
    cases hc:chunk esz true n (cs.drop esz) with
    | none=>simp [hc] at h
    | some r=>
     simp [hc] at h
     subst h
     obtain ⟨h1,h2,h3⟩:=chunk_get hc
     simp at h2
     refine ⟨by simp [h1],by rw [Nat.add_mul];omega,?_⟩
     intro i e he
     cases i with
     | zero=>
      simp at he;subst he
      refine ⟨by simp [AV.cells];omega,rfl,fun j hj=>by simp [AV.cells,List.getElem?_take,hj]⟩
     | succ i=>
      obtain ⟨q1,q2,q3⟩:=h3 i e (by simpa using he)
      refine ⟨q1,q2,fun j hj=>?_⟩
      rw [q3 j hj,List.getElem?_drop,Nat.add_mul]
      congr 1;omega
  ·rename_i hag
   have hag':ag=false:=by simpa using hag
   subst hag'
   split at h
   ·rename_i c r
    split at h
    ·cases h
    ·rename_i hna
     cases hc:chunk 1 false n r with
     | none=>simp [hc] at h
     | some r'=>
      simp [hc] at h
      subst h
      obtain ⟨h1,h2,h3⟩:=chunk_get hc
      have hcells:c.cells=[c]:=by cases c<;>first | rfl | simp [AV.isAgg] at hna
      refine ⟨by simp [h1],by simp at h2 ⊢;omega,?_⟩
      intro i e he
      cases i with
      | zero=>
       simp at he;subst he
       refine ⟨by rw [hcells];rfl,by simpa using hna,fun j hj=>?_⟩
       have:j=0:=by omega
       subst this
       rw [hcells];rfl
      | succ i=>
       obtain ⟨q1,q2,q3⟩:=h3 i e (by simpa using he)
       refine ⟨q1,q2,fun j hj=>?_⟩
       rw [q3 j hj]
       have:j=0:=by omega
       subst this
       simp
   ·cases h
theorem elem_snap {ρ0:Rho} {F F':Nat→Prop} {d:Nat} {e e':AV} {s:List Nat} {m:Nat→Value} (hs:snap d h e=some (e',s))
  (ih:∀ c,Rv num ρ w F e c→Rv num ρ0 w F' e' c) (hm:∀ (j:Nat) (x:AV),e.cells[j]?=some x→Rv num ρ w F x (m j)) :
  ∀ (j:Nat) (x:AV),e'.cells[j]?=some x→Rv num ρ0 w F' x (m j):=by
 obtain ⟨h1,h2⟩:=snap_agg hs
 cases he:e.isAgg with
 | true=>
  cases e<;>simp [AV.isAgg] at he
  rename_i cs
  rw [show (AV.agg cs).isAgg=true from rfl] at h1
  cases e'<;>simp [AV.isAgg] at h1
  rename_i cs'
  simp only [AV.cells] at h2 hm ⊢
  have hr:Rv num ρ w F (.agg cs) (.agg ((List.range cs.length).map m).toArray):=by
   refine .agg _ _ (by simp) ?_
   intro i x y hx hy
   have hi:=(List.getElem?_eq_some_iff.1 hx).1
   simp [hi] at hy
   subst hy
   exact hm i x hx
  obtain ⟨vs,hvs,hl,hg⟩:=(ih _ hr).of_agg
  cases hvs
  intro j x hx
  have hj:=(List.getElem?_eq_some_iff.1 hx).1
  have hj':j < cs.length:=by omega
  exact hg j x (m j) hx (by simp [hj'])
 | false=>
  rw [he] at h1
  have c1:e.cells=[e]:=by cases e<;>first | rfl | simp [AV.isAgg] at he
  have c2:e'.cells=[e']:=by cases e'<;>first | rfl | simp [AV.isAgg] at h1
  rw [c1] at hm
  rw [c2]
  intro j x hx
  cases j with
  | zero=>simp at hx;subst hx;exact ih _ (hm 0 e rfl)
  | succ j=>simp at hx
theorem snap_sound (H:HpR num Fb B0 ρ w O h) {ρ0:Rho} {F':Nat→Prop} (hF:∀ b,F' b→Fb b∨O b):∀ (d:Nat) (v t:AV) (s:List Nat) (c:Value),snap d h v=some (t,s) →
  Rv num ρ w (fun b=>Fb b∨O b) v c→(∀ b,SB ρ h s b→¬ F' b)→Rv num ρ0 w F' t c
 | 0,_,_,_,_,hs,_,_=>by simp [snap] at hs
 | d+1,v,t,s,c,hs,hr,hS=>by
  unfold snap at hs
  split at hs
  ·rename_i ht
   cases hs
   exact hr.tree_mono ht hF
  ·have hsub:∀ (s':List Nat),(∀ k∈s',k∈s)→∀ b,SB ρ h s' b→¬ F' b:=by
    intro s' hs' b hb
    obtain ⟨k,e,o,L,h1,h2⟩:=hb
    exact hS b ⟨k,e,o,L,hs' k h1,h2⟩
   split at hs
   ·rename_i cs _
    cases hm:mapS (snap d h) cs with
    | none=>simp [hm] at hs
    | some r=>
     simp [hm] at hs
     obtain ⟨rfl,rfl⟩:=hs
     obtain ⟨vs,rfl,hl,hg⟩:=hr.of_agg
     obtain ⟨m1,m2⟩:=mapS_get hm
     refine .agg _ _ (by omega) ?_
     intro i x y hx hy
     have hi:i < cs.length:=by have:=(List.getElem?_eq_some_iff.1 hx).1;omega
     obtain ⟨x',s',q1,q2,q3⟩:=m2 i cs[i] (by simp [hi])
     rw [hx] at q1;cases q1
     exact snap_sound H hF d _ _ _ _ q2 (hg i _ y (by simp [hi]) hy) (hsub s' q3)
   ·rename_i cs _
    cases hm:mapS (snap d h) cs with
    | none=>simp [hm] at hs
    | some r=>
     simp [hm] at hs
     obtain ⟨rfl,rfl⟩:=hs
     obtain ⟨vs,rfl,hl,hg⟩:=hr.of_tup
     obtain ⟨m1,m2⟩:=mapS_get hm
     refine .tup _ _ (by omega) ?_
     intro i x y hx hy
     have hi:i < cs.length:=by have:=(List.getElem?_eq_some_iff.1 hx).1;omega
     obtain ⟨x',s',q1,q2,q3⟩:=m2 i cs[i] (by simp [hi])
     rw [hx] at q1;cases q1
     exact snap_sound H hF d _ _ _ _ q2 (hg i _ y (by simp [hi]) hy) (hsub s' q3)
   ·rename_i nl es cl _
    cases hm:mapS (snap d h) es with
    | none=>simp [hm] at hs
    | some r=>
     simp [hm] at hs
     obtain ⟨rfl,rfl⟩:=hs
     obtain ⟨m1,m2⟩:=mapS_get hm
     cases nl with
     | true=>
      obtain ⟨rfl,rfl⟩:=hr.of_nsl
      have:r.1=[]:=List.eq_nil_of_length_eq_zero (by simpa using m1)
      rw [this]
      exact .nsl _
     | false=>
      obtain ⟨b,off,cap,sz,m,sp,rfl,hsp,hc,hcl,hFF,hz,hm',hrr⟩:=hr.of_sl
      rw [← m1]
      rw [← m1] at hc hcl hm'
      refine .sl r.1 cl b off cap sz m hc hcl ?_ ?_ hm' ?_ sp (fun hne=>hsp (by intro q;subst q;exact hne (List.eq_nil_of_length_eq_zero (by simpa using m1))))
      ·intro hne
       have hne':es ≠ []:=by intro q;subst q;exact hne (List.eq_nil_of_length_eq_zero (by simpa using m1))
       exact ⟨fun q=>(hFF hne').1 (hF b q),(hFF hne').2⟩
      ·intro i e' he'
       have hi:i < es.length:=by have:=(List.getElem?_eq_some_iff.1 he').1;omega
       obtain ⟨x',s',q1,q2,q3⟩:=m2 i es[i] (by simp [hi])
       rw [he'] at q1;cases q1
       rw [(snap_agg q2).2]
       exact hz i _ (by simp [hi])
      ·intro i e' j x he' hx
       have hi:i < es.length:=by have:=(List.getElem?_eq_some_iff.1 he').1;omega
       obtain ⟨x',s',q1,q2,q3⟩:=m2 i es[i] (by simp [hi])
       rw [he'] at q1;cases q1
       exact elem_snap (m:=fun j=>m (i*sz+j)) q2 (fun c hc'=>snap_sound H hF d _ _ _ c q2 hc' (hsub s' q3)) (fun j x hx=>hrr i _ j x (by simp [hi]) hx) j x hx
   ·rename_i v' _
    cases hm:snap d h v' with
    | none=>simp [hm] at hs
    | some r=>
     simp [hm] at hs
     obtain ⟨rfl,rfl⟩:=hs
     obtain ⟨t',c',rfl,h2⟩:=hr.of_ifc
     exact .ifc _ _ _ (snap_sound H hF d _ _ _ _ hm h2 hS)
   ·rename_i f cs _
    cases hm:mapS (snap d h) cs with
    | none=>simp [hm] at hs
    | some r=>
     simp [hm] at hs
     obtain ⟨rfl,rfl⟩:=hs
     obtain ⟨vs,rfl,hl,hg⟩:=hr.of_fn
     obtain ⟨m1,m2⟩:=mapS_get hm
     refine .fn _ _ _ (by omega) ?_
     intro i x y hx hy
     have hi:i < cs.length:=by have:=(List.getElem?_eq_some_iff.1 hx).1;omega
     obtain ⟨x',s',q1,q2,q3⟩:=m2 i cs[i] (by simp [hi])
     rw [hx] at q1;cases q1
     exact snap_sound H hF d _ _ _ _ q2 (hg i _ y (by simp [hi]) hy) (hsub s' q3)
   ·rename_i k e off len cap _
    split at hs
    case h_2=>cases hs
    rename_i e' cs esz ag ti fz hgk
    split at hs
    case isFalse=>cases hs
    rename_i he;subst he
    split at hs
    case h_2=>cases hs
    rename_i es hch
    cases hm:mapS (snap d h) es with
    | none=>simp [hm] at hs
    | some r=>
     simp [hm] at hs
     obtain ⟨rfl,rfl⟩:=hs
     obtain ⟨m1,m2⟩:=mapS_get hm
     obtain ⟨c1,c2,c3⟩:=chunk_get hch
     obtain ⟨cap',L,rfl,hL,hlc,hcc,htt,hrm⟩:=hr.of_rf
     obtain ⟨L0,cb,T,q1,q2,q3,q4,q5,q6,q7,q8,q9,q10⟩:=H.blk _ _ _ _ _ _ _ hgk
     rw [hL] at q1;cases q1
     have hnF:¬ F' L.b:=hS L.b ⟨k,e',_,L,by simp,hgk,rfl,hL,rfl⟩
     have hlt:L.b < w.heap.size:=H.loc_lt hgk (by simp) hL
     have hrl:r.1.length=len:=by omega
     have hcell:∀ n,n < len*esz→w.cell? ⟨L.b,L.base+off+n,none⟩=some (cb.getD (L.base+off+n) undef):=by
      intro n hn
      simp at c2
      have:L.base+off+n < cb.size:=by omega
      simp [World.cell?,q4,this]
     have key:=Rv.sl (num:=num) (ρ := ρ0) (w:=w) (F:=F') r.1 (ti&&len == cap) L.b (L.base+off) cap' esz (fun n=>cb.getD (L.base+off+n) undef) (by omega)
      (fun q=>by
       simp only [Bool.and_eq_true,beq_iff_eq] at q
       have:=htt (by rw [q2];exact q.1)
       omega)
      (fun _=>⟨hnF,hlt⟩)
      (by
       intro i u hu
       have hi:i < es.length:=by have:=(List.getElem?_eq_some_iff.1 hu).1;omega
       obtain ⟨x',s',p1,p2,p3⟩:=m2 i es[i] (by simp [hi])
       rw [hu] at p1;cases p1
       rw [(snap_agg p2).2]
       exact (c3 i _ (by simp [hi])).1)
      (by intro n hn;rw [hrl] at hn;exact hcell n hn)
      (by
       intro i u j x hu hx
       have hi:i < es.length:=by have:=(List.getElem?_eq_some_iff.1 hu).1;omega
       obtain ⟨x',s',p1,p2,p3⟩:=m2 i es[i] (by simp [hi])
       rw [hu] at p1;cases p1
       refine elem_snap (m:=fun j=>cb.getD (L.base+off+(i*esz+j)) undef) p2 (fun c hc'=>snap_sound H hF d _ _ _ c p2 hc' (hsub s' (fun k hk=>List.mem_cons_of_mem _ (p3 k hk)))) ?_ j x hx
       intro j x hx
       obtain ⟨d1,d2,d3⟩:=c3 i es[i] (by simp [hi])
       have hj:j < esz:=by have:=(List.getElem?_eq_some_iff.1 hx).1;omega
       rw [d3 j hj,List.getElem?_drop] at hx
       obtain ⟨y,hy,hr'⟩:=q7 _ x hx
       rw [← Nat.add_assoc] at hy
       simp [hy]
       exact hr')
     rw [hrl] at key
     exact key none (fun _=>rfl)
   ·rename_i k e off _
    split at hs
    case h_2=>cases hs
    rename_i e' cs esz ag ti fz hgk
    split at hs
    case isFalse=>cases hs
    rename_i he
    obtain ⟨rfl,rfl,rfl⟩:=he
    split at hs
    case h_2=>cases hs
    rename_i l s1 hm
    obtain ⟨m1,m2⟩:=mapS_get hm
    obtain ⟨L,rfl,hL⟩:=hr.of_pt
    obtain ⟨L0,cb,T,q1,q2,q3,q4,q5,q6,q7,q8,q9,q10⟩:=H.blk _ _ _ _ _ _ _ hgk
    rw [hL] at q1;cases q1
    have hcell:∀ n,n < cs.length→w.cell? ⟨L.b,L.base+0+n,none⟩=some (cb.getD (L.base+n) undef):=by
     intro n hn
     have:L.base+n < cb.size:=by omega
     simp [World.cell?,q4,this]
    have hlt:L.b < w.heap.size:=H.loc_lt hgk (by simp) hL
    have hval:∀ (i:Nat) (x:AV),(∀ k∈s1,k∈s)→l[i]?=some x→Rv num ρ0 w F' x (cb.getD (L.base+i) undef):=by
     intro i x hsub1 hx
     have hi:i < cs.length:=by have:=(List.getElem?_eq_some_iff.1 hx).1;omega
     obtain ⟨x',s',p1,p2,p3⟩:=m2 i cs[i] (by simp [hi])
     rw [hx] at p1;cases p1
     obtain ⟨y,hy,hr'⟩:=q7 i cs[i] (by simp [hi])
     have:cb.getD (L.base+i) undef=y:=by simp [hy]
     rw [this]
     exact snap_sound H hF d _ _ _ y p2 hr' (hsub s' (fun k hk=>hsub1 k (p3 k hk)))
    split at hs
    ·cases hs
     have hnF:¬ F' L.b:=hS L.b ⟨k,e',_,L,by simp,hgk,rfl,hL,rfl⟩
     refine .fp _ _ _ (fun n=>cb.getD (L.base+n) undef) hnF hlt (fun n hn=>hcell n (by simp [AV.cells] at hn;omega)) ?_
     intro j x hx
     exact hval j x (fun k hk=>List.mem_cons_of_mem _ hk) hx
    ·split at hs
     ·rename_i v1
      split at hs
      ·cases hs
      ·rename_i hna
       cases hs
       have hcells:v1.cells=[v1]:=by cases v1<;>first | rfl | simp [AV.isAgg] at hna
       have hnF:¬ F' L.b:=hS L.b ⟨k,e',_,L,by simp,hgk,rfl,hL,rfl⟩
       refine .fp _ _ _ (fun n=>cb.getD (L.base+n) undef) hnF hlt (fun n hn=>hcell n (by rw [hcells] at hn;simp at hn m1;omega)) ?_
       intro j x hx
       rw [hcells] at hx
       exact hval j x (fun k hk=>List.mem_cons_of_mem _ hk) hx
     ·cases hs
   ·cases hs
end
end Go.Tev
end
section
namespace Go.Tev
open Go.RowKit
theorem putAll_append (h:Hp) (a b:List Ent):putAll h (a++b)=putAll (putAll h a) b:=by
 induction a generalizing h with
 | nil=>rfl
 | cons x r ih=>simp [putAll,ih]
theorem putAll_get_not {q:Nat}:∀ (pa:List Ent) (h:Hp),q ∉ pa.map (·.k)→(putAll h pa).get q=h.get q
 | [],_,_=>rfl
 | x :: r,h,hq=>by
  simp only [List.map_cons,List.mem_cons,not_or] at hq
  simp only [putAll]
  rw [putAll_get_not r _ hq.2,get_put,if_neg (fun e=>hq.1 e.symm)]
mutual
theorem eqA_sound:∀ (x y:AV),eqA x y=true→x=y
 | .top,y,h=>by cases y<;>simp [eqA] at h ⊢
 | .bool a,y,h=>by cases y<;>simp [eqA] at h ⊢;exact h
 | .int k a,y,h=>by cases y<;>simp [eqA] at h ⊢;exact h
 | .str a,y,h=>by cases y<;>simp [eqA,eqS_eq] at h ⊢;exact h
 | .nilp,y,h=>by cases y<;>simp [eqA] at h ⊢
 | .nilm,y,h=>by cases y<;>simp [eqA] at h ⊢
 | .nilf,y,h=>by cases y<;>simp [eqA] at h ⊢
 | .nili,y,h=>by cases y<;>simp [eqA] at h ⊢
 | .agg a,y,h=>by cases y<;>simp [eqA] at h ⊢;exact eqAL_sound a _ h
 | .tup a,y,h=>by cases y<;>simp [eqA] at h ⊢;exact eqAL_sound a _ h
 | .sl n a c,y,h=>by cases y<;>simp [eqA] at h ⊢;exact ⟨h.1.1,eqAL_sound a _ h.1.2,h.2⟩
 | .fp a,y,h=>by cases y<;>simp [eqA] at h ⊢;exact eqA_sound a _ h
 | .rf k e o l c,y,h=>by cases y<;>simp [eqA] at h ⊢;exact ⟨h.1.1.1.1,h.1.1.1.2,h.1.1.2,h.1.2,h.2⟩
 | .pt k e o,y,h=>by cases y<;>simp [eqA] at h ⊢;exact ⟨h.1.1,h.1.2,h.2⟩
 | .mp k e,y,h=>by cases y<;>simp [eqA] at h ⊢;exact h
 | .fn f a,y,h=>by cases y<;>simp [eqA] at h ⊢;exact ⟨h.1,eqAL_sound a _ h.2⟩
 | .ifc a,y,h=>by cases y<;>simp [eqA] at h ⊢;exact eqA_sound a _ h
 | .os a b c,y,h=>by cases y<;>simp [eqA] at h
theorem eqAL_sound:∀ (x y:List AV),eqAL x y=true→x=y
 | [],[],_=>rfl
 | [],_ :: _,h=>by simp [eqAL] at h
 | _ :: _,[],h=>by simp [eqAL] at h
 | a :: r,b :: s,h=>by
  simp only [eqAL,Bool.and_eq_true] at h
  rw [eqA_sound a b h.1,eqAL_sound r s h.2]
end
theorem eqML_sound:∀ (x y:List (AV × AV)),eqML x y=true→x=y
 | [],[],_=>rfl
 | [],_ :: _,h=>by simp [eqML] at h
 | _ :: _,[],h=>by simp [eqML] at h
 | (a,b) :: r,(c,d) :: s,h=>by
  simp only [eqML,Bool.and_eq_true] at h
  rw [eqA_sound a c h.1.1,eqA_sound b d h.1.2,eqML_sound r s h.2]
theorem eqOb_sound {x y:Ob} (h:eqOb x y=true):x=y:=by
 cases x<;>cases y<;>simp [eqOb] at h ⊢
 ·exact ⟨eqAL_sound _ _ h.1.1.1.1,h.1.1.1.2,h.1.1.2,h.1.2,h.2⟩
 ·exact eqML_sound _ _ h
theorem eqEnt_sound {x y:Option (Nat × Ob)} (h:eqEnt x y=true):x=y:=by
 cases x with
 | none=>cases y with
  | none=>rfl
  | some y=>simp [eqEnt] at h
 | some x=>cases y with
  | none=>simp [eqEnt] at h
  | some y=>
   obtain ⟨a,b⟩:=x
   obtain ⟨c,d⟩:=y
   simp only [eqEnt,Bool.and_eq_true,beq_iff_eq] at h
   rw [h.1,eqOb_sound h.2]
section
variable {P:Program} {num:Nat→Nat} {Fb:Nat→Prop} {B0:Nat} {ρ : Rho} {w:World}
theorem freezeK_sound:∀ (S:List Nat) (h:Hp) (O:Nat→Prop),HpR num Fb B0 ρ w O h →
  ∃ O':Nat→Prop,(∀ b,O' b→O b)∧HpR num Fb B0 ρ w O' (putAll h (freezeK h S))∧(∀ b,SB ρ h S b→¬ O' b)∧(∀ k,(putAll h (freezeK h S)).next k=h.next k)
 | [],h,O,H=>⟨O,fun _ q=>q,H,fun b ⟨k,_,_,_,hk,_⟩=>by simp at hk,fun _=>rfl⟩
 | k :: r,h,O,H=>by
  unfold freezeK
  split
  ·rename_i e cs esz ag ti hg
   obtain ⟨L,c,T,q1,_⟩:=H.blk _ _ _ _ _ _ _ hg
   obtain ⟨_,H1⟩:=H.freeze hg q1
   obtain ⟨O',o1,o2,o3,o4⟩:=freezeK_sound r _ _ H1
   refine ⟨O',fun b hb=>(o1 b hb).1,o2,?_,?_⟩
   ·intro b ⟨k',e',o',L',hk',hg',hb',hL',hbb⟩ hO
    by_cases hkk:k=k'
    ·subst hkk
     rw [hg] at hg'
     cases hg'
     rw [q1] at hL';cases hL'
     exact (o1 b hO).2 hbb.symm
    ·have:k'∈r:=by
      rcases List.mem_cons.1 hk' with q | q
      ·exact absurd q.symm hkk
      ·exact q
     exact o3 b ⟨k',e',o',L',this,by rw [get_put,if_neg hkk];exact hg',hb',hL',hbb⟩ hO
   ·intro k'
    simp only [putAll]
    rw [o4 k']
    simp only [Hp.next,get_put]
    by_cases hkk:k=k'
    ·subst hkk;simp [hg]
    ·simp [hkk]
  ·rename_i hnot
   obtain ⟨O',o1,o2,o3,o4⟩:=freezeK_sound r h O H
   refine ⟨O',o1,o2,?_,o4⟩
   intro b ⟨k',e',o',L',hk',hg',hb',hL',hbb⟩ hO
   rcases List.mem_cons.1 hk' with q | q
   ·subst q
    cases o' with
    | dead=>simp [Ob.isBlk] at hb'
    | mpo=>simp [Ob.isBlk] at hb'
    | blk cs esz ag ti fz=>
     cases fz with
     | false=>exact hnot _ _ _ _ _ hg'
     | true=>
      obtain ⟨L,c,T,q1,_,_,_,_,_,_,_,_,q10⟩:=H.blk _ _ _ _ _ _ _ hg'
      rw [q1] at hL';cases hL'
      exact q10 rfl (hbb ▸ o1 b hO)
   ·exact o3 b ⟨k',e',o',L',q,hg',hb',hL',hbb⟩ hO
variable {O:Nat→Prop} {h:Hp} {ρv:Operand→Value} {o:Oper}
theorem SB.not_Fb (H:HpR num Fb B0 ρ w O h) {S:List Nat} {b:Nat} (hb:SB ρ h S b):¬ Fb b:=by
 intro hf
 obtain ⟨k,e,o,L,_,hg,hbk,hL,hbb⟩:=hb
 have h1:=H.fbl _ hf
 cases o with
 | dead=>simp [Ob.isBlk] at hbk
 | mpo=>simp [Ob.isBlk] at hbk
 | blk=>
  obtain ⟨L',_,_,q1,_,_,_,_,_,_,q8,_⟩:=H.blk _ _ _ _ _ _ _ hg
  rw [q1] at hL;cases hL
  omega
theorem op_mkZ (H:HpR num Fb B0 ρ w O h) {k0:Nat} {l:List Operand} {vs:List AV} {v:AV} {eff:Eff} (hv:All2 (Rv num ρ w (fun b=>Fb b∨O b)) vs (l.map ρv))
  (esz:Nat) (ag:Bool) (hf:fitK P num o (.mkZ esz ag)=some l) (h1:op1 h k0 (.mkZ esz ag) vs=some (v,eff)):Done P num Fb B0 ρ w O h ρv o v eff:=by
 have e1:op1 h k0 (.mkZ esz ag) vs=match mapS (snap depth h) vs with
   | some (ts,keys)=>if ts.all fun v=>v.fits esz ag then some (.sl false ts true,.pat keys (freezeK h keys)) else none
   | none=>none:=by
  rcases vs with _ | ⟨x,_ | ⟨y,_ | ⟨z,_ | ⟨u,r⟩⟩⟩⟩<;>rfl
 rw [e1] at h1
 split at h1
 case h_2=>cases h1
 rename_i ts keys hm
 split at h1
 case isFalse=>cases h1
 rename_i hall
 simp only [Option.some.injEq,Prod.mk.injEq] at h1
 obtain ⟨rfl,rfl⟩:=h1
 obtain ⟨O',o1,H',o3,_⟩:=freezeK_sound keys h O H
 obtain ⟨m1,m2⟩:=mapS_get hm
 have hts:All2 (Rv num ρ w (fun b=>Fb b∨O' b)) ts (l.map ρv):=by
  refine All2.of_get (by have:=hv.length;omega) ?_
  intro i x y hx hy
  have hi:i < vs.length:=by have:=(List.getElem?_eq_some_iff.1 hx).1;omega
  obtain ⟨x',s',p1,p2,p3⟩:=m2 i vs[i] (by simp [hi])
  rw [hx] at p1;cases p1
  refine snap_sound H (F':=fun b=>Fb b∨O' b) (fun b hb=>hb.imp id (o1 b)) depth _ _ _ _ p2 (hv.get i _ y (by simp [hi]) hy) (fun b hb hF=>?_)
  have hb':SB ρ h keys b:=by
   obtain ⟨k,e,o,L,q1,q2⟩:=hb
   exact ⟨k,e,o,L,p3 k q1,q2⟩
  rcases hF with hF | hF
  ·exact hb'.not_Fb H hF
  ·exact o3 b hb' hF
 have hf':fitK P num o (.mkSl esz ag false)=some l:=by
  simp only [fitK] at hf ⊢
  exact hf
 have h2:op1 (putAll h (freezeK h keys)) k0 (.mkSl esz ag false) ts=some (.sl false ts true,.pat [] []):=by
  have e2:op1 (putAll h (freezeK h keys)) k0 (.mkSl esz ag false) ts=if (ts.all fun v=>v.fits esz ag)=true then val (.sl false ts true) else none:=by
   rcases ts with _ | ⟨x,_ | ⟨y,_ | ⟨z,_ | ⟨u,r⟩⟩⟩⟩<;>rfl
  rw [e2,if_pos hall]
  rfl
 obtain ⟨n,cv,w',ρ',O'',d1,d2,d3,d4,d5⟩:=op_mkSl H' hts esz ag false hf' h2
 refine ⟨n,cv,w',ρ',O'',d1,d2,⟨d3.os,d3.tape,d3.output,d3.size,fun b hb hO=>d3.keep b hb (fun q=>hO (o1 b q)),fun b hb q=>o1 b (d3.own b hb q),d3.rho⟩,d4,d5⟩
theorem op1_sound (H:HpR num Fb B0 ρ w O h) {k0:Nat} {k:K} {l:List Operand} {vs:List AV} {v:AV} {eff:Eff} (hcst:∀ c,ρv (.const c)=c)
  (hv:All2 (Rv num ρ w (fun b=>Fb b∨O b)) vs (l.map ρv)) (hf:fitK P num o k=some l) (h1:op1 h k0 k vs=some (v,eff)):Done P num Fb B0 ρ w O h ρv o v eff:=by
 cases k with
 | mov=>exact op_mov H hv hf h1
 | pick=>exact op_pick H hv hf h1
 | box=>exact op_box H hv hf h1
 | alloc z a=>exact op_alloc H hv z a hf h1
 | build z p=>exact op_build H hv z p hf h1
 | mkSl a b c=>exact op_mkSl H hv a b c hf h1
 | load a b=>exact op_load H hv a b hf h1
 | store a b=>exact op_store H hv a b hf h1
 | nilc=>exact op_nilc H hv hf h1
 | bin op=>exact op_bin H hv op hf h1
 | beq n=>exact op_beq H hv n hf h1
 | eqn q n=>exact op_eqn H hv hcst q n hf h1
 | eqs n q=>exact op_eqs H hv n q hf h1
 | un op=>exact op_un H hv op hf h1
 | cvi k=>exact op_cvi H hv k hf h1
 | cvs=>exact op_cvs H hv hf h1
 | s2b=>exact op_s2b H hv hf h1
 | b2s=>exact op_b2s H hv hf h1
 | fld a b c=>exact op_fld H hv a b c hf h1
 | fad a b c=>exact op_fad H hv a b c hf h1
 | iad a b c=>exact op_iad H hv a b c hf h1
 | ixs=>exact op_ixs H hv hf h1
 | ixa a b c=>exact op_ixa H hv a b c hf h1
 | slc a b c d=>exact op_slc H hv a b c d hf h1
 | sls a b=>exact op_sls H hv a b hf h1
 | sla a b c d=>exact op_sla H hv a b c d hf h1
 | mks a b c d=>exact op_mks H hv a b c d hf h1
 | len q=>exact op_len H hv q hf h1
 | lenc n=>exact op_lenc H hv n hf h1
 | cap=>exact op_cap H hv hf h1
 | app a b c=>exact op_app H hv a b c hf h1
 | apz a b c d=>exact op_apz H hv a b c d hf h1
 | cpy a b=>exact op_cpy H hv a b hf h1
 | clr=>simp [fitK] at hf
 | mn=>exact op_mn H hv hf h1
 | mx=>exact op_mx H hv hf h1
 | ext i=>exact op_ext H hv i hf h1
 | mki=>exact op_mki H hv hf h1
 | mkf f=>exact op_mkf H hv f hf h1
 | call=>simp [op1] at h1
 | callv=>simp [op1] at h1
 | mkm=>exact op_mkm H hv hf h1
 | mlk a b c=>exact op_mlk H hv a b c hf h1
 | mup a=>exact op_mup H hv a hf h1
 | mdel a=>exact op_mdel H hv a hf h1
 | mkZ a b=>exact op_mkZ H hv a b hf h1
 | calle f=>simp [op1] at h1
 | callr f=>simp [op1] at h1
 | bad=>simp [op1] at h1
def ResOK (num:Nat→Nat) (Fb:Nat→Prop) (B0:Nat) (w:World):AV→Value→Prop
 | .os es esz ag,c=>∃ (b base room cap:Nat) (cl:Array Value) (T:TypeId),c = .slice (some ⟨b,base,none⟩) es.length cap∧es.length≤cap∧w.heap[b]?=some (.cells cl T (0,0))∧base+room≤cl.size ∧
   cap*esz≤room∧(∀ (i:Nat) (e:AV),es[i]?=some e→e.cells.length=esz)∧B0≤b ∧
   (∀ (i:Nat) (e:AV) (j:Nat) (x:AV),es[i]?=some e→e.cells[j]?=some x→∃ y,cl[base+(i*esz+j)]?=some y∧∀ ρ0:Rho,Rv num ρ0 w (fun x=>Fb x∨x=b) x y)
 | r,c=>∀ ρ0:Rho,Rv num ρ0 w Fb r c
theorem ResOK.of_tree {r:AV} {c:Value} (h:∀ ρ0:Rho,Rv num ρ0 w Fb r c):ResOK num Fb B0 w r c:=by
 cases r<;>first | exact h | (have:=h (fun _ _=>none);cases this)
theorem conv_sound {O:Nat→Prop} {h:Hp} (H:HpR num Fb B0 ρ w O h) {v r:AV} {c:Value} (hr:Rv num ρ w (fun b=>Fb b∨O b) v c) (hc:conv h v=some r):ResOK num Fb B0 w r c:=by
 have htree:∀ (u:AV),(snap depth h u).map (·.1)=some r→Rv num ρ w (fun b=>Fb b∨O b) u c→ResOK num Fb B0 w r c:=by
  intro u hu hru
  cases hs:snap depth h u with
  | none=>simp [hs] at hu
  | some p=>
   simp [hs] at hu
   subst hu
   refine ResOK.of_tree (fun ρ0=>snap_sound H (fun b hb => .inl hb) depth u p.1 p.2 c hs hru ?_)
   intro b ⟨k,e,o,L,_,hg,hb,hL,hbb⟩ hF
   have h1:=H.fbl _ hF
   cases o with
   | dead=>simp [Ob.isBlk] at hb
   | mpo=>simp [Ob.isBlk] at hb
   | blk=>
    obtain ⟨L',_,_,q1,_,_,_,_,_,_,q8,_⟩:=H.blk _ _ _ _ _ _ _ hg
    rw [q1] at hL;cases hL
    omega
 unfold conv at hc
 split at hc
 ·rename_i k e off len cap
  split at hc
  ·rename_i e' cs esz ag ti hg
   split at hc
   case isFalse=>cases hc
   rename_i he;subst he
   split at hc
   case h_2=>cases hc
   rename_i es hch
   split at hc
   case h_2=>cases hc
   rename_i l s hm
   split at hc
   case isTrue=>cases hc
   rename_i hnk
   cases hc
   obtain ⟨m1,m2⟩:=mapS_get hm
   obtain ⟨c1,c2,c3⟩:=chunk_get hch
   obtain ⟨cap',L,rfl,hL,hlc,hcc,htt,hrm⟩:=hr.of_rf
   obtain ⟨L0,cb,T,q1,q2,q3,q4,q5,q6,q7,q8,q9,q10⟩:=H.blk _ _ _ _ _ _ _ hg
   rw [hL] at q1;cases q1
   have hll:l.length=len:=by omega
   rw [q3] at hrm
   refine ⟨L.b,L.base+off,L.room - off,cap',cb,T,by rw [hll],by omega,q4,by omega,by omega,?_,q8,?_⟩
   ·intro i u hu
    have hi:i < es.length:=by have:=(List.getElem?_eq_some_iff.1 hu).1;omega
    obtain ⟨x',s',p1,p2,p3⟩:=m2 i es[i] (by simp [hi])
    rw [hu] at p1;cases p1
    rw [(snap_agg p2).2]
    exact (c3 i _ (by simp [hi])).1
   ·intro i u j x hu hx
    have hi:i < es.length:=by have:=(List.getElem?_eq_some_iff.1 hu).1;omega
    obtain ⟨x',s',p1,p2,p3⟩:=m2 i es[i] (by simp [hi])
    rw [hu] at p1;cases p1
    obtain ⟨d1,d2,d3⟩:=c3 i es[i] (by simp [hi])
    have hj:j < esz:=by
     have:=(List.getElem?_eq_some_iff.1 hx).1
     rw [(snap_agg p2).2] at this
     omega
    have hget:es[i].cells[j]?=cs[off+(i*esz+j)]?:=by rw [d3 j hj,List.getElem?_drop]
    have hjl:j < es[i].cells.length:=by omega
    have hx0:es[i].cells[j]?=some es[i].cells[j]:=by simp [hjl]
    obtain ⟨y,hy,_⟩:=q7 _ _ (hget ▸ hx0)
    refine ⟨y,by rw [Nat.add_assoc];exact hy,fun ρ0=>?_⟩
    have key:=elem_snap (w:=w) (ρ := ρ) (ρ0 := ρ0) (F:=fun b=>Fb b∨O b) (F':=fun x=>Fb x∨x=L.b) (m:=fun j=>cb.getD (L.base+(off+(i*esz+j))) undef) p2
     (fun c hc'=>snap_sound (F':=fun x=>Fb x∨x=L.b) H (fun b (hb:Fb b∨b=L.b)=>hb.imp id (fun q=>by rw [q];exact q9 rfl)) depth _ _ _ c p2 hc' (by
      intro b ⟨k',e1,o1,L1,hk1,hg1,hb1,hL1,hbb⟩ hF
      have hkk:k' ≠ k:=by
       intro q;subst q
       exact hnk (by simpa using p3 k' hk1)
      rcases hF with hF | hF
      ·have h1:=H.fbl _ hF
       cases o1 with
       | dead=>simp [Ob.isBlk] at hb1
       | mpo=>simp [Ob.isBlk] at hb1
       | blk=>
        obtain ⟨L',_,_,r1,_,_,_,_,_,_,r8,_⟩:=H.blk _ _ _ _ _ _ _ hg1
        rw [r1] at hL1;cases hL1
        omega
      ·exact live_ne H hg rfl hL hkk hg1 (by intro q;subst q;simp [Ob.isBlk] at hb1) hL1 (hbb.trans hF)))
     (by
      intro j x hx
      have hj':j < esz:=by have:=(List.getElem?_eq_some_iff.1 hx).1;omega
      rw [d3 j hj',List.getElem?_drop] at hx
      obtain ⟨y',hy',hr'⟩:=q7 _ x hx
      simp [hy']
      exact hr') j x hx
    simpa [hy] using key
  ·exact htree _ hc hr
 ·exact htree _ hc hr
theorem receive_sound {O:Nat→Prop} {h:Hp} {w':World} {Fb':Nat→Prop} {S:List Nat} (H:HpR num Fb B0 ρ w O h) (hw:Evo (fun _ _=>none) w (fun _=>False) (fun _ _=>none) w' (fun _=>False))
  (hFb':∀ b,(Fb b∨O b)→¬ SB ρ h S b→Fb' b) {r v:AV} {c:Value} {k0:Nat} {th:Bool} {pa:List Ent} (hr:ResOK num Fb' w.heap.size w' r c) (hv:receive h k0 th r=some (v,pa)) :
  ∃ ρ' O',Evo ρ w O ρ' w' O'∧HpR num Fb B0 ρ' w' O' (putAll h ((if r.flat then [] else freezeK h S)++pa))∧Rv num ρ' w' (fun b=>Fb b∨O' b) v c:=by
 have hkeep:∀ b,b < w.heap.size→w'.heap[b]?=w.heap[b]?:=fun b hb=>hw.keep b hb (fun q=>q)
 have hfr:∃ O1:Nat→Prop,(∀ b,O1 b→O b)∧HpR num Fb B0 ρ w O1 (putAll h (if r.flat then [] else freezeK h S))∧(r.flat=false→∀ b,SB ρ h S b→¬ O1 b)∧(∀ k,(putAll h (if r.flat then [] else freezeK h S)).next k=h.next k):=by
  cases r.flat with
  | true=>exact ⟨O,fun _ q=>q,H,(fun q=>by cases q),fun _=>rfl⟩
  | false=>
   obtain ⟨O',o1,o2,o3,o4⟩:=freezeK_sound S h O H
   exact ⟨O',o1,o2,fun _=>o3,o4⟩
 obtain ⟨O1,o1,H1,o3,o4⟩:=hfr
 have ev1:Evo ρ w O1 ρ w' O1:=⟨hw.os,hw.tape,hw.output,hw.size,fun b hb _=>hkeep b hb,fun _ _ q=>q,fun _ _ _ q=>q⟩
 have ev0:∀ O2:Nat→Prop,(∀ b,b < w.heap.size→O2 b→O1 b)→Evo ρ w O ρ w' O2:=fun O2 hO=>⟨hw.os,hw.tape,hw.output,hw.size,fun b hb _=>hkeep b hb,fun b hb q=>o1 b (hO b hb q),fun _ _ _ q=>q⟩
 have H1':HpR num Fb B0 ρ w' O1 (putAll h (if r.flat then [] else freezeK h S)):=H1.same ev1 (fun b hb=>hkeep b (H1.own b hb).2)
 have hsub:r.flat=false→∀ b,(Fb b∨O1 b)→Fb' b:=by
  intro hfl b hb
  refine hFb' b (hb.imp id (o1 b)) ?_
  intro hSB
  rcases hb with hb | hb
  ·obtain ⟨k,e,o,L,_,hg,hbk,hL,hbb⟩:=hSB
   have h1:=H.fbl _ hb
   cases o with
   | dead=>simp [Ob.isBlk] at hbk
   | mpo=>simp [Ob.isBlk] at hbk
   | blk=>
    obtain ⟨L',_,_,q1,_,_,_,_,_,_,q8,_⟩:=H.blk _ _ _ _ _ _ _ hg
    rw [q1] at hL;cases hL
    omega
  ·exact o3 hfl b hSB hb
 by_cases hos:∃ es esz ag,r = .os es esz ag
 ·obtain ⟨es,esz,ag,rfl⟩:=hos
  obtain ⟨b,base,room,cap,cl,T,rfl,hcap,hheap,hsz,hrm,hes,hB,hcells⟩:=hr
  have hb1:¬ (Fb b∨O1 b):=by
   intro q
   rcases q with q | q
   ·have:=H.fbl _ q;have:=H.le;omega
   ·have:=(H1.own _ q).2;omega
  have hblt:b < w'.heap.size:=by
   rcases Nat.lt_or_ge b w'.heap.size with q | q
   ·exact q
   ·simp [Array.getElem?_eq_none q] at hheap
  have hval:∀ (ρ':Rho) (i:Nat) (e:AV) (j:Nat) (x:AV),es[i]?=some e→e.cells[j]?=some x→∃ y,cl[base+(i*esz+j)]?=some y∧Rv num ρ' w' (fun x=>Fb x∨(O1 x∨x=b)) x y:=by
   intro ρ' i e j x he hx
   obtain ⟨y,hy,hrv⟩:=hcells i e j x he hx
   refine ⟨y,hy,?_⟩
   cases hfl:(AV.os es esz ag).flat with
   | false=>
    refine (hrv ρ').F_mono (fun q hq=>?_)
    rcases hq with hq | hq | hq
    ·exact .inl (hsub hfl q (.inl hq))
    ·exact .inl (hsub hfl q (.inr hq))
    ·exact .inr hq
   | true=>
    refine (hrv ρ').flat_any ?_
    have he':=Rv.flat_any.flatL_get (by simpa [AV.flat] using hfl) i e he
    cases e<;>simp only [AV.cells] at hx<;>first
     | exact Rv.flat_any.flatL_get (by simpa [AV.flat] using he') j x hx
     | (cases j with
        | zero=>simp at hx;exact hx ▸ he'
        | succ j=>simp at hx)
  unfold receive at hv
  simp only at hv
  cases th with
  | false=>
   simp at hv
   obtain ⟨rfl,rfl⟩:=hv
   rw [List.append_nil]
   refine ⟨ρ,O1,ev0 O1 (fun _ _ q=>q),H1',?_⟩
   refine .sl es false b base cap esz (fun n=>cl.getD (base+n) undef) hcap (fun q=>by cases q) (fun _=>⟨hb1,hblt⟩) hes ?_ ?_ none (fun _=>rfl)
   ·intro n hn
    have h2:es.length*esz≤cap*esz:=Nat.mul_le_mul_right _ hcap
    have:base+n < cl.size:=by omega
    simp [World.cell?,hheap,this]
   ·intro i e j x he hx
    obtain ⟨y,hy,hrv⟩:=hval ρ i e j x he hx
    simp [hy]
    exact hrv.F_mono (fun q hq=>hq.imp id .inl)
  | true=>
   simp only [if_true] at hv
   split at hv
   case h_2=>cases hv
   rename_i cs hcs
   simp at hv
   obtain ⟨rfl,rfl⟩:=hv
   obtain ⟨rfl,hfits⟩:=unchunk_eq hcs
   rw [putAll_append]
   have hfl:(flatC es).length=es.length*esz:=length_flatC hes
   have hnx:=o4 k0
   generalize putAll h (if (AV.os es esz ag).flat=true then [] else freezeK h S)=h1 at *
   rw [← hnx]
   have hfresh:=next_fresh H1 k0
   have ev:Evo ρ w O1 (ρ.set k0 (h1.next k0) ⟨b,base,room,false,esz⟩) w' (fun x=>O1 x∨x=b):=
    {os:=hw.os,tape:=hw.tape,output:=hw.output,size:=hw.size,keep:=fun b hb _=>hkeep b hb,own:=fun x hx hO=>hO.elim id (fun e=>by omega),rho:=Rho.set_keeps hfresh}
   refine ⟨ρ.set k0 (h1.next k0) ⟨b,base,room,false,esz⟩,fun x=>O1 x∨x=b,{ev with own:=fun x hx hO=>o1 x (ev.own x hx hO),keep:=fun b hb _=>hkeep b hb},?_,?_⟩
   ·simp only [putAll]
    refine H1.put ev ?_ (next_le h1 k0) ?_ ?_ ?_ ?_
    ·intro k' e' L hL
     unfold Rho.set at hL
     split at hL
     ·rename_i hc;exact .inr hc
     ·exact .inl hL
    ·intro x hO
     rcases hO with hO | rfl
     ·exact ⟨(H1.own x hO).1,Nat.lt_of_lt_of_le (H1.own x hO).2 hw.size⟩
     ·exact ⟨by have:=H.le;omega,hblt⟩
    ·intro k' e' o' L hk hg hd hL
     exact ⟨hkeep _ (H1.loc_lt hg hd hL),.inl⟩
    ·refine ⟨_,cl,T,Rho.set_same _ _ _ _,rfl,rfl,hheap,hsz,?_,?_,by have:=H.le;show B0≤b;omega,fun _ => .inr rfl,fun q=>by cases q⟩
     ·rw [hfl]
      have h2:es.length*esz≤cap*esz:=Nat.mul_le_mul_right _ hcap
      show es.length*esz≤room
      omega
     ·intro n x hx
      have hn:n < es.length*esz:=by have:=(List.getElem?_eq_some_iff.1 hx).1;omega
      have hpos:0 < esz:=by
       rcases Nat.eq_zero_or_pos esz with q | q
       ·simp [q] at hn
       ·exact q
      have hdm:n / esz*esz+n % esz=n:=by rw [Nat.mul_comm];exact Nat.div_add_mod n esz
      have hg:=get_flatC hes (n / esz) (n % esz) (Nat.mod_lt _ hpos)
      rw [hdm,hx] at hg
      have hil:n / esz < es.length:=Nat.div_lt_of_lt_mul (by rw [Nat.mul_comm];exact hn)
      have he:es[n / esz]?=some es[n / esz]:=by simp [hil]
      rw [he] at hg
      simp only [Option.bind_some] at hg
      obtain ⟨y,hy,hrv⟩:=hval (ρ.set k0 (h1.next k0) ⟨b,base,room,false,esz⟩) (n / esz) _ (n % esz) x he hg.symm
      rw [hdm] at hy
      exact ⟨y,hy,hrv⟩
    ·intro _ k' e' o' L L' hk hg hl hL' hL hb
     rw [Rho.set_same] at hL;cases hL
     have:=H1.loc_lt hg (by intro e;subst e;cases hl) hL'
     simp at hb
     omega
   ·have:=Rv.rf (num:=num) (w:=w') (F:=fun x=>Fb x∨(O1 x∨x=b)) k0 (h1.next k0) 0 es.length es.length cap _ (Rho.set_same ρ k0 (h1.next k0) ⟨b,base,room,false,esz⟩) (Nat.le_refl _) hcap (fun q=>by cases q) (by simp;exact hrm)
    simpa using this
 ·have hrv:receive h k0 th r=some (r,[]):=by
   unfold receive
   cases r<;>first | rfl | exact absurd ⟨_,_,_,rfl⟩ hos
  rw [hrv] at hv
  simp at hv
  obtain ⟨rfl,rfl⟩:=hv
  rw [List.append_nil]
  have hres:∀ ρ0:Rho,Rv num ρ0 w' Fb' r c:=by
   cases r<;>first | exact hr | exact absurd ⟨_,_,_,rfl⟩ hos
  refine ⟨ρ,O1,ev0 O1 (fun _ _ q=>q),H1',?_⟩
  cases hfl:r.flat with
  | true=>exact (hres ρ).flat_any hfl
  | false=>exact (hres ρ).F_mono (fun b hb=>hsub hfl b hb)
end
end Go.Tev
end
section
namespace Go.Tev
open Go.RowKit
def GlobOK (num:Nat→Nat) (gl:Nat→Option AV) (gnum:Nat→Nat) (ρ : Rho) (w:World) (F:Nat→Prop):Prop:=
 ∀ g v,gl g=some v→(v.tree=true∧∃ c T fr,w.heap[gnum g]?=some (.cells c T fr)∧c.size=v.cells.length)∧Rv num ρ w F (.fp v) (.pointer (some ⟨gnum g,0,none⟩))
def CallOK (P:Program) (num:Nat→Nat) (gl:Nat→Option AV) (gnum:Nat→Nat) (call:Caller):Prop:=
 ∀ f avs kb h r h',call f avs kb h=some (r,h') →
  (∃ fn,P.funcs[num f]?=some fn∧fn.body.isSome=true∧fn.name ≠ "runtime.NumGoroutine") ∧
  ∀ (Fb:Nat→Prop) (B0:Nat) (ρ : Rho) (O:Nat→Prop) (w:World) (vs:List Value),HpR num Fb B0 ρ w O h→GlobOK num gl gnum ρ w (fun b=>Fb b∨O b) →
   All2 (Rv num ρ w (fun b=>Fb b∨O b)) avs vs →
   Calls P (num f) vs.toArray w fun e w'=>∃ cv ρ' O',e = .returned cv∧Evo ρ w O ρ' w' O'∧HpR num Fb B0 ρ' w' O' h'∧Rv num ρ' w' (fun b=>Fb b∨O' b) r cv
section
variable {P:Program} {num:Nat→Nat} {gl:Nat→Option AV} {gnum:Nat→Nat} {call:Caller} {Fb:Nat→Prop} {B0:Nat} {ρ : Rho} {w:World} {O:Nat→Prop} {h:Hp}
theorem HpR.start (Fb:Nat→Prop) (w:World) (hF:∀ b,Fb b→b < w.heap.size):HpR num Fb w.heap.size (fun _ _=>none) w (fun _=>False) [] where
 blk:=by intro k e cs esz ag ti fz hg;simp [Hp.get] at hg
 mpo:=by intro k e es hg;simp [Hp.get] at hg
 inj:=by intro k k' e e' o o' L L' hg;simp [Hp.get] at hg
 ep:=by intro k e L hL;cases hL
 own:=by intro b hb;exact hb.elim
 fbl:=hF
 le:=Nat.le_refl _
theorem callP_sound (hc:CallOK P num gl gnum call) {f:Nat} {ts:List AV} {r:AV} (h1:callP call f ts=some r) {vs:List Value} (hF:∀ b,Fb b→b < w.heap.size) (hg:GlobOK num gl gnum (fun _ _=>none) w Fb)
  (hv:All2 (Rv num (fun _ _=>none) w Fb) ts vs) :
  (∃ fn,P.funcs[num f]?=some fn∧fn.body.isSome=true∧fn.name ≠ "runtime.NumGoroutine") ∧
  Calls P (num f) vs.toArray w fun e w'=>∃ cv,e = .returned cv∧Evo (fun _ _=>none) w (fun _=>False) (fun _ _=>none) w' (fun _=>False)∧ResOK num Fb w.heap.size w' r cv:=by
 unfold callP at h1
 split at h1
 case h_2=>cases h1
 rename_i r' h' hcall
 obtain ⟨a1,a2⟩:=hc _ _ _ _ _ _ hcall
 refine ⟨a1,?_⟩
 refine (a2 Fb w.heap.size (fun _ _=>none) (fun _=>False) w vs (HpR.start Fb w hF) (fun g v q=>⟨(hg g v q).1,(hg g v q).2.F_mono (fun b hb=>hb.elim id False.elim)⟩)
  (hv.imp (fun a b hab=>hab.F_mono (fun b hb=>hb.elim id False.elim)))).mono ?_
 rintro e w' ⟨cv,ρ',O',rfl,ev,H',hr⟩
 refine ⟨cv,rfl,⟨ev.os,ev.tape,ev.output,ev.size,ev.keep,fun b hb q=>q,fun k e L q=>by cases q⟩,conv_sound H' hr h1⟩
theorem HpR.ext {h2:Hp} (H:HpR num Fb B0 ρ w O h) (he:∀ k,h2.get k=h.get k):HpR num Fb B0 ρ w O h2 where
 blk:=fun k e cs esz ag ti fz hg=>H.blk k e cs esz ag ti fz (by rw [← he];exact hg)
 mpo:=fun k e es hg=>H.mpo k e es (by rw [← he];exact hg)
 inj:=fun k k' e e' o o' L L' g1 g2=>H.inj k k' e e' o o' L L' (by rw [← he];exact g1) (by rw [← he];exact g2)
 ep:=fun k e L hL=>by
  obtain ⟨e',o,q1,q2⟩:=H.ep k e L hL
  exact ⟨e',o,by rw [he];exact q1,q2⟩
 own:=H.own
 fbl:=H.fbl
 le:=H.le
theorem get_mem:∀ {h:Hp} {k:Nat} {p:Nat × Ob},h.get k=some p→∃ x∈h,x.k=k
 | [],_,_,hg=>by simp [Hp.get] at hg
 | x :: r,k,p,hg=>by
  simp only [Hp.get] at hg
  split at hg
  ·rename_i e;exact ⟨x,by simp,e⟩
  ·obtain ⟨y,h1,h2⟩:=get_mem hg
   exact ⟨y,List.mem_cons_of_mem _ h1,h2⟩
theorem callR0_sound (hc:CallOK P num gl gnum call) (H:HpR num Fb B0 ρ w O h) (hg:GlobOK num gl gnum ρ w (fun b=>Fb b∨O b)) {kb s f:Nat} {avs:List AV} {v:AV} {eff:Eff}
  (h1:callR0 call kb s h f avs=some (v,eff)) {vs:List Value} (hv:All2 (Rv num ρ w (fun b=>Fb b∨O b)) avs vs) :
  (∃ fn,P.funcs[num f]?=some fn∧fn.body.isSome=true∧fn.name ≠ "runtime.NumGoroutine") ∧
  Calls P (num f) vs.toArray w fun e w'=>∃ cv ρ' O',e = .returned cv∧Evo ρ w O ρ' w' O'∧HpR num Fb B0 ρ' w' O' (eff.app h)∧Rv num ρ' w' (fun b=>Fb b∨O' b) v cv:=by
 unfold callR0 at h1
 split at h1
 case h_2=>cases h1
 rename_i r h' hcall
 dsimp only at h1
 split at h1
 case isFalse=>cases h1
 rename_i hchk
 cases h1
 obtain ⟨a1,a2⟩:=hc _ _ _ _ _ _ hcall
 refine ⟨a1,(a2 Fb B0 ρ O w vs H hg hv).mono ?_⟩
 rintro e w' ⟨cv,ρ',O',rfl,q1,q2,q3⟩
 refine ⟨cv,ρ',O',rfl,q1,q2.ext (fun k=>?_),q3⟩
 simp only [Eff.app]
 rw [List.all_eq_true] at hchk
 by_cases hk:∃ x∈h++h',x.k=k
 ·obtain ⟨x,hx,rfl⟩:=hk
  exact eqEnt_sound (hchk x hx)
 ·have n1:h.get k=none:=by
   cases hq:h.get k with
   | none=>rfl
   | some p=>obtain ⟨x,hx,hxk⟩:=get_mem hq;exact absurd ⟨x,List.mem_append_left _ hx,hxk⟩ hk
  have n2:h'.get k=none:=by
   cases hq:h'.get k with
   | none=>rfl
   | some p=>obtain ⟨x,hx,hxk⟩:=get_mem hq;exact absurd ⟨x,List.mem_append_right _ hx,hxk⟩ hk
  rw [n2,putAll_get_not,n1]
  intro hm
  obtain ⟨x,hx,hxk⟩:=List.mem_map.1 hm
  exact hk ⟨x,List.mem_append_right _ (List.mem_filter.1 hx).1,hxk⟩
theorem get_putAll_nodup:∀ {h0:Hp} {h:Hp} (k:Nat),nodupK h0=true→(putAll h h0).get k=match h0.get k with | some p=>some p | none=>h.get k
 | [],h,k,_=>rfl
 | x :: r,h,k,hn=>by
  simp only [nodupK,Bool.and_eq_true] at hn
  simp only [putAll]
  rw [get_putAll_nodup k hn.2]
  simp only [Hp.get,get_put]
  by_cases hk:x.k=k
  ·subst hk
   have:Hp.get r x.k=none:=by
    cases hq:Hp.get r x.k with
    | none=>rfl
    | some p=>
     obtain ⟨y,hy,hyk⟩:=get_mem hq
     have:=List.all_eq_true.1 hn.1 y hy
     simp [hyk] at this
   rw [this]
   simp
  ·simp [hk]
theorem tryE_of {f:Nat} {vs:List AV}:∀ {n b:Nat} {r:AV} {rd:List Nat} {pa:List Ent},tryE call h f vs n b=some (r,rd,pa)→∃ b',call f vs b' []=some (r,pa)∧nodupK pa=true∧∀ x∈pa,h.get x.k=none
 | 0,_,_,_,_,h1=>by simp [tryE] at h1
 | n+1,b,r,rd,pa,h1=>by
  unfold tryE at h1
  cases hc:call f vs b [] with
  | none=>simp [hc] at h1
  | some q=>
   obtain ⟨r0,h0⟩:=q
   simp only [hc] at h1
   split at h1
   ·rename_i hh
    simp only [Bool.and_eq_true,List.all_eq_true,Option.isNone_iff_eq_none] at hh
    cases h1
    exact ⟨b,hc,hh.1,hh.2⟩
   ·split at h1
    case h_2=>cases h1
    rename_i r' rd' pa' ht
    cases h1
    exact tryE_of ht
theorem HpR.loc_ge {k e:Nat} {o:Ob} {L:Loc} (H:HpR num Fb B0 ρ w O h) (hg:h.get k=some (e,o)) (hl:o.live=true) (hL : ρ k e=some L):B0≤L.b:=by
 cases o with
 | dead=>cases hl
 | blk cs esz ag ti fz=>
  obtain ⟨L',_,_,q1,_,_,_,_,_,_,q8,_⟩:=H.blk _ _ _ _ _ _ _ hg
  rw [q1] at hL;cases hL
  exact q8
 | mpo es=>
  obtain ⟨L',_,_,q1,_,_,_,q8,_⟩:=H.mpo _ _ _ hg
  rw [q1] at hL;cases hL
  exact q8
theorem HpR.union {h0:Hp} {ρ1:Rho} {w':World} {O1:Nat→Prop} (H:HpR num Fb B0 ρ w O h) (ev:Evo (fun _ _=>none) w (fun _=>False) ρ1 w' O1) (H1:HpR num (fun b=>Fb b∨O b) w.heap.size ρ1 w' O1 h0)
  (hn:nodupK h0=true) (hf:∀ x∈h0,h.get x.k=none) :
  ∃ ρ2,Evo ρ w O ρ2 w' (fun b=>O b∨O1 b)∧HpR num Fb B0 ρ2 w' (fun b=>O b∨O1 b) (putAll h h0)∧∀ v c,Rv num ρ1 w' (fun b=>(Fb b∨O b)∨O1 b) v c→Rv num ρ2 w' (fun b=>Fb b∨(O b∨O1 b)) v c:=by
 let ρ2:Rho:=fun k e=>match h0.get k with | some _ => ρ1 k e | none => ρ k e
 have hnone:∀ k p,h.get k=some p→h0.get k=none:=by
  intro k p hk
  cases hq:h0.get k with
  | none=>rfl
  | some q=>
   obtain ⟨x,hx,rfl⟩:=get_mem hq
   rw [hf x hx] at hk
   cases hk
 have hA:∀ k e L,ρ k e=some L → ρ2 k e=some L:=by
  intro k e L hL
  obtain ⟨e',o,q1,_⟩:=H.ep k e L hL
  simp only [ρ2,hnone k _ q1,hL]
 have hB:∀ k e L,ρ1 k e=some L → ρ2 k e=some L:=by
  intro k e L hL
  obtain ⟨e',o,q1,_⟩:=H1.ep k e L hL
  simp only [ρ2,q1,hL]
 have hO1:∀ b,O1 b→w.heap.size≤b:=fun b hb=>(H1.own b hb).1
 have EV:Evo ρ w O ρ2 w' (fun b=>O b∨O1 b):=
  ⟨ev.os,ev.tape,ev.output,ev.size,fun b hb _=>ev.keep b hb (fun q=>q),fun b hb hO=>hO.elim id (fun q=>by have:=hO1 b q;omega),hA⟩
 have hR:∀ v c,Rv num ρ1 w' (fun b=>(Fb b∨O b)∨O1 b) v c→Rv num ρ2 w' (fun b=>Fb b∨(O b∨O1 b)) v c:=by
  intro v c hv
  have:=hv.evo (ρ' := ρ2) (w':=w') (O':=O1) ⟨rfl,rfl,rfl,Nat.le_refl _,fun _ _ _=>rfl,fun _ _ q=>q,hB⟩
  exact this.F_mono (fun b hb=>by rcases hb with q | q | q<;>simp [q])
 have hget:∀ k p,(putAll h h0).get k=some p→(h0.get k=some p)∨(h0.get k=none∧h.get k=some p):=by
  intro k p hk
  rw [get_putAll_nodup k hn] at hk
  split at hk
  ·rename_i q hq;rw [← hk];exact .inl hq
  ·rename_i hq;exact .inr ⟨hq,hk⟩
 refine ⟨ρ2,EV,?_,hR⟩
 refine {blk:=?_,mpo:=?_,inj:=?_,ep:=?_,own:=?_,fbl:=H.fbl,le:=Nat.le_trans H.le ev.size}
 ·intro k e cs esz ag ti fz hk
  rcases hget k _ hk with hk | ⟨hn0,hk⟩
  ·obtain ⟨L,c,T,q1,q2,q3,q4,q5,q6,q7,q8,q9,q10⟩:=H1.blk _ _ _ _ _ _ _ hk
   refine ⟨L,c,T,hB _ _ _ q1,q2,q3,q4,q5,q6,fun i x hx=>?_,by have:=H.le;omega,fun z => .inr (q9 z),fun z hO=>?_⟩
   ·obtain ⟨y,y1,y2⟩:=q7 i x hx
    exact ⟨y,y1,hR _ _ y2⟩
   ·rcases hO with hO | hO
    ·have:=(H.own _ hO).2;omega
    ·exact q10 z hO
  ·obtain ⟨L,c,T,q1,q2,q3,q4,q5,q6,q7,q8,q9,q10⟩:=H.blk _ _ _ _ _ _ _ hk
   have hlt:=H.loc_lt hk (by intro e;cases e) q1
   refine ⟨L,c,T,hA _ _ _ q1,q2,q3,(ev.keep _ hlt (fun q=>q)).trans q4,q5,q6,fun i x hx=>?_,q8,fun z => .inl (q9 z),fun z hO=>?_⟩
   ·obtain ⟨y,y1,y2⟩:=q7 i x hx
    exact ⟨y,y1,y2.evo EV⟩
   ·rcases hO with hO | hO
    ·exact q10 z hO
    ·have:=hO1 _ hO;omega
 ·intro k e es hk
  rcases hget k _ hk with hk | ⟨hn0,hk⟩
  ·obtain ⟨L,c,clock,q1,q2,q3,q4,q5,q6⟩:=H1.mpo _ _ _ hk
   refine ⟨L,c,clock,hB _ _ _ q1,q2,q3,fun i x y hx hy=>?_,by have:=H.le;omega,.inr q6⟩
   obtain ⟨z1,z2,z3,z4⟩:=q4 i x y hx hy
   exact ⟨hR _ _ z1,hR _ _ z2,z3,z4⟩
  ·obtain ⟨L,c,clock,q1,q2,q3,q4,q5,q6⟩:=H.mpo _ _ _ hk
   have hlt:=H.loc_lt hk (by intro e;cases e) q1
   refine ⟨L,c,clock,hA _ _ _ q1,(ev.keep _ hlt (fun q=>q)).trans q2,q3,fun i x y hx hy=>?_,q5,.inl q6⟩
   obtain ⟨z1,z2,z3,z4⟩:=q4 i x y hx hy
   exact ⟨z1.evo EV,z2.evo EV,z3,z4⟩
 ·intro k k' e e' o o' L L' g1 g2 l1 l2 r1 r2 hb
  rcases hget k _ g1 with g1 | ⟨n1,g1⟩<;>rcases hget k' _ g2 with g2 | ⟨n2,g2⟩
  ·simp only [ρ2,g1] at r1
   simp only [ρ2,g2] at r2
   exact H1.inj k k' e e' o o' L L' g1 g2 l1 l2 r1 r2 hb
  ·simp only [ρ2,g1] at r1
   simp only [ρ2,n2] at r2
   have h1:=H1.loc_ge g1 l1 r1
   have h2:=H.loc_lt g2 (by intro e;subst e;cases l2) r2
   omega
  ·simp only [ρ2,n1] at r1
   simp only [ρ2,g2] at r2
   have h1:=H1.loc_ge g2 l2 r2
   have h2:=H.loc_lt g1 (by intro e;subst e;cases l1) r1
   omega
  ·simp only [ρ2,n1] at r1
   simp only [ρ2,n2] at r2
   exact H.inj k k' e e' o o' L L' g1 g2 l1 l2 r1 r2 hb
 ·intro k e L hL
  cases hq:h0.get k with
  | some p=>
   simp only [ρ2,hq] at hL
   obtain ⟨e',o,q1,q2⟩:=H1.ep k e L hL
   exact ⟨e',o,by rw [get_putAll_nodup k hn,q1],q2⟩
  | none=>
   simp only [ρ2,hq] at hL
   obtain ⟨e',o,q1,q2⟩:=H.ep k e L hL
   exact ⟨e',o,by rw [get_putAll_nodup k hn,hq];exact q1,q2⟩
 ·intro b hb
  rcases hb with hb | hb
  ·exact ⟨(H.own b hb).1,Nat.lt_of_lt_of_le (H.own b hb).2 ev.size⟩
  ·have:=H.le
   exact ⟨by have:=(H1.own b hb).1;omega,(H1.own b hb).2⟩
theorem treeL_mem:∀ {l:List AV},treeL l=true→∀ x∈l,x.tree=true
 | [],_,_,hx=>by cases hx
 | y :: r,h,x,hx=>by
  simp only [treeL,Bool.and_eq_true] at h
  rcases List.mem_cons.1 hx with rfl | hx
  ·exact h.1
  ·exact treeL_mem h.2 x hx
theorem callE0_sound (hc:CallOK P num gl gnum call) (H:HpR num Fb B0 ρ w O h) (hg:GlobOK num gl gnum ρ w (fun b=>Fb b∨O b)) {kb s f:Nat} {avs:List AV} {v:AV} {eff:Eff}
  (h1:callE0 call kb s h f avs=some (v,eff)) {vs:List Value} (hv:All2 (Rv num ρ w (fun b=>Fb b∨O b)) avs vs) :
  (∃ fn,P.funcs[num f]?=some fn∧fn.body.isSome=true∧fn.name ≠ "runtime.NumGoroutine") ∧
  Calls P (num f) vs.toArray w fun e w'=>∃ cv ρ' O',e = .returned cv∧Evo ρ w O ρ' w' O'∧HpR num Fb B0 ρ' w' O' (eff.app h)∧Rv num ρ' w' (fun b=>Fb b∨O' b) v cv:=by
 unfold callE0 at h1
 split at h1
 case isFalse=>cases h1
 rename_i htr
 split at h1
 case h_2=>cases h1
 rename_i r rd pa ht
 cases h1
 obtain ⟨b',hcall,hn,hf⟩:=tryE_of ht
 obtain ⟨a1,a2⟩:=hc _ _ _ _ _ _ hcall
 have hF:∀ b,(Fb b∨O b)→b < w.heap.size:=by
  intro b hb
  rcases hb with q | q
  ·have:=H.fbl _ q;have:=H.le;omega
  ·exact (H.own _ q).2
 have hargs:All2 (Rv num (fun _ _=>none) w (fun b=>(Fb b∨O b)∨False)) avs vs:=by
  refine All2.of_get hv.length ?_
  intro i x y hx hy
  exact (hv.get i x y hx hy).tree_mono (treeL_mem htr x (List.mem_of_getElem? hx)) (fun b hb=>hb.elim id False.elim)
 have hgl:GlobOK num gl gnum (fun _ _=>none) w (fun b=>(Fb b∨O b)∨False):=by
  intro g u hu
  obtain ⟨t1,t2⟩:=hg g u hu
  exact ⟨t1,t2.tree_mono (by simpa [AV.tree] using t1.1) (fun b hb=>hb.elim id False.elim)⟩
 refine ⟨a1,(a2 (fun b=>Fb b∨O b) w.heap.size (fun _ _=>none) (fun _=>False) w vs (HpR.start _ w hF) hgl hargs).mono ?_⟩
 rintro e w' ⟨cv,ρ1,O1,rfl,ev,H1,hr⟩
 obtain ⟨ρ2,q1,q2,q3⟩:=H.union ev H1 hn hf
 exact ⟨cv,ρ2,_,rfl,q1,q2,q3 _ _ hr⟩
theorem callA_sound (hc:CallOK P num gl gnum call) (H:HpR num Fb B0 ρ w O h) (hg:GlobOK num gl gnum ρ w (fun b=>Fb b∨O b)) {kb s f:Nat} {th im:Bool} {avs:List AV} {v:AV} {eff:Eff}
  (h1:callA call kb s h f th im avs=some (v,eff)) {vs:List Value} (hv:All2 (Rv num ρ w (fun b=>Fb b∨O b)) avs vs) :
  (∃ fn,P.funcs[num f]?=some fn∧fn.body.isSome=true∧fn.name ≠ "runtime.NumGoroutine") ∧
  Calls P (num f) vs.toArray w fun e w'=>∃ cv ρ' O',e = .returned cv∧Evo ρ w O ρ' w' O'∧HpR num Fb B0 ρ' w' O' (eff.app h)∧Rv num ρ' w' (fun b=>Fb b∨O' b) v cv:=by
 unfold callA at h1
 split at h1
 ·rename_i ts keys hm
  cases im with
  | true=>simp at hm
  | false=>
   simp at hm
   split at h1
   case h_2=>cases h1
   rename_i r hr
   split at h1
   case h_2=>cases h1
   rename_i v' pa hrec
   cases h1
   obtain ⟨m1,m2⟩:=mapS_get hm
   let Fb':Nat→Prop:=fun b=>(Fb b∨O b)∧¬ SB ρ h keys b
   have hlt:∀ b,Fb' b→b < w.heap.size:=by
    intro b hb
    rcases hb.1 with q | q
    ·have:=H.fbl _ q;have:=H.le;omega
    ·exact (H.own _ q).2
   have hargs:All2 (Rv num (fun _ _=>none) w Fb') ts vs:=by
    refine All2.of_get (by have:=hv.length;omega) ?_
    intro i x y hx hy
    have hi:i < avs.length:=by have:=(List.getElem?_eq_some_iff.1 hx).1;omega
    obtain ⟨x',s',p1,p2,p3⟩:=m2 i avs[i] (by simp [hi])
    rw [hx] at p1;cases p1
    exact snap_sound H (F':=Fb') (fun b hb=>hb.1) depth _ _ _ _ p2 (hv.get i _ y (by simp [hi]) hy) (fun b hb hF=>hF.2 (by
     obtain ⟨k,e,o,L,q1,q2⟩:=hb
     exact ⟨k,e,o,L,p3 k q1,q2⟩))
   have hgl:GlobOK num gl gnum (fun _ _=>none) w Fb':=by
    intro g u hu
    obtain ⟨t1,t2⟩:=hg g u hu
    exact ⟨t1,t2.tree_mono (by simpa [AV.tree] using t1.1) (fun b hb=>hb.1)⟩
   obtain ⟨a1,a2⟩:=callP_sound (Fb:=Fb') hc hr hlt hgl hargs
   refine ⟨a1,a2.mono ?_⟩
   rintro e w' ⟨cv,rfl,ev,hres⟩
   obtain ⟨ρ',O',e1,e2,e3⟩:=receive_sound (Fb':=Fb') (S:=keys) H ev (fun b hb hnb=>⟨hb,hnb⟩) hres hrec
   exact ⟨cv,ρ',O',rfl,e1,e2,e3⟩
 ·split at h1
  case h_2=>cases h1
  rename_i r h' hcall
  cases h1
  obtain ⟨a1,a2⟩:=hc _ _ _ _ _ _ hcall
  exact ⟨a1,a2 Fb B0 ρ O w vs H hg hv⟩
end
def fitXs (num gnum:Nat→Nat):List X→List Operand→Bool
 | [],[]=>true
 | x :: r,o :: s=>fitX num gnum x o&&fitXs num gnum r s
 | _,_=>false
def fitR (P:Program) (num gnum:Nat→Nat) (ops:Array Oper) (o:Oper) (r:R):Bool:=
 r.d == o.dst&&(match fitK P num o r.k with | some l=>fitXs num gnum r.xs l | none=>false) &&
 (match o.guard,r.gd with
  | none,none=>true
  | some (j,b),some (t,c)=>b == c&&(ops[j]?).bind (·.dst) == some t
  | _,_=>false)
structure EnvR (num:Nat→Nat) (ρ : Rho) (w:World) (F:Nat→Prop) (env:List AV) (a:Act):Prop where
 size:env.length=a.tmps.size
 get:∀ (t:Nat) (x:AV) (y:Value),env[t]?=some x→a.tmps[t]?=some y→Rv num ρ w F x y
 defers:a.defers=[]
def Good (num:Nat→Nat) (gl:Nat→Option AV) (gnum:Nat→Nat) (Fb:Nat→Prop) (B0:Nat) (ρ0:Rho) (w0:World) (O0:Nat→Prop) (st:St) (a:Act) (w:World):Prop:=
 ∃ ρ O,Evo ρ0 w0 O0 ρ w O∧HpR num Fb B0 ρ w O st.hp∧GlobOK num gl gnum ρ w (fun b=>Fb b∨O b)∧EnvR num ρ w (fun b=>Fb b∨O b) st.env a
section
variable {P:Program} {num:Nat→Nat} {gl:Nat→Option AV} {gnum:Nat→Nat} {call:Caller} {Fb:Nat→Prop} {B0:Nat} {ρ ρ0:Rho} {w w0:World} {O O0:Nat→Prop} {h:Hp}
theorem GlobOK.evo {ρ':Rho} {w':World} {O':Nat→Prop} (hg:GlobOK num gl gnum ρ w (fun b=>Fb b∨O b)) (ev:Evo ρ w O ρ' w' O'):GlobOK num gl gnum ρ' w' (fun b=>Fb b∨O' b):=
 fun g v q=>⟨⟨(hg g v q).1.1,by
  obtain ⟨c,T,fr,h1,h2⟩:=(hg g v q).1.2
  obtain ⟨b,off,m,hx,hF,hb,_⟩:=(hg g v q).2.of_fp
  cases hx
  exact ⟨c,T,fr,(ev.keep _ hb (fun h=>hF (.inr h))).trans h1,h2⟩⟩,(hg g v q).2.evo ev⟩
theorem EnvR.evo {ρ':Rho} {w':World} {O':Nat→Prop} {env:List AV} {a:Act} (he:EnvR num ρ w (fun b=>Fb b∨O b) env a) (ev:Evo ρ w O ρ' w' O'):EnvR num ρ' w' (fun b=>Fb b∨O' b) env a:=
 ⟨he.size,fun t x y hx hy=>(he.get t x y hx hy).evo ev,he.defers⟩
theorem EnvR.put {F:Nat→Prop} {env:List AV} {a:Act} (he:EnvR num ρ w F env a) {v:AV} {c:Value} (hv:Rv num ρ w F v c) (d:Option Tmp):EnvR num ρ w F (setD env d v) (a.put d c):=by
 cases d with
 | none=>exact he
 | some d=>
  refine ⟨by simp [setD,Act.put,he.size],?_,he.defers⟩
  intro t x y hx hy
  simp only [setD,Act.put,List.getElem?_set,Array.getElem?_setIfInBounds] at hx hy
  have:=he.size
  by_cases ht:d=t
  ·subst ht
   simp only [if_true] at hx hy
   split at hx
   ·cases hx
    split at hy
    ·cases hy;exact hv
    ·cases hy
   ·cases hx
  ·rw [if_neg ht] at hx hy
   exact he.get t x y hx hy
theorem EnvR.tmp {F:Nat→Prop} {env:List AV} {a:Act} (he:EnvR num ρ w F env a) (t:Nat):Rv num ρ w F (getT env t) (a.tmps.getD t undef):=by
 unfold getT
 rcases Nat.lt_or_ge t env.length with q | q
 ·have q':t < a.tmps.size:=by have:=he.size;omega
  have:=he.get t env[t] a.tmps[t] (by simp [q]) (by simp [q'])
  simpa [q,q'] using this
 ·rw [List.getElem?_eq_none q]
  exact .top _
theorem ev_sound {env:List AV} {a:Act} {F:Nat→Prop} (he:EnvR num ρ w F env a) (hg:GlobOK num gl gnum ρ w F) {x:X} {o:Operand} (hf:fitX num gnum x o=true):Rv num ρ w F (x.ev gl env) (a.eval o):=by
 unfold fitX at hf
 split at hf
 ·obtain rfl:=by simpa using hf
  exact he.tmp _
 ·exact fitV_sound hf
 ·rename_i n g
  obtain rfl:gnum n=g:=by simpa using hf
  cases hgl:gl n with
  | none=>simp only [X.ev,hgl];exact .top _
  | some v=>simp only [X.ev,hgl];exact (hg n v hgl).2
 ·rename_i n f
  obtain rfl:num n=f:=by simpa using hf
  exact .fn n [] #[] rfl (by intro i x y hx;simp at hx)
 ·cases hf
theorem evs_sound {env:List AV} {a:Act} {F:Nat→Prop} (he:EnvR num ρ w F env a) (hg:GlobOK num gl gnum ρ w F):∀ {xs:List X} {os:List Operand},fitXs num gnum xs os=true →
  All2 (Rv num ρ w F) (xs.map (X.ev gl env)) (os.map a.eval)
 | [],[],_ => .nil
 | [],_ :: _,h=>by simp [fitXs] at h
 | _ :: _,[],h=>by simp [fitXs] at h
 | _ :: _,_ :: _,h=>by
  simp only [fitXs,Bool.and_eq_true] at h
  exact .cons (ev_sound he hg h.1) (evs_sound he hg h.2)
theorem All2.split {α β : Type} {R : α → β → Prop}:∀ {l l':List α} {m m':List β},l.length=m.length→All2 R (l++l') (m++m')→All2 R l m∧All2 R l' m'
 | [],_,[],_,_,h=>⟨.nil,h⟩
 | [],_,_ :: _,_,h,_=>by simp at h
 | _ :: _,_,[],_,h,_=>by simp at h
 | _ :: _,_,_ :: _,_,hl,h=>by
  cases h with
  | cons h1 h2=>
   obtain ⟨a,b⟩:=All2.split (by simpa using hl) h2
   exact ⟨.cons h1 a,b⟩
theorem run_callFunc {g:Nat} {args:Array Value} (w:World) (h:∃ fn,P.funcs[g]?=some fn∧fn.body.isSome=true∧fn.name ≠ "runtime.NumGoroutine") :
  (callFunc g args).run P w = .ok (.enter g args) w:=by
 obtain ⟨fn,h1,h2,h3⟩:=h
 have hb:fn.body.isNone=false:=by cases hbb:fn.body<;>simp [hbb] at h2 ⊢
 simp [callFunc,h1,h3]
 intro q
 rw [q] at h2
 cases h2
theorem oper_sound (hc:CallOK P num gl gnum call) {kb:Nat} {r:R} {o:Oper} {l:List Operand} {st:St} {a:Act} {v:AV} {eff:Eff} (H:HpR num Fb B0 ρ w O st.hp) (hg:GlobOK num gl gnum ρ w (fun b=>Fb b∨O b))
  (he:EnvR num ρ w (fun b=>Fb b∨O b) st.env a) (hf:fitK P num o r.k=some l) (hx:fitXs num gnum r.xs l=true) (h1:opR call kb r st.hp (r.xs.map (X.ev gl st.env))=some (v,eff))
  {K:Act→World→Prop} {Q:Exit→Act→World→Prop}
  (hK:∀ cv w' ρ' O',Evo ρ w O ρ' w' O'→HpR num Fb B0 ρ' w' O' (eff.app st.hp)→Rv num ρ' w' (fun b=>Fb b∨O' b) v cv→K (a.put o.dst cv) w'):o.wp P a w K Q:=by
 have hv:=evs_sound he hg hx
 generalize r.xs.map (X.ev gl st.env)=vs at *
 unfold Oper.wp
 have hcall0:∀ (f:Nat) (cvs:List Value),((∃ fn,P.funcs[num f]?=some fn∧fn.body.isSome=true∧fn.name ≠ "runtime.NumGoroutine") ∧
   Calls P (num f) cvs.toArray w fun e w'=>∃ cv ρ' O',e = .returned cv∧Evo ρ w O ρ' w' O'∧HpR num Fb B0 ρ' w' O' (eff.app st.hp)∧Rv num ρ' w' (fun b=>Fb b∨O' b) v cv) →
   ((∃ fn,P.funcs[num f]?=some fn∧fn.body.isSome=true∧fn.name ≠ "runtime.NumGoroutine")→(execOp a.eval o).run P w = .ok (.enter (num f) cvs.toArray) w)→o.upon P a K Q ((execOp a.eval o).run P w):=by
  intro f cvs hca hrun
  obtain ⟨a1,a2⟩:=hca
  rw [hrun a1,Oper.upon_enter]
  refine a2.mono ?_
  rintro e w' ⟨cv,ρ',O',rfl,q1,q2,q3⟩
  exact hK cv w' ρ' O' q1 q2 q3
 have hcall:∀ (f:Nat) (avs:List AV) (cvs:List Value) (th im:Bool),callA call kb r.s st.hp f th im avs=some (v,eff)→All2 (Rv num ρ w (fun b=>Fb b∨O b)) avs cvs →
   ((∃ fn,P.funcs[num f]?=some fn∧fn.body.isSome=true∧fn.name ≠ "runtime.NumGoroutine")→(execOp a.eval o).run P w = .ok (.enter (num f) cvs.toArray) w)→o.upon P a K Q ((execOp a.eval o).run P w):=by
  intro f avs cvs th im hca hav hrun
  obtain ⟨a1,a2⟩:=callA_sound hc H hg hca hav
  rw [hrun a1,Oper.upon_enter]
  refine a2.mono ?_
  rintro e w' ⟨cv,ρ',O',rfl,q1,q2,q3⟩
  exact hK cv w' ρ' O' q1 q2 q3
 cases hk:r.k with
 | call f th im=>
  rw [hk] at hf
  simp only [opR,hk] at h1
  simp only [fitK] at hf
  split at hf
  case h_2=>cases hf
  rename_i g args tys ho
  obtain ⟨hgd,rfl⟩:=guardO_eq hf
  obtain rfl:num f=g:=by simpa using hgd
  refine hcall f vs (args.toList.map a.eval) th im h1 hv (fun hfn=>?_)
  have hm:(args.toList.map a.eval).toArray=args.map a.eval:=by rw [← Array.toList_map]
  rw [hm]
  have:=run_callFunc (P:=P) (g:=num f) (args:=args.map a.eval) w hfn
  simp [execOp,ho,resolve,Act.eval,Deferred.ofValue,invoke,this]
 | calle f=>
  rw [hk] at hf
  simp only [opR,hk] at h1
  simp only [fitK] at hf
  split at hf
  case h_2=>cases hf
  rename_i g args tys ho
  obtain ⟨hgd,rfl⟩:=guardO_eq hf
  obtain rfl:num f=g:=by simpa using hgd
  refine hcall0 f (args.toList.map a.eval) (callE0_sound hc H hg h1 hv) (fun hfn=>?_)
  have hm:(args.toList.map a.eval).toArray=args.map a.eval:=by rw [← Array.toList_map]
  rw [hm]
  have:=run_callFunc (P:=P) (g:=num f) (args:=args.map a.eval) w hfn
  simp [execOp,ho,resolve,Act.eval,Deferred.ofValue,invoke,this]
 | callr f=>
  rw [hk] at hf
  simp only [opR,hk] at h1
  simp only [fitK] at hf
  split at hf
  case h_2=>cases hf
  rename_i g args tys ho
  obtain ⟨hgd,rfl⟩:=guardO_eq hf
  obtain rfl:num f=g:=by simpa using hgd
  refine hcall0 f (args.toList.map a.eval) (callR0_sound hc H hg h1 hv) (fun hfn=>?_)
  have hm:(args.toList.map a.eval).toArray=args.map a.eval:=by rw [← Array.toList_map]
  rw [hm]
  have:=run_callFunc (P:=P) (g:=num f) (args:=args.map a.eval) w hfn
  simp [execOp,ho,resolve,Act.eval,Deferred.ofValue,invoke,this]
 | callv th im=>
  rw [hk] at hf
  simp only [opR,hk] at h1
  simp only [fitK] at hf
  split at hf
  case h_2=>cases hf
  rename_i fo args tys ho
  cases hf
  split at h1
  case h_2=>cases h1
  rename_i f cs avs
  cases hv with
  | cons hfv hav=>
   obtain ⟨cvs,hfe,hcl,hcg⟩:=hfv.of_fn
   have hcv:All2 (Rv num ρ w (fun b=>Fb b∨O b)) cs cvs.toList:=All2.of_get (by simpa using hcl) (fun i x y hx hy=>hcg i x y hx (by simpa using hy))
   refine hcall f _ (args.toList.map a.eval++cvs.toList) th im h1 (hav.append hcv) (fun hfn=>?_)
   have hm:(args.toList.map a.eval++cvs.toList).toArray=args.map a.eval++cvs:=by
    apply Array.ext'
    simp
   rw [hm]
   have:=run_callFunc (P:=P) (g:=num f) (args:=args.map a.eval++cvs) w hfn
   simp [execOp,ho,resolve,hfe,Deferred.ofValue,invoke,this]
 | _=>
  all_goals
   have h2:op1 st.hp (kb+r.s) r.k vs=some (v,eff):=by
    rw [hk]
    simpa only [opR,hk,op1F_eq] using h1
   obtain ⟨n,cv,w',ρ',O',hr,hn,ev,H',hvv⟩:=op1_sound (P:=P) H (ρv:=a.eval) (fun _=>rfl) hv hf h2
   rw [hr]
   rcases hn with rfl | ⟨rfl,rfl⟩
   ·exact hK _ _ _ _ ev H' hvv
   ·exact hK _ _ _ _ ev H' hvv
theorem step_sound (hc:CallOK P num gl gnum call) {kb i:Nat} {ops:Array Oper} {r:R} {o:Oper} {st st':St} {eff:Eff} {a:Act} (hi:ops[i]?=some o) (hfit:fitR P num gnum ops o r=true)
  (hG:Good num gl gnum Fb B0 ρ0 w0 O0 st a w) (hs:stepR gl call kb r st=some (st',eff)) {K:Act→World→Prop} {Q:Exit→Act→World→Prop} (hK:∀ a' w',Good num gl gnum Fb B0 ρ0 w0 O0 st' a' w'→K a' w') :
  wpOp P ops Q i K a w:=by
 unfold fitR at hfit
 simp only [Bool.and_eq_true,beq_iff_eq] at hfit
 obtain ⟨⟨hd,hk⟩,hgd⟩:=hfit
 obtain ⟨ρ,O,ev0,H,hg,he⟩:=hG
 have hw:wanted st.env r.gd=some (Region.wanted o (yielded ops a.tmps))∨wanted st.env r.gd=none:=by
  unfold wanted Region.wanted
  cases hog:o.guard with
  | none=>
   cases hrg:r.gd with
   | none=>exact .inl rfl
   | some p=>simp [hog,hrg] at hgd
  | some p=>
   obtain ⟨j,b⟩:=p
   cases hrg:r.gd with
   | none=>simp [hog,hrg] at hgd
   | some q=>
    obtain ⟨t,c⟩:=q
    simp only [hog,hrg,Bool.and_eq_true,beq_iff_eq] at hgd
    obtain ⟨rfl,hdst⟩:=hgd
    have ht:=he.tmp t
    simp only
    have hin:∀ x,getT st.env t=x→x ≠ .top→∃ y,a.tmps[t]?=some y∧Rv num ρ w (fun b=>Fb b∨O b) x y:=by
     intro x hx hne
     rcases Nat.lt_or_ge t st.env.length with q | q
     ·have q':t < a.tmps.size:=by have:=he.size;omega
      refine ⟨a.tmps[t],by simp [q'],?_⟩
      rw [← hx]
      simpa [q'] using ht
     ·exfalso;apply hne;rw [← hx];unfold getT;rw [List.getElem?_eq_none q];rfl
    split
    ·rename_i c' hcb
     obtain ⟨y,hy,hyr⟩:=hin _ hcb (by simp)
     have:=hyr.of_bool
     subst this
     left
     simp [yielded,hdst,hy]
    ·rename_i hcb
     obtain ⟨y,hy,hyr⟩:=hin _ hcb (by simp)
     obtain ⟨vs,rfl,hl,_⟩:=hyr.of_tup
     left
     simp [yielded,hdst,hy]
    ·exact .inr rfl
 unfold wpOp
 rw [hi]
 simp only
 unfold stepR at hs
 rcases hw with hw | hw
 case inr=>rw [hw] at hs;cases hs
 rw [hw] at hs
 cases hwb:Region.wanted o (yielded ops a.tmps) with
 | false=>
  rw [hwb] at hs
  simp only at hs
  cases hs
  simp only [Bool.false_eq_true,if_false]
  refine hK _ _ ⟨ρ,O,ev0,H,hg,?_⟩
  rw [← hd]
  exact he.put (.tup [] #[] rfl (by intro i x y hx;simp at hx)) r.d
 | true=>
  rw [hwb] at hs
  simp only at hs
  split at hs
  case h_2=>cases hs
  rename_i v eff' hop
  cases hs
  simp only [if_true]
  split at hk
  case h_2=>cases hk
  rename_i l hfk
  left
  refine oper_sound hc H hg he hfk hk hop ?_
  intro cv w' ρ' O' e1 e2 e3
  refine hK _ _ ⟨ρ',O',ev0.trans e1,e2,hg.evo e1,?_⟩
  rw [← hd]
  exact (he.evo e1).put e3 r.d
end
end Go.Tev
end
section
namespace Go.Tev
open Go.RowKit
def Agree (h h2:Hp) (rd:List Nat):Prop:=∀ q∈rd,h2.get q=h.get q
theorem next_agree {h h2:Hp} {k:Nat} (hq:h2.get k=h.get k):h2.next k=h.next k:=by simp [Hp.next,hq]
theorem newA_agree {h h2:Hp} {k:Nat} {o:Ob} {f:Nat→AV} {v:AV} {rd:List Nat} {pa:List Ent} (h1:newA h k o f=some (v,.pat rd pa)) (ha:Agree h h2 rd):newA h2 k o f=some (v,.pat rd pa):=by
 simp only [newA,Option.some.injEq,Prod.mk.injEq,Eff.pat.injEq] at h1 ⊢
 obtain ⟨rfl,rfl,rfl⟩:=h1
 have:=next_agree (ha k (by simp))
 rw [this]
 exact ⟨rfl,rfl,rfl⟩
theorem src_agree {h h2:Hp} {esz:Nat} {ag:Bool} {y:AV} {r:List AV × Nat × List Nat} (h1:srcCells h esz ag y=some r) (ha:Agree h h2 r.2.2):srcCells h2 esz ag y=some r:=by
 unfold srcCells at h1 ⊢
 split at h1
 ·exact h1
 ·exact h1
 ·rename_i k e off len cap
  split at h1
  case h_2=>cases h1
  rename_i e' cs _ _ _ _ hg
  split at h1
  case isFalse=>cases h1
  rename_i hc
  cases h1
  have:=ha k (by simp)
  simp only [this,hg]
  rw [if_pos hc]
 ·cases h1
theorem mapS_agree {h h2:Hp} {f f2:AV→Option (AV × List Nat)}:∀ {l:List AV} {l':List AV} {s:List Nat},mapS f l=some (l',s)→Agree h h2 s →
  (∀ x y s',f x=some (y,s')→Agree h h2 s'→f2 x=some (y,s'))→mapS f2 l=some (l',s)
 | [],l',s,h1,_,_=>by simpa [mapS] using h1
 | x :: r,l',s,h1,ha,hf=>by
  unfold mapS at h1 ⊢
  split at h1
  ·cases h1
  ·rename_i y s1 hy
   split at h1
   ·cases h1
   ·rename_i r' s2 hr
    cases h1
    rw [hf x y s1 hy (fun q hq=>ha q (List.mem_append_left _ hq))]
    simp only
    rw [mapS_agree hr (fun q hq=>ha q (List.mem_append_right _ hq)) hf]
theorem snap_agree {h h2:Hp}:∀ (d:Nat) (v t:AV) (s:List Nat),snap d h v=some (t,s)→Agree h h2 s→snap d h2 v=some (t,s)
 | 0,v,t,s,h1,_=>by simp [snap] at h1
 | d+1,v,t,s,h1,ha=>by
  have ih:=fun (s:List Nat) (ha:Agree h h2 s) (l l':List AV) (hm:mapS (snap d h) l=some (l',s))=>mapS_agree hm ha (fun x y s'=>snap_agree d x y s')
  unfold snap at h1 ⊢
  split at h1
  ·rename_i ht;rw [if_pos ht];exact h1
  ·rename_i ht
   rw [if_neg ht]
   split at h1
   ·rename_i cs
    cases hm:mapS (snap d h) cs with
    | none=>simp [hm] at h1
    | some r=>
     obtain ⟨l,s0⟩:=r
     simp only [hm,Option.map_some,Option.some.injEq,Prod.mk.injEq] at h1
     obtain ⟨rfl,rfl⟩:=h1
     simp only [ih _ ha _ _ hm,Option.map_some]
   ·rename_i cs
    cases hm:mapS (snap d h) cs with
    | none=>simp [hm] at h1
    | some r=>
     obtain ⟨l,s0⟩:=r
     simp only [hm,Option.map_some,Option.some.injEq,Prod.mk.injEq] at h1
     obtain ⟨rfl,rfl⟩:=h1
     simp only [ih _ ha _ _ hm,Option.map_some]
   ·rename_i nl cs cl
    cases hm:mapS (snap d h) cs with
    | none=>simp [hm] at h1
    | some r=>
     obtain ⟨l,s0⟩:=r
     simp only [hm,Option.map_some,Option.some.injEq,Prod.mk.injEq] at h1
     obtain ⟨rfl,rfl⟩:=h1
     simp only [ih _ ha _ _ hm,Option.map_some]
   ·rename_i v'
    cases hm:snap d h v' with
    | none=>simp [hm] at h1
    | some r=>
     obtain ⟨l,s0⟩:=r
     simp only [hm,Option.map_some,Option.some.injEq,Prod.mk.injEq] at h1
     obtain ⟨rfl,rfl⟩:=h1
     simp only [snap_agree d _ _ _ hm ha,Option.map_some]
   ·rename_i f cs
    cases hm:mapS (snap d h) cs with
    | none=>simp [hm] at h1
    | some r=>
     obtain ⟨l,s0⟩:=r
     simp only [hm,Option.map_some,Option.some.injEq,Prod.mk.injEq] at h1
     obtain ⟨rfl,rfl⟩:=h1
     simp only [ih _ ha _ _ hm,Option.map_some]
   ·rename_i k e off len cap
    split at h1
    case h_2=>cases h1
    rename_i e' cs esz ag ti fz hg
    split at h1
    case isFalse=>cases h1
    rename_i he
    split at h1
    case h_2=>cases h1
    rename_i es hch
    cases hm:mapS (snap d h) es with
    | none=>simp [hm] at h1
    | some r=>
     obtain ⟨l,s0⟩:=r
     simp only [hm,Option.map_some,Option.some.injEq,Prod.mk.injEq] at h1
     obtain ⟨rfl,rfl⟩:=h1
     have hk:=ha k (by simp)
     simp only [hk,hg]
     rw [if_pos he]
     simp only [hch]
     rw [ih s0 (fun q hq=>ha q (List.mem_cons_of_mem _ hq)) _ _ hm]
     rfl
   ·rename_i k e off
    split at h1
    case h_2=>cases h1
    rename_i e' cs esz ag ti fz hg
    split at h1
    case isFalse=>cases h1
    rename_i he
    split at h1
    case h_2=>cases h1
    rename_i l s0 hm
    have hks:s=k :: s0:=by
     split at h1
     ·cases h1;rfl
     ·split at h1
      ·split at h1
       ·cases h1
       ·cases h1;rfl
      ·cases h1
    subst hks
    have hk:=ha k (by simp)
    simp only [hk,hg]
    rw [if_pos he]
    rw [ih s0 (fun q hq=>ha q (List.mem_cons_of_mem _ hq)) _ _ hm]
    exact h1
   ·cases h1
theorem get_putAll_of {h h2:Hp} {q:Nat} (hq:h2.get q=h.get q):∀ (pa:List Ent),(putAll h2 pa).get q=(putAll h pa).get q
 | []=>hq
 | x :: r=>by
  simp only [putAll]
  exact get_putAll_of (by simp only [get_put,hq]) r
theorem freezeK_agree:∀ (S:List Nat) (h h2:Hp),Agree h h2 S→freezeK h2 S=freezeK h S
 | [],_,_,_=>rfl
 | k :: r,h,h2,ha=>by
  have hk:=ha k (by simp)
  have hr:Agree h h2 r:=fun q hq=>ha q (List.mem_cons_of_mem _ hq)
  unfold freezeK
  rw [hk]
  split
  ·rename_i e cs esz ag ti hg
   rw [freezeK_agree r (h.put k e (.blk cs esz ag ti true)) (h2.put k e (.blk cs esz ag ti true)) (fun q hq=>by simp only [get_put,hr q hq])]
  ·exact freezeK_agree r _ _ hr
theorem receive_agree {h h2:Hp} {k:Nat} {th:Bool} {r:AV} (hq:h2.get k=h.get k):receive h2 k th r=receive h k th r:=by
 unfold receive
 rw [next_agree hq]
theorem callA_agree {call:Caller} {kb s f:Nat} {th im:Bool} {h h2:Hp} {vs:List AV} {v:AV} {rd:List Nat} {pa:List Ent} (h1:callA call kb s h f th im vs=some (v,.pat rd pa)) (ha:Agree h h2 rd) :
  callA call kb s h2 f th im vs=some (v,.pat rd pa):=by
 unfold callA at h1 ⊢
 split at h1
 ·rename_i ts keys hm
  cases im with
  | true=>simp at hm
  | false=>
   simp only [Bool.false_eq_true,if_false] at hm
   split at h1
   case h_2=>cases h1
   rename_i r hr
   split at h1
   case h_2=>cases h1
   rename_i v' pa' hrec
   cases h1
   have hks:Agree h h2 keys:=fun q hq=>ha q (List.mem_cons_of_mem _ hq)
   have h0:h2.get (kb+s)=h.get (kb+s):=ha _ (by simp)
   have hm2:=mapS_agree hm hks (fun x y s'=>snap_agree depth x y s')
   simp only [Bool.false_eq_true,if_false,hm2,hr,receive_agree h0,hrec,freezeK_agree keys h h2 hks]
 ·split at h1
  ·cases h1
  ·cases h1
theorem appA_agree {h h2:Hp} {k0 esz:Nat} {ag:Bool} {bytes:Nat} {x:AV} {src:List AV} {n:Nat} {r0 rd:List Nat} {v:AV} {pa:List Ent} (h1:appA h k0 esz ag bytes x src n r0=some (v,.pat rd pa)) (ha:Agree h h2 rd) :
  appA h2 k0 esz ag bytes x src n r0=some (v,.pat rd pa)∧∀ q∈r0,q∈rd:=by
 unfold appA at h1 ⊢
 split at h1
 ·split at h1
  ·rename_i hn;rw [if_pos hn];cases h1;exact ⟨by first | trivial | rfl,fun q hq=>hq⟩
  ·rename_i hn
   rw [if_neg hn]
   split at h1
   case isFalse=>cases h1
   rename_i hc
   rw [if_pos hc]
   split at h1
   case h_2=>cases h1
   rename_i cs hcs
   cases h1
   have:=next_agree (ha k0 (by simp))
   simp only [hcs,this]
   exact ⟨by first | trivial | rfl,fun q hq=>List.mem_cons_of_mem _ hq⟩
 ·rename_i k e off len cap
  split at h1
  case h_2=>cases h1
  rename_i e' cs esz' ag' ti fz hg
  split at h1
  case isFalse=>cases h1
  rename_i hc
  split at h1
  ·rename_i hn
   cases h1
   simp only [ha k (by simp),hg]
   rw [if_pos hc,if_pos hn]
   exact ⟨by first | trivial | rfl,fun q hq=>List.mem_cons_of_mem _ hq⟩
  ·rename_i hn
   split at h1
   ·rename_i hle
    split at h1
    ·cases h1
    ·rename_i hfz
     cases h1
     simp only [ha k (by simp),hg]
     rw [if_pos hc,if_neg hn,if_pos hle,if_neg hfz]
     exact ⟨by first | trivial | rfl,fun q hq=>List.mem_cons_of_mem _ hq⟩
   ·rename_i hle
    split at h1
    ·rename_i hb
     split at h1
     ·rename_i hti
      cases h1
      have hnx:=next_agree (ha k0 (by simp))
      simp only [ha k (by simp),hg,hnx]
      rw [if_pos hc,if_neg hn,if_neg hle,if_pos hb,if_pos hti]
      exact ⟨by first | trivial | rfl,fun q hq=>List.mem_cons_of_mem _ (List.mem_cons_of_mem _ hq)⟩
     ·rename_i hti
      split at h1
      ·cases h1
      ·rename_i hfz
       cases h1
       have hnx:=next_agree (ha k0 (by simp))
       simp only [ha k (by simp),hg,hnx]
       rw [if_pos hc,if_neg hn,if_neg hle,if_pos hb,if_neg hti,if_neg hfz]
       exact ⟨by first | trivial | rfl,fun q hq=>List.mem_cons_of_mem _ (List.mem_cons_of_mem _ hq)⟩
    ·rename_i hb
     split at h1
     ·rename_i hb2
      cases h1
      simp only [ha k (by simp),hg]
      rw [if_pos hc,if_neg hn,if_neg hle,if_neg hb,if_pos hb2]
      exact ⟨by first | trivial | rfl,fun q hq=>List.mem_cons_of_mem _ hq⟩
     ·cases h1
 ·cases h1
theorem sliceA_agree {h h2:Hp} {esz:Nat} {x:AV} {lo hi mx:Option Int} {rd:List Nat} {v:AV} {pa:List Ent} (h1:sliceA h esz x lo hi mx=some (v,.pat rd pa)) (ha:Agree h h2 rd) :
  sliceA h2 esz x lo hi mx=some (v,.pat rd pa):=by
 unfold sliceA at h1 ⊢
 split at h1
 ·exact h1
 ·rename_i k e off len cap
  split at h1
  case h_2=>cases h1
  rename_i e' cs esz' ag' ti fz hg
  simp only at h1
  split at h1
  ·rename_i hc
   cases h1
   simp only [ha k (by simp),hg]
   rw [if_pos hc]
  ·rename_i hc
   split at h1
   ·rename_i hc2
    cases h1
    simp only [ha k (by simp),hg]
    rw [if_neg hc,if_pos hc2]
   ·cases h1
 ·cases h1
theorem op1_agree {P:Program} {num:Nat→Nat} {o:Oper} {l:List Operand} {h h2:Hp} {k0:Nat} {k:K} (hf:fitK P num o k=some l) {vs:List AV} {rd:List Nat} {v:AV} {pa:List Ent}
  (h1:op1 h k0 k vs=some (v,.pat rd pa)) (ha:Agree h h2 rd):op1 h2 k0 k vs=some (v,.pat rd pa):=by
 have any:op1 h2 k0 k vs=op1 h k0 k vs→op1 h2 k0 k vs=some (v,.pat rd pa):=fun q=>q.trans h1
 cases k with
 | mov=>rcases vs with _ | ⟨x,_ | ⟨y,_ | ⟨z,_ | ⟨u,r⟩⟩⟩⟩<;>exact any rfl
 | pick=>rcases vs with _ | ⟨x,_ | ⟨y,_ | ⟨z,_ | ⟨u,r⟩⟩⟩⟩<;>exact any rfl
 | build z p=>rcases vs with _ | ⟨x,_ | ⟨y,_ | ⟨z,_ | ⟨u,r⟩⟩⟩⟩<;>exact any rfl
 | nilc=>rcases vs with _ | ⟨x,_ | ⟨y,_ | ⟨z,_ | ⟨u,r⟩⟩⟩⟩<;>exact any rfl
 | bin op=>rcases vs with _ | ⟨x,_ | ⟨y,_ | ⟨z,_ | ⟨u,r⟩⟩⟩⟩<;>exact any rfl
 | beq n=>rcases vs with _ | ⟨x,_ | ⟨y,_ | ⟨z,_ | ⟨u,r⟩⟩⟩⟩<;>exact any rfl
 | eqn q n=>rcases vs with _ | ⟨x,_ | ⟨y,_ | ⟨z,_ | ⟨u,r⟩⟩⟩⟩<;>exact any rfl
 | eqs n q=>rcases vs with _ | ⟨x,_ | ⟨y,_ | ⟨z,_ | ⟨u,r⟩⟩⟩⟩<;>exact any rfl
 | un op=>rcases vs with _ | ⟨x,_ | ⟨y,_ | ⟨z,_ | ⟨u,r⟩⟩⟩⟩<;>exact any rfl
 | cvi k=>rcases vs with _ | ⟨x,_ | ⟨y,_ | ⟨z,_ | ⟨u,r⟩⟩⟩⟩<;>exact any rfl
 | cvs=>rcases vs with _ | ⟨x,_ | ⟨y,_ | ⟨z,_ | ⟨u,r⟩⟩⟩⟩<;>exact any rfl
 | s2b=>rcases vs with _ | ⟨x,_ | ⟨y,_ | ⟨z,_ | ⟨u,r⟩⟩⟩⟩<;>exact any rfl
 | fld a b c=>rcases vs with _ | ⟨x,_ | ⟨y,_ | ⟨z,_ | ⟨u,r⟩⟩⟩⟩<;>exact any rfl
 | fad a b c=>rcases vs with _ | ⟨x,_ | ⟨y,_ | ⟨z,_ | ⟨u,r⟩⟩⟩⟩<;>exact any rfl
 | iad a b c=>rcases vs with _ | ⟨x,_ | ⟨y,_ | ⟨z,_ | ⟨u,r⟩⟩⟩⟩<;>exact any rfl
 | ixs=>rcases vs with _ | ⟨x,_ | ⟨y,_ | ⟨z,_ | ⟨u,r⟩⟩⟩⟩<;>exact any rfl
 | ixa a b c=>rcases vs with _ | ⟨x,_ | ⟨y,_ | ⟨z,_ | ⟨u,r⟩⟩⟩⟩<;>exact any rfl
 | sls a b=>rcases vs with _ | ⟨x,_ | ⟨y,_ | ⟨z,_ | ⟨u,r⟩⟩⟩⟩<;>exact any rfl
 | lenc n=>rcases vs with _ | ⟨x,_ | ⟨y,_ | ⟨z,_ | ⟨u,r⟩⟩⟩⟩<;>exact any rfl
 | mn=>rcases vs with _ | ⟨x,_ | ⟨y,_ | ⟨z,_ | ⟨u,r⟩⟩⟩⟩<;>exact any rfl
 | mx=>rcases vs with _ | ⟨x,_ | ⟨y,_ | ⟨z,_ | ⟨u,r⟩⟩⟩⟩<;>exact any rfl
 | ext i=>rcases vs with _ | ⟨x,_ | ⟨y,_ | ⟨z,_ | ⟨u,r⟩⟩⟩⟩<;>exact any rfl
 | mki=>rcases vs with _ | ⟨x,_ | ⟨y,_ | ⟨z,_ | ⟨u,r⟩⟩⟩⟩<;>exact any rfl
 | mkf f=>rcases vs with _ | ⟨x,_ | ⟨y,_ | ⟨z,_ | ⟨u,r⟩⟩⟩⟩<;>exact any rfl
 | call=>simp [op1] at h1
 | callv=>simp [op1] at h1
 | calle f=>simp [op1] at h1
 | callr f=>simp [op1] at h1
 | bad=>simp [op1] at h1
 | apz a b c d=>
  clear any
  match vs,h1 with
  | [x,y],h1=>
   simp only [op1] at h1 ⊢
   split at h1
   case h_2=>cases h1
   split at h1
   case isFalse=>cases h1
   rename_i hc
   rw [if_pos hc]
   exact (appA_agree h1 ha).1
 | clr=>simp [fitK] at hf
 | mkm=>
  clear any
  match vs,h1 with
  | [],h1=>
   simp only [op1] at h1 ⊢
   exact newA_agree h1 ha
 | mlk q z ok=>
  clear any
  match vs,h1 with
  | [m,x],h1=>
   cases m with
   | nilm=>exact h1
   | mp k e=>
    simp only [op1] at h1 ⊢
    cases hg:h.get k with
    | none=>simp [hg] at h1
    | some eo=>
     obtain ⟨e',ob⟩:=eo
     have hk:k∈rd:=by
      simp only [hg] at h1
      split at h1
      ·split at h1
       ·split at h1<;>first | (cases h1;done) | (simp only [Option.some.injEq,Prod.mk.injEq,Eff.pat.injEq] at h1;obtain ⟨_,rfl,_⟩:=h1;simp)
       ·cases h1
      ·cases h1
     rw [ha k hk,hg]
     simpa only [hg] using h1
   | _=>simp [op1] at h1
 | mup q=>
  clear any
  match vs,h1 with
  | [m,x,y],h1=>
   cases m with
   | mp k e=>
    simp only [op1] at h1 ⊢
    cases hg:h.get k with
    | none=>simp [hg] at h1
    | some eo=>
     obtain ⟨e',ob⟩:=eo
     have hk:k∈rd:=by
      simp only [hg] at h1
      split at h1
      ·split at h1
       ·split at h1<;>first | (cases h1;done) | (simp only [Option.some.injEq,Prod.mk.injEq,Eff.pat.injEq] at h1;obtain ⟨_,rfl,_⟩:=h1;simp)
       ·cases h1
      ·cases h1
     rw [ha k hk,hg]
     simpa only [hg] using h1
   | _=>simp [op1] at h1
 | mdel q=>
  clear any
  match vs,h1 with
  | [m,x],h1=>
   cases m with
   | nilm=>exact h1
   | mp k e=>
    simp only [op1] at h1 ⊢
    cases hg:h.get k with
    | none=>simp [hg] at h1
    | some eo=>
     obtain ⟨e',ob⟩:=eo
     have hk:k∈rd:=by
      simp only [hg] at h1
      split at h1
      ·split at h1
       ·split at h1<;>first | (cases h1;done) | (simp only [Option.some.injEq,Prod.mk.injEq,Eff.pat.injEq] at h1;obtain ⟨_,rfl,_⟩:=h1;simp)
       ·cases h1
      ·cases h1
     rw [ha k hk,hg]
     simpa only [hg] using h1
   | _=>simp [op1] at h1
 | box=>
  clear any
  match vs,h1 with
  | [x],h1=>
   simp only [op1] at h1 ⊢
   split at h1
   case isFalse=>cases h1
   rename_i hc
   rw [if_pos hc]
   exact newA_agree h1 ha
 | alloc z a=>
  clear any
  match vs,h1 with
  | [],h1=>
   simp only [op1] at h1 ⊢
   exact newA_agree h1 ha
 | mkSl a b c=>
  have e1:∀ h0:Hp,op1 h0 k0 (.mkSl a b c) vs=if c=true then (match unchunk a b vs with
   | some cs=>newA h0 k0 (.blk cs a b true false) (fun e => .rf k0 e 0 vs.length vs.length)
   | none=>none) else if (vs.all fun v=>v.fits a b)=true then val (.sl false vs true) else none:=by
   intro h0
   rcases vs with _ | ⟨x,_ | ⟨y,_ | ⟨z,_ | ⟨u,r⟩⟩⟩⟩<;>rfl
  rw [e1] at h1 ⊢
  cases c with
  | true=>
   simp only [if_true] at h1 ⊢
   cases hu:unchunk a b vs with
   | none=>simp [hu] at h1
   | some cs=>
    simp only [hu] at h1 ⊢
    exact newA_agree h1 ha
  | false=>exact h1
 | mkZ a b=>
  have e1:∀ h0:Hp,op1 h0 k0 (.mkZ a b) vs=match mapS (snap depth h0) vs with
   | some (ts,keys)=>if ts.all fun v=>v.fits a b then some (.sl false ts true,.pat keys (freezeK h0 keys)) else none
   | none=>none:=by
   intro h0
   rcases vs with _ | ⟨x,_ | ⟨y,_ | ⟨z,_ | ⟨u,r⟩⟩⟩⟩<;>rfl
  rw [e1] at h1 ⊢
  split at h1
  case h_2=>cases h1
  rename_i ts keys hm
  split at h1
  case isFalse=>cases h1
  rename_i hall
  simp only [Option.some.injEq,Prod.mk.injEq,Eff.pat.injEq] at h1
  obtain ⟨rfl,rfl,rfl⟩:=h1
  rw [mapS_agree hm ha (fun x y s'=>snap_agree depth x y s')]
  simp only [hall,if_true,freezeK_agree keys h h2 ha]
 | load a b=>
  clear any
  match vs,h1 with
  | [x],h1=>
   simp only [op1] at h1 ⊢
   split at h1
   ·exact h1
   ·rename_i k e off
    split at h1
    case h_2=>cases h1
    rename_i e' cs _ _ _ _ hg
    split at h1
    case isFalse=>cases h1
    rename_i hc
    cases hp:partA cs off a b with
    | none=>simp [hp] at h1
    | some u=>
     simp only [hp,Option.map_some,Option.some.injEq,Prod.mk.injEq,Eff.pat.injEq] at h1
     obtain ⟨rfl,rfl,rfl⟩:=h1
     simp only [ha k (by simp),hg]
     rw [if_pos hc,hp]
     rfl
   ·cases h1
 | store a b=>
  clear any
  match vs,h1 with
  | [x,y],h1=>
   simp only [op1] at h1 ⊢
   split at h1
   ·rename_i k e off
    split at h1
    case h_2=>cases h1
    rename_i e' cs _ _ _ hg
    split at h1
    case isFalse=>cases h1
    rename_i hc
    cases h1
    simp only [ha k (by simp),hg]
    rw [if_pos hc]
   ·cases h1
 | b2s=>
  clear any
  match vs,h1 with
  | [x],h1=>
   have e1:∀ h0:Hp,(∀ s,x ≠ .str s)→op1 h0 k0 .b2s [x]=match srcCells h0 1 false x with
    | some (cs,_,rd)=>match bytesOf cs with
     | some bs=>some (.str bs,.pat rd [])
     | none=>none
    | none=>none:=by
    intro h0 hx
    cases x<;>first | rfl | exact absurd rfl (hx _)
   by_cases hx:∀ s,x ≠ .str s
   ·rw [e1 _ hx] at h1 ⊢
    split at h1
    case h_2=>cases h1
    rename_i cs n rd' hs
    split at h1
    case h_2=>cases h1
    rename_i bs hb
    cases h1
    rw [src_agree hs ha]
    simp only [hb]
   ·cases x<;>first | exact h1 | exact absurd (fun s q=>by cases q) hx
 | slc a b c d=>
  clear any
  match vs,h1 with
  | x :: r,h1=>
   simp only [op1] at h1 ⊢
   cases q1:optI b r with
   | none=>simp [q1] at h1
   | some p=>
    simp only [q1] at h1 ⊢
    cases q2:optI c p.2 with
    | none=>simp [q2] at h1
    | some p2=>
     simp only [q2] at h1 ⊢
     cases q3:optI d p2.2 with
     | none=>simp [q3] at h1
     | some p3=>
      obtain ⟨m,r3⟩:=p3
      cases r3 with
      | nil=>
       simp only [q3] at h1 ⊢
       exact sliceA_agree h1 ha
      | cons=>simp [q3] at h1
 | sla a b c d=>
  clear any
  match vs,h1 with
  | x :: r,h1=>
   cases x with
   | pt k e off=>
    simp only [op1] at h1 ⊢
    cases q1:optI c r with
    | none=>simp [q1] at h1
    | some p=>
     simp only [q1] at h1 ⊢
     cases q2:optI d p.2 with
     | none=>simp [q2] at h1
     | some p2=>
      obtain ⟨m,r3⟩:=p2
      cases r3 with
      | cons=>simp [q2] at h1
      | nil=>
       simp only [q2] at h1 ⊢
       split at h1
       case h_2=>cases h1
       rename_i e' cs esz' _ _ hg
       split at h1
       case isFalse=>cases h1
       rename_i hc
       cases h1
       simp only [ha k (by simp),hg]
       rw [if_pos hc]
   | _=>simp [op1] at h1
 | mks a b c d=>
  clear any
  match vs,h1 with
  | [x,y],h1=>
   simp only [op1] at h1 ⊢
   split at h1
   case h_2=>cases h1
   split at h1
   case isFalse=>cases h1
   rename_i hc
   rw [if_pos hc]
   exact newA_agree h1 ha
 | len q=>
  rcases vs with _ | ⟨x,_ | ⟨y,r⟩⟩
  ·simp [op1] at h1
  ·rcases q with _ | _ | _ | q
   ·exact any rfl
   ·exact any rfl
   ·clear any
    cases x with
    | mp k e=>
     simp only [op1] at h1 ⊢
     split at h1
     case h_2=>cases h1
     rename_i e' es hg
     split at h1
     case isFalse=>cases h1
     rename_i hc
     cases h1
     simp only [ha k (by simp),hg]
     rw [if_pos hc]
    | _=>exact h1
   ·simp [op1] at h1
  ·simp [op1] at h1
 | cap=>
  clear any
  match vs,h1 with
  | [x],h1=>
   simp only [op1] at h1 ⊢
   split at h1
   ·exact h1
   ·rename_i k e _ _ cap
    split at h1
    case h_2=>cases h1
    rename_i e' _ _ _ _ hg
    split at h1
    case isFalse=>cases h1
    rename_i hc
    cases h1
    simp only [ha k (by simp),hg]
    rw [if_pos hc]
   ·cases h1
 | app a b c=>
  clear any
  match vs,h1 with
  | [x,y],h1=>
   simp only [op1] at h1 ⊢
   split at h1
   case h_2=>cases h1
   rename_i cs n rd' hs
   obtain ⟨q1,q2⟩:=appA_agree h1 ha
   rw [src_agree hs (fun q hq=>ha q (q2 q hq))]
   exact q1
 | cpy a b=>
  clear any
  match vs,h1 with
  | [x,y],h1=>
   simp only [op1] at h1 ⊢
   split at h1
   case h_2=>cases h1
   rename_i k e off len _
   split at h1
   case h_2=>cases h1
   rename_i e' cs esz' ag' ti new n rd' hg hs
   split at h1
   case isFalse=>cases h1
   rename_i hc
   cases h1
   rw [src_agree hs (fun q hq=>ha q (List.mem_cons_of_mem _ hq)),ha k (by simp)]
   simp only [hg]
   rw [if_pos hc]
theorem tryE_agree {call:Caller} {f:Nat} {vs:List AV} {h h2:Hp}:∀ {n b:Nat} {r:AV} {rd:List Nat} {pa:List Ent},tryE call h f vs n b=some (r,rd,pa)→Agree h h2 rd→tryE call h2 f vs n b=some (r,rd,pa)
 | 0,_,_,_,_,h1,_=>by simp [tryE] at h1
 | n+1,b,r,rd,pa,h1,ha=>by
  unfold tryE at h1 ⊢
  cases hc:call f vs b [] with
  | none=>simp [hc] at h1
  | some q=>
   obtain ⟨r0,h0⟩:=q
   simp only [hc] at h1 ⊢
   have key:∀ S:List Nat,(∀ k∈h0.map (·.k),k∈S)→Agree h h2 S→(h0.all fun x=>(h2.get x.k).isNone)=(h0.all fun x=>(h.get x.k).isNone):=by
    intro S hS hA
    rw [Bool.eq_iff_iff]
    simp only [List.all_eq_true]
    constructor
    ·intro q x hx
     rw [← hA x.k (hS _ (List.mem_map_of_mem hx))]
     exact q x hx
    ·intro q x hx
     rw [hA x.k (hS _ (List.mem_map_of_mem hx))]
     exact q x hx
   cases hall:(nodupK h0&&h0.all fun x=>(h.get x.k).isNone) with
   | true=>
    rw [hall] at h1
    simp only [if_true,Option.some.injEq,Prod.mk.injEq] at h1
    obtain ⟨rfl,rfl,rfl⟩:=h1
    rw [key _ (fun _ h=>h) ha,hall]
    simp
   | false=>
    rw [hall] at h1
    simp only [Bool.false_eq_true,if_false] at h1
    split at h1
    case h_2=>cases h1
    rename_i r' rd' pa' ht
    simp only [Option.some.injEq,Prod.mk.injEq] at h1
    obtain ⟨rfl,rfl,rfl⟩:=h1
    rw [key _ (fun k hk=>List.mem_append_left _ hk) ha,hall,tryE_agree ht (fun q hq=>ha q (List.mem_append_right _ hq))]
    simp
theorem callE0_agree {call:Caller} {kb s f:Nat} {h h2:Hp} {vs:List AV} {v:AV} {rd:List Nat} {pa:List Ent} (h1:callE0 call kb s h f vs=some (v,.pat rd pa)) (ha:Agree h h2 rd):callE0 call kb s h2 f vs=some (v,.pat rd pa):=by
 unfold callE0 at h1 ⊢
 split at h1
 case isFalse=>cases h1
 rename_i ht
 rw [if_pos ht]
 split at h1
 case h_2=>cases h1
 rename_i r rd' pa' hq
 simp only [Option.some.injEq,Prod.mk.injEq,Eff.pat.injEq] at h1
 obtain ⟨rfl,rfl,rfl⟩:=h1
 rw [tryE_agree hq ha]
theorem callR0_pat {call:Caller} {kb s f:Nat} {h:Hp} {vs:List AV} (v:AV) (rd:List Nat) (pa:List Ent):¬ callR0 call kb s h f vs=some (v,.pat rd pa):=by
 intro h1
 unfold callR0 at h1
 split at h1
 ·dsimp only at h1
  split at h1<;>cases h1
 ·cases h1
theorem opR_agree {P:Program} {num:Nat→Nat} {o:Oper} {l:List Operand} {call:Caller} {kb:Nat} {r:R} (hf:fitK P num o r.k=some l) {h h2:Hp} {vs:List AV} {v:AV} {rd:List Nat} {pa:List Ent}
  (h1:opR call kb r h vs=some (v,.pat rd pa)) (ha:Agree h h2 rd):opR call kb r h2 vs=some (v,.pat rd pa):=by
 unfold opR at h1 ⊢
 split at h1
 ·exact callA_agree h1 ha
 ·exact callE0_agree h1 ha
 ·exact absurd h1 (callR0_pat _ _ _)
 ·split at h1
  case h_2=>cases h1
  exact callA_agree h1 ha
 ·rw [op1F_eq] at h1 ⊢
  exact op1_agree hf h1 ha
end Go.Tev
end
