import Derived.Test.YtmcadllokkmeiaaGreatDoorSAS
set_option linter.all false
section
namespace Go.Tev
theorem wru{n:Nat}(h:n<=big):wr .u64 (n:Int)=n:=by
 simp only[big]at h
 simp only[wr]
 rw[if_pos ⟨by omega,by omega⟩]
theorem MW{n:Nat}(h:n<=big):bits IntKind.u64 (fun x1 x2=>x1 &&& x2) (n:Int) 4294967295 = .int .u64 n:=by
 simp only[big]at h
 have e2:(BitVec.ofInt 64 (n:Int) &&& BitVec.ofInt 64 4294967295).toNat=n:=by
  rw[BitVec.toNat_and]
  have e3:(BitVec.ofInt 64 4294967295).toNat=2 ^ 32-1:=by decide
  have e4:(BitVec.ofInt 64 (n:Int)).toNat=n:=by
   rw[BitVec.toNat_ofInt];omega
  rw[e3,e4,Nat.and_two_pow_sub_one_eq_mod];omega
 show AV.int .u64 (IntKind.u64.wrap ((BitVec.ofInt 64 (n:Int) &&& BitVec.ofInt 64 4294967295).toNat:Int))=_
 rw[e2]
 have:=wru (n:=n) (by simp only[big];omega)
 congr 1
 simp only[IntKind.wrap,IntKind.signed,IntKind.bits,Bool.false_and,Bool.false_eq_true,if_false]
 omega
theorem x8{a b:Int}(h:bits IntKind.u64 (fun x1 x2=>x1 &&& x2) a 4294967295 = .int .u64 b):HE .and [.int .u64 a,.int .u64 4294967295]=some (.int .u64 b,.pat [] []):=by
 rw[<-h];rfl
def fl2(n:Nat)(x y:AV):List AV:=(List.replicate n [x,y]).flatten
theorem tC(n:Nat)(x y:AV):(fl2 n x y).length=n*2:=by
 induction n with
 |zero=>rfl
 |succ n ih=>simp only[fl2,List.replicate_succ,List.flatten_cons,List.length_append,List.length_cons,List.length_nil]at *;omega
theorem tD(m n:Nat)(x y:AV):fl2 (m+n) x y=fl2 m x y++fl2 n x y:=by
 simp only[fl2]
 rw[<-List.replicate_append_replicate,List.flatten_append]
theorem xX{m n:Nat}(h:m<=n)(x y:AV)(tl:List AV):(fl2 n x y++tl).take (m*2)=fl2 m x y:=by
 obtain⟨k,rfl⟩:∃k,n=m+k:=⟨n-m,by omega⟩
 rw[tD,List.append_assoc,List.take_append_of_le_length (by rw[tC];exact Nat.le_refl _),List.take_of_length_le (by rw[tC];exact Nat.le_refl _)]
theorem DN{m n:Nat}(h:m<=n)(x y:AV)(tl:List AV):(fl2 n x y++tl).drop (m*2)=fl2 (n-m) x y++tl:=by
 obtain⟨k,rfl⟩:∃k,n=m+k:=⟨n-m,by omega⟩
 rw[tD,List.append_assoc,List.drop_left' (tC m x y),Nat.add_sub_cancel_left]
theorem OJ(l:List AV)(n:Nat)(a b:Int)(h:∀v∈l,v = .agg [.int .i64 a,.int .i64 b])(hn:l.length=n):bB 2 true l=some (fl2 n (.int .i64 a) (.int .i64 b)):=by
 subst hn
 induction l with
 |nil=>rfl
 |cons v r ih=>
  have hv:=h v (by simp)
  subst hv
  have ih':=ih (fun w hw=>h w (List.mem_cons_of_mem _ hw))
  simp only[List.length_cons]
  rw[show r.length+1=1+r.length from by omega,tD]
  simp[bB,ih',AV.fits,fl2,AV.cells]
  rfl
theorem OM{h:Hp}{k e esz:Nat}{ag ti:Bool}{cs es:List AV}(hg:h.get k=some (e,.blk cs esz ag ti false))(hu:bB esz ag es=some cs)(he:∀x∈es,El esz ag x) :
  Tev.conv h (.rf k e 0 es.length es.length)=some (.os es esz ag):=by
 obtain⟨cs',h1,h2,h3,h4⟩:=cK he
 rw[hu]at h1
 cases h1
 have h5:=h4 []
 rw[List.append_nil]at h5
 simp[Tev.conv,hg,h5,CN he]
def rep(x y:AV)(V n:Nat):List AV:=fl2 n x y++fl2 (V-n) (.int .i64 0) (.int .i64 0)
theorem BM(x y:AV){V n:Nat}(h:n<=V):(rep x y V n).length=V*2:=by simp only[rep,List.length_append,tC];omega
theorem J7(x y:AV){V n m:Nat}(h:n<=V)(hm2:m<=V-n):dK (rep x y V n) (n*2) (fl2 m x y)=rep x y V (n+m):=by
 simp only[dK,rep]
 rw[xX (Nat.le_refl n),tC,<-Nat.add_mul]
 rw[Nat.add_mul,<-List.drop_drop,DN (Nat.le_refl n),Nat.sub_self]
 have:fl2 (V-n) (.int .i64 0) (.int .i64 0)=fl2 (V-n) (.int .i64 0) (.int .i64 0)++[]:=by simp
 rw[show fl2 0 x y=[] from rfl,List.nil_append,this,DN hm2,tD,List.append_nil]
 congr 2
 omega
theorem HH{h:Hp}{x y src:AV}{V n j cap off:Nat}{rd:List Nat}(hn:n<=V)(hg:h.get 5=some (0,.blk (rep x y V n) 2 true true false))(hs:aP h 2 true src=some (fl2 j x y,j,rd))(ho:V-n=0/\off<=V*2\/off=n*2) :
  DR h 2 true [.rf 5 0 off (V-n) cap,src]=some (.int .i64 (min j (V-n):Nat),.pat (5::rd) [⟨5,0,.blk (rep x y V (n+min j (V-n))) 2 true true false⟩]):=by
 have hl:=BM x y hn
 simp only[DR,hg,hs]
 rw[if_pos ⟨trivial,by omega⟩]
 have ht:(fl2 j x y).take (min j (V-n)*2)=fl2 (min j (V-n)) x y:=by
  have:=xX (Nat.min_le_left j (V-n)) x y []
  rwa [List.append_nil]at this
 rw[ht]
 rcases ho with ⟨h0,hoff⟩|rfl
 ·rw[h0,Nat.min_zero,show fl2 0 x y=[] from rfl]
  simp[dK]
 ·rw[J7 x y hn (Nat.min_le_right _ _)]
theorem FR(n:Nat)(a b:Int):bQ (fl2 n (.int .i64 a) (.int .i64 b))=true:=by
 induction n with
 |zero=>rfl
 |succ n ih=>
  rw[show n+1=1+n from by omega,tD]
  simp only[fl2]at ih
  simp[fl2,bQ,ih]
  exact⟨rfl,rfl⟩
theorem P3{h:Hp}{cs:List AV}{n j:Nat}(hg:h.get 5=some (0,.blk cs 2 true true false))(hj:j<n):gD h 2 true false false [.rf 5 0 0 n n,.int .i64 j]=some (.rf 5 0 (j*2) (n-j) (n-j),.pat [5] []):=by
 simp only[gD,gM,gW,hg,Bool.false_eq_true,if_false,if_true,Option.getD_none,Option.getD_some]
 rw[if_pos ⟨trivial,trivial,by omega,by omega,by omega,by omega,by simp,.inr (.inr trivial)⟩,if_neg (by omega)]
 simp
theorem P4{h:Hp}{cs:List AV}{n j:Nat}(hg:h.get 5=some (0,.blk cs 2 true true false))(hj:j<=n):gD h 2 false true false [.rf 5 0 0 n n,.int .i64 j]=some (.rf 5 0 0 j n,.pat [5] []):=by
 simp only[gD,gM,gW,hg,Bool.false_eq_true,if_false,if_true,Option.getD_none,Option.getD_some]
 rw[if_pos ⟨trivial,trivial,by omega,by omega,by omega,by omega,by simp,.inl trivial⟩]
 simp
section
variable{pg:Pg}
theorem c73(hf:pg.fs 73=some cf73)(n:Nat)(hn:n<=big):Ret pg 73 [.int .u64 1,.int .u64 n] (.tup [.int .u64 0,.int .u64 n]):=by
 refine Ret.ofX hf ?_
 unfold cf73
 have m0:bits IntKind.u64 (fun x1 x2=>x1 &&& x2) 0 4294967295 = .int .u64 0:=by rfl
 have m1:bits IntKind.u64 (fun x1 x2=>x1 &&& x2) 1 4294967295 = .int .u64 1:=by rfl
 have mn:bits IntKind.u64 (fun x1 x2=>x1 &&& x2) (n:Int) 4294967295 = .int .u64 n:=MW hn
 have s0:Int.fdiv 0 (2 ^ min 32 64)=0:=by decide
 have s1:Int.fdiv 1 (2 ^ min 32 64)=0:=by decide
 have sn:(n:Int).fdiv (2 ^ min 32 64)=0:=by
  simp only[big]at hn
  rw[Int.fdiv_eq_ediv_of_nonneg _ (by decide)]
  exact Int.ediv_eq_zero_of_lt (by omega) (by have:(2 ^ min 32 64:Int)=4294967296:=by decide
                                              omega)
 have wn:wr .u64 (n:Int)=n:=wru hn
 have w0:wr .u64 0=0:=by rfl
 simp only[↓x8 m0,↓x8 m1,↓x8 mn,s0,s1,sn,wn,w0,Int.one_mul,Int.zero_mul,Int.mul_zero,Int.zero_add,Int.add_zero,go_sem,seval]
theorem c47(hf:pg.fs 47=some cf47)(h73:pg.fs 73=some cf73)(n:Nat)(hn:n<=big):Ret pg 47 [.int .u64 1,.int .u64 n] (.tup [.int .u64 0,.int .u64 n]):=by
 refine Ret.ofX hf ?_
 unfold cf47
 simp only[go_sem,seval]
 refine aB (c73 h73 n hn) (by simp only[go_sem,seval]) rfl ?_
 simp only[go_sem,seval]
theorem c29(hf:pg.fs 29=some cf29)(h47:pg.fs 47=some cf47)(h73:pg.fs 73=some cf73)(nl cl:Bool)(a b:Int)(n:Nat)(hn:n<=big) :
  bL pg 29 [.sl nl [.agg [.int .i64 a,.int .i64 b]] cl,.int .i64 n] (lO 2 true (List.replicate n (.agg [.int .i64 a,.int .i64 b]))):=by
 refine bL.ofX hf ?_
 unfold cf29
 have e0:decide ((n:Int)<0)=false:=by simp
 have w1:wr .u64 1=1:=by rfl
 have wn:wr .u64 (n:Int)=n:=wru hn
 have wi:wr .i64 (n:Int)=n:=PZ (by simp only[big]at hn;omega)
 have l1:decide (0<(0:Int))=false:=by decide
 have l2:decide (9223372036854775807<(n:Int))=false:=by simp only[big]at hn;simp;omega
 have hn':((n:Int)<=1073741824)=True:=by simp only[big]at hn;simp;omega
 have hfl:(List.replicate n [AV.int IntKind.i64 0,AV.int IntKind.i64 0]).flatten=rep (.int .i64 a) (.int .i64 b) n 0:=by simp[rep,fl2]
 have hl0:(0+n*2<=(rep (.int .i64 a) (.int .i64 b) n 0).length)=True:=eq_true (by rw[BM _ _ (Nat.zero_le n)];omega)
 simp only[e0,w1,wn,wi,go_sem,seval]
 refine aB (c47 h47 h73 n hn) (by simp only[go_sem,seval]) rfl ?_
 have hc0:=HH (h:=Hp.put [] 5 0 (.blk (rep (.int .i64 a) (.int .i64 b) n 0) 2 true true false)) (x:=.int .i64 a) (y:=.int .i64 b) (src:=.sl nl [.agg [.int .i64 a,.int .i64 b]] cl) (V:=n) (n:=0) (j:=1) (cap:=n) (off:=0) (rd:=[]) (Nat.zero_le n) (by simp only[go_sem,seval])
  (by simp[aP,bB,AV.fits,fl2,AV.cells];rfl) (.inr rfl)
 rw[Nat.sub_zero,Nat.zero_add]at hc0
 simp only[wi,l2,hn',hfl,↓hc0,go_sem,seval]
 refine qX (α:=Nat) (fun j=>n-j) (fun j env hp=>env=cf29E0 (.rf 5 0 0 n n) (.int .i64 j)/\j<=n/\(0<n->0<j)/\hp.get 5=some (0,.blk (rep (.int .i64 a) (.int .i64 b) n j) 2 true true false)) (min 1 n) ?_ ?_
 ·refine⟨rfl,by omega,by omega,?_⟩
  simp only[go_sem,seval]
 ·rintro j env hp ⟨rfl,hj,hj0,hg⟩
  by_cases hjn:j<n
  ·have e1:decide ((j:Int)<(n:Int))=true:=by simp;omega
   have e2:((j:Int)<=(n:Int))=True:=eq_true (by omega)
   have hsr:aP hp 2 true (.rf 5 0 0 j n)=some (fl2 j (.int .i64 a) (.int .i64 b),j,[5]):=by
    have ht:((rep (.int .i64 a) (.int .i64 b) n j).drop 0).take (j*2)=fl2 j (.int .i64 a) (.int .i64 b):=by
     rw[List.drop_zero,rep]
     exact xX (Nat.le_refl j) _ _ _
    simp only[aP,hg]
    rw[ht,if_pos ⟨trivial,by rw[BM _ _ hj];omega,FR _ _ _⟩]
   have hc:=HH (cap:=n-j) hj hg hsr (.inr rfl)
   have hw:wr .i64 ((j:Int)+(min j (n-j):Nat))=((j+min j (n-j):Nat):Int):=by
    simp only[big]at hn
    rw[aR (by omega) (by omega)];omega
   simp only[cf29L0,cf29E0,e1,e2,↓P3 hg hjn,↓P4 hg hj,↓hc,hw,go_sem,seval]
   refine And.intro (by kernel_rfl) ?_
   refine⟨j+min j (n-j),by omega,?_,by omega,by omega,?_⟩
   ·rfl
   ·simp only[go_sem,seval]
  ·obtain rfl:j=n:=by omega
   have e1:decide ((j:Int)<(j:Int))=false:=by simp
   simp only[cf29L0,cf29E0,e1,hg,go_sem,seval]
   have hu:=OJ (List.replicate j (.agg [.int .i64 a,.int .i64 b])) j a b (fun v hv=>(List.mem_replicate.1 hv).2) (by simp)
   have hcv:=OM (es:=List.replicate j (.agg [.int .i64 a,.int .i64 b])) hg (by rw[hu,rep,Nat.sub_self];simp[fl2]) (fun v hv=>by rw[(List.mem_replicate.1 hv).2];exact⟨rfl,rfl,rfl⟩)
   rw[List.length_replicate]at hcv
   exact⟨_,hcv,.inr rfl⟩
end
end Go.Tev
end
section
namespace Go.Tev
def x6(l:Lin):Bool:=(l.ts.es.all fun c => !decide (35<(c.v.bs.length:Int)))&&decide ((l.ts.es.length:Int)<=14)
def AN(s:bF):Bool:=(s.dims.es.all x6)&&(decide ((s.dims.es.length:Int)<=8)&&decide ((s.row.bs.length:Int)<=35))
def vS(l:List aI):Bool:=(l.all fun s => !(decide (4<(s.args.es.length:Int))||decide (20<(s.op.bs.length:Int))))&&decide ((l.length:Int)<=10)
def tE(t:Typ):Bool:=decide ((t.elem.bs.length:Int)<=35)&&AN t.shape
def AB(k:aA)(l:List aE)(vs:List Typ):List AV:=
 [.sl k.vars.nl (k.vars.es.map Str.av) k.vars.cl,.sl k.wher.nl (k.wher.es.map Lin.av) k.wher.cl,.int .i64 k.inputs,.sl k.values.nl (vs.map Typ.av) k.values.cl,.sl k.list.nl (l.map aE.av) k.list.cl,.sl k.results.nl (k.results.es.map aH) k.results.cl]
def pV(p:aC)(l:List aC):List AV:=
 [.str p.op.bs,.int .i64 p.num,.int .i64 p.value,.str p.name.bs,.sl p.at_.nl (p.at_.es.map Lin.av) p.at_.cl,.bool p.dyn,.int .i64 p.check,.sl p.fn.nl (p.fn.es.map aI.av) p.fn.cl,.sl p.knl (l.map aC.av) p.kcl]
mutual
def rF:aC->Bool
 |.mk op _ _ name at_ _ _ fn _ kids _=>x7 kids&&(AN ⟨⟨[],by decide⟩,at_⟩&&vS fn.es&&decide ((name.bs.length:Int)<=35)&&decide ((op.bs.length:Int)<=20))
def x7:List aC->Bool
 |[]=>true
 |p::r=>rF p&&x7 r
end
theorem AO:∀l,x7 l=l.all rF
 |[]=>by simp[x7]
 |p::r=>by simp[x7,AO r]
theorem DP(p:aC):rF p=(p.kids.all rF&&(AN ⟨⟨[],by decide⟩,p.at_⟩&&vS p.fn.es&&decide ((p.name.bs.length:Int)<=35)&&decide ((p.op.bs.length:Int)<=20))):=by
 cases p;rw[rF,AO];rfl
def vT(p:aC):Bool:=decide (oQ p<=60)&&rF p
def AM(q:aE):Bool:=vT q.body&&vT q.index && !decide (8<(q.space.es.length:Int))&&vS q.fn.es
def x5(k:aA):Bool:=k.list.es.all AM&&(k.values.es.all tE&&(decide ((k.list.es.length:Int)<=16)&&decide ((k.values.es.length:Int)<=20)&&decide ((k.vars.es.length:Int)<=13)&&decide ((k.wher.es.length:Int)<=12)&&decide ((k.results.es.length:Int)<=10)))
section
variable{pg:Pg}
theorem c56(hf:pg.fs 56=some cf56)(l:Lin):Ret pg 56 [l.av] (.bool (x6 l)):=by
 have hb:=l.ts.ok
 refine Ret.ofX hf ?_
 unfold cf56
 simp only[go_sem,seval]
 refine cZ l.ts.es (fun d e=>dS e (some 3) (.int .i64 d.length)) (fun d r hp=>hp.get 1=some (0,.blk [.int .i64 l.c,.sl l.ts.nl (l.ts.es.map bR.av) l.ts.cl] 2 true true false)/\(l.ts.es.all fun c => !decide (35<(c.v.bs.length:Int)))=(r.all fun c => !decide (35<(c.v.bs.length:Int)))) rfl ?_ ?_ ?_
 ·simp only[go_sem,seval]
 ·rintro hp ⟨h1,hI⟩
  simp only[cf56L0,cf56M0,h1,go_sem,seval]
  simp[x6,hI]
 ·rintro d x r hp hes ⟨h1,hI⟩
  rw[hes]at hb hI h1
  have h0:=h1
  rw[hes]
  simp only[cf56L0,cf56M0,h1,go_sem,seval]
  cases hd:decide (35<(x.v.bs.length:Int))
  ·simp only[aM hb,go_sem,seval]
   exact⟨h0,by simpa[hd] using hI⟩
  ·simp only[go_sem,seval]
   simp only[x6,hes,hI,List.all_cons,hd]
   rfl
theorem c42(hf:pg.fs 42=some cf42)(h56:pg.fs 56=some cf56)(s:bF):Ret pg 42 [s.av] (.bool (AN s)):=by
 have hb:=s.dims.ok
 refine Ret.ofX hf ?_
 unfold cf42
 simp only[go_sem,seval]
 refine cZ s.dims.es (fun d e=>dS e (some 3) (.int .i64 d.length)) (fun d r hp=>hp.get 1=some (0,.blk [.str s.row.bs,.sl s.dims.nl (s.dims.es.map Lin.av) s.dims.cl] 2 true true false)/\(s.dims.es.all x6)=(r.all x6)) rfl ?_ ?_ ?_
 ·simp only[go_sem,seval]
 ·rintro hp ⟨h1,hI⟩
  repeat' (first|simp only[cf42L0,cf42M0,h1, *,go_sem,seval]|refine aK (fun _=>?_) (fun _=>?_)|refine aL (fun _=>?_) (fun _=>?_)|refine And.intro (by kernel_rfl) ?_)
  all_goals (simp_all [AN])
  all_goals (intro h;omega)
 ·rintro d x r hp hes ⟨h1,hI⟩
  have hx:=c56 h56 x
  rw[Lin.avc]at hx
  rw[hes]at hb hI h1
  have h0:=h1
  rw[hes]
  simp only[cf42L0,cf42M0,h1,go_sem,seval]
  refine aB (hx) (by simp only[go_sem,seval]) rfl ?_
  cases hd:x6 x
  ·simp only[go_sem,seval]
   simp only[AN,hes,hI,List.all_cons,hd]
   rfl
  ·simp only[aM hb,go_sem,seval]
   exact⟨h0,by simpa[hd] using hI⟩
theorem c26(hf:pg.fs 26=some cf26)(nl cl:Bool)(l:List aI)(hb:l.length<=big):Ret pg 26 [.sl nl (l.map aI.av) cl] (.bool (vS l)):=by
 refine Ret.ofX hf ?_
 unfold cf26
 simp only[go_sem,seval]
 refine cZ l (fun d e=>dS e (some 3) (.int .i64 d.length)) (fun d r hp=>(l.all fun s => !(decide (4<(s.args.es.length:Int))||decide (20<(s.op.bs.length:Int))))=(r.all fun s => !(decide (4<(s.args.es.length:Int))||decide (20<(s.op.bs.length:Int))))) rfl ?_ ?_ ?_
 ·rfl
 ·rintro hp hI
  repeat' (first|simp only[cf26L0,cf26M0, *,go_sem,seval]|refine aK (fun _=>?_) (fun _=>?_)|refine aL (fun _=>?_) (fun _=>?_)|refine And.intro (by kernel_rfl) ?_)
  all_goals (simp_all [vS])
 ·rintro d x r hp hes hI
  rw[hes]at hb hI
  rw[hes]
  simp only[cf26L0,cf26M0,go_sem,seval]
  cases hd:decide (4<(x.args.es.length:Int))
  ·simp only[go_sem,seval]
   cases hd2:decide (20<(x.op.bs.length:Int))
   ·simp only[aM hb,go_sem,seval]
    simpa[hd,hd2] using hI
   ·simp only[go_sem,seval]
    simp only[vS,hes,hI,List.all_cons,hd,hd2]
    rfl
  ·simp only[go_sem,seval]
   simp only[vS,hes,hI,List.all_cons,hd]
   rfl
theorem c27(hf:pg.fs 27=some cf27)(h42:pg.fs 42=some cf42)(h56:pg.fs 56=some cf56)(t:Typ):Ret pg 27 [t.av] (.bool (tE t)):=by
 have hx:=c42 h42 h56 t.shape
 rw[bF.avc]at hx
 refine Ret.ofX hf ?_
 unfold cf27
 repeat' (first|simp only[*,go_sem,seval]|refine aK (fun _=>?_) (fun _=>?_)|refine aL (fun _=>?_) (fun _=>?_)|(refine aB hx (by simp only[go_sem,seval]) rfl ?_)|refine And.intro (by kernel_rfl) ?_)
 all_goals (simp_all [tE])
 all_goals (intro h;omega)
theorem c40(hf:pg.fs 40=some cf40):∀p:aC,p.ok->Ret pg 40 [p.av] (.int .i64 (oQ p)):=by
 refine aC.ind' fun p ih hp=>?_
 obtain⟨hb,hk⟩:=(aC.ok_iff p).1 hp
 refine Ret.ofX hf ?_
 unfold cf40
 simp only[go_sem,seval]
 refine cZ p.kids (fun d e=>dS (dS e (some 4) (.int .i64 d.length)) (some 3) (.int .i64 (mE 1 d))) (fun d r hp=>hp.get 1=some (0,.blk p.cells 9 true true false)) (by simp only[mE];rfl) ?_ ?_ ?_
 ·simp only[go_sem,seval]
  rfl
 ·rintro hp h1
  simp only[aC.cells,Sl.av,aC.kav]at h1
  simp only[cf40L0,cf40M0,h1,go_sem,seval]
  exact(zZ p).symm
 ·rintro d x r hp hes h1
  have h0:=h1
  simp only[aC.cells,Sl.av,aC.kav]at h1
  have hx:=ih x (by rw[hes];simp) (hk x (by rw[hes];simp))
  rw[hes]at hb h1
  rw[hes]
  have h2:hp.get 1=some (0,.blk [.str p.op.bs,.int .i64 p.num,.int .i64 p.value,.str p.name.bs,.sl p.at_.nl (p.at_.es.map Lin.av) p.at_.cl,.bool p.dyn,.int .i64 p.check,.sl p.fn.nl (p.fn.es.map aI.av) p.fn.cl,.sl p.knl ((d++x::r).map aC.av) p.kcl] 9 true true false):=h1
  simp only[cf40L0,cf40M0,h2,go_sem,seval]
  refine aB (hx) (by simp only[go_sem,seval]) rfl ?_
  simp only[aM hb,pY,go_sem,seval]
  exact h0
theorem c41(hf:pg.fs 41=some cf41)(h42:pg.fs 42=some cf42)(h56:pg.fs 56=some cf56)(h26:pg.fs 26=some cf26):∀p:aC,p.ok->Ret pg 41 [p.av] (.bool (rF p)):=by
 refine aC.ind' fun p ih hp=>?_
 obtain⟨hb,hk⟩:=(aC.ok_iff p).1 hp
 have a1:=c42 h42 h56 ⟨⟨[],by decide⟩,p.at_⟩
 have a2:=c26 h26 p.fn.nl p.fn.cl p.fn.es p.fn.ok
 rw[bF.avc]at a1
 refine Ret.ofX hf ?_
 unfold cf41
 simp only[go_sem,seval]
 refine cZ p.kids (fun d e=>dS e (some 3) (.int .i64 d.length)) (fun d r hp=>hp.get 1=some (0,.blk (pV p p.kids) 9 true true false)/\p.kids.all rF=r.all rF) rfl ?_ ?_ ?_
 ·exact⟨by simp only[go_sem,seval];rfl,rfl⟩
 ·rintro hp ⟨h1,hI⟩
  simp only[pV]at h1
  repeat' (first|simp only[cf41L0,cf41M0, *,go_sem,seval]|refine aK (fun _=>?_) (fun _=>?_)|refine aL (fun _=>?_) (fun _=>?_)|(refine aB a1 (by simp only[go_sem,seval]) rfl ?_)|(refine aB a2 (by simp only[go_sem,seval]) rfl ?_)|refine And.intro (by kernel_rfl) ?_)
  all_goals (clear h1 a1 a2 hf h42 h56 h26 ih)
  all_goals (rw[DP,hI])
  all_goals (simp_all)
  all_goals (try (intros;omega))
 ·rintro d x r hp hes ⟨h1,hI⟩
  have hx:=ih x (by rw[hes];simp) (hk x (by rw[hes];simp))
  have hI2:=hI
  rw[hes]at hb hI h1
  have h0:=h1
  simp only[pV]at h1
  rw[hes]
  have hx':=hx
  rw[aC.avc]at hx'
  simp only[cf41L0,cf41M0,h1,go_sem,seval]
  first|refine aB hx (by simp only[go_sem,seval]) rfl ?_|refine aB hx' (by simp only[go_sem,seval]) rfl ?_
  cases hd:rF x
  ·simp only[go_sem,seval]
   rw[DP,hI2,List.all_cons,hd]
   rfl
  ·simp only[aM hb,go_sem,seval]
   exact⟨h0,by rw[hI,List.all_cons,hd];rfl⟩
theorem c25(hf:pg.fs 25=some cf25)(h40:pg.fs 40=some cf40)(h41:pg.fs 41=some cf41)(h42:pg.fs 42=some cf42)(h56:pg.fs 56=some cf56)(h26:pg.fs 26=some cf26)(p:aC)(hp:p.ok):Ret pg 25 [p.av] (.bool (vT p)):=by
 have a1:=c40 h40 p hp
 have a2:=c41 h41 h42 h56 h26 p hp
 rw[aC.avc]at a1 a2
 refine Ret.ofX hf ?_
 unfold cf25
 repeat' (first|simp only[*,go_sem,seval]|refine aK (fun _=>?_) (fun _=>?_)|refine aL (fun _=>?_) (fun _=>?_)|(refine aB a1 (by simp only[go_sem,seval]) rfl ?_)|(refine aB a2 (by simp only[go_sem,seval]) rfl ?_)|refine And.intro (by kernel_rfl) ?_)
 all_goals (simp_all [vT])
 all_goals (try (intros;omega))
theorem c8(hf:pg.fs 8=some cf8)(h25:∀p:aC,p.ok->Ret pg 25 [p.av] (.bool (vT p)))(h26:pg.fs 26=some cf26)(h27:∀t:Typ,Ret pg 27 [t.av] (.bool (tE t)))(k:aA)(hk:∀q∈k.list.es,q.body.ok/\q.index.ok):Ret pg 8 [k.av] (.bool (x5 k)):=by
 have hb:=k.list.ok
 have hv:=k.values.ok
 refine Ret.ofX hf ?_
 unfold cf8
 simp only[aA.av,go_sem,seval]
 refine cZ k.list.es (fun d e=>dS e (some 3) (.int .i64 d.length)) (fun d r hp=>hp.get 1=some (0,.blk (AB k k.list.es k.values.es) 6 true true false)/\k.list.es.all AM=r.all AM) rfl ?_ ?_ ?_
 ·exact⟨by simp only[go_sem,seval];rfl,rfl⟩
 ·rintro hp ⟨h1,hI⟩
  have h0:=h1
  simp only[AB]at h1
  simp only[cf8L0,cf8M0,h1,go_sem,seval]
  refine cZ k.values.es (fun d e=>dS e (some 4) (.int .i64 d.length)) (fun d r hp=>hp.get 1=some (0,.blk (AB k k.list.es k.values.es) 6 true true false)/\k.values.es.all tE=r.all tE) rfl ?_ ?_ ?_
  ·exact⟨h0,rfl⟩
  ·rintro hp ⟨h1,hI2⟩
   simp only[AB]at h1
   repeat' (first|simp only[cf8L1,cf8M1,h1, *,go_sem,seval]|refine aK (fun _=>?_) (fun _=>?_)|refine aL (fun _=>?_) (fun _=>?_)|refine And.intro (by kernel_rfl) ?_)
   all_goals (clear h1 h25 h26 h27 hb hv hf)
   all_goals (rw[x5,hI,hI2])
   all_goals (simp_all)
   all_goals (try (intros;omega))
  ·rintro d x r hp hes ⟨h1,hI2⟩
   have hx:=h27 x
   rw[Typ.avc]at hx
   have hI3:=hI2
   rw[hes]at hv hI2 h1
   have h0:=h1
   simp only[AB]at h1
   rw[hes]
   simp only[cf8L1,cf8M1,h1,go_sem,seval]
   refine aB (hx) (by simp only[go_sem,seval]) rfl ?_
   cases hd:tE x
   ·simp only[go_sem,seval]
    rw[x5,hI,hI3,List.all_cons,hd]
    simp
   ·simp only[aM hv,go_sem,seval]
    exact⟨h0,by rw[hI2,List.all_cons,hd];rfl⟩
 ·rintro d x r hp hes ⟨h1,hI⟩
  obtain⟨x1,x2⟩:=hk x (by rw[hes];simp)
  have a1:=h25 x.body x1
  have a2:=h25 x.index x2
  have a3:=c26 h26 x.fn.nl x.fn.cl x.fn.es x.fn.ok
  rw[aC.avc]at a1 a2
  have hI3:=hI
  rw[hes]at hb hI h1
  have h0:=h1
  simp only[AB]at h1
  have hf8:x5 k=(AM x&&(r.all AM&&(k.values.es.all tE&&(decide ((k.list.es.length:Int)<=16)&&decide ((k.values.es.length:Int)<=20)&&decide ((k.vars.es.length:Int)<=13)&&decide ((k.wher.es.length:Int)<=12)&&decide ((k.results.es.length:Int)<=10))))):=by
   rw[x5,hI3,List.all_cons,Bool.and_assoc]
  rw[hes]
  have hw:=aM hb
  rw[List.all_cons]at hI
  have hq:AM x=(vT x.body&&vT x.index && !decide (8<(x.space.es.length:Int))&&vS x.fn.es):=rfl
  rw[hq]at hf8 hI
  clear hq hI3 hes
  clear h25 h27 hk
  repeat' (first|simp only[cf8L0,cf8M0,hw, *,go_sem,seval]|refine aK (fun _=>?_) (fun _=>?_)|refine aL (fun _=>?_) (fun _=>?_)|(refine aB a1 (by simp only[go_sem,seval]) rfl ?_)|(refine aB a2 (by simp only[go_sem,seval]) rfl ?_)|(refine aB a3 (by simp only[go_sem,seval]) rfl ?_)|refine And.intro (by kernel_rfl) ?_)
  all_goals (first|(simp_all;done)|skip)
end
end Go.Tev
end
section
namespace Go.Tev
def cP(q:aE):List Int:=bK q.body++if decide (q.kind=3) then bK q.index++[q.source] else []
theorem jO(p:aC):(bK p).length<=p.sz:=by
 have e1:=oH (jA (dA p))
 have e2:=kR (dA p)
 have e3:=oO p
 simp only[bK]
 omega
section
variable{pg:Pg}{kb:Nat}
theorem CA{esz bytes s k1:Nat}{ag:Bool}{h:Hp}{v:AV}{es xs:List AV}{nl cl:Bool}{Q:AV->Eff->Prop}{t:Tok Q}(o:Own h k1 esz ag v es)(hk1:k1≠kb+s)(he:∀x∈es,El esz ag x)(hx:∀x∈xs,El esz ag x)
  (hl:es.length+xs.length<=1073741824) (hb:bytes<=65536)
  (q1:xs=[]->∀rd,(rd=[]\/rd=[k1])->Q v (.pat rd []))
  (q2:xs≠[]->∀v' rd pa,Own (Eff.app h (.pat rd pa)) (kb+s) esz ag v' (es++xs)->(∀k,k≠kb+s->k≠k1->(Eff.app h (.pat rd pa)).get k=h.get k) ->
   ((∃e ob,rd=[kb+s]/\pa=[⟨kb+s,e,ob⟩])\/(∃e1 o1 e ob,rd=[kb+s,k1]/\pa=[⟨k1,e1,o1⟩,⟨kb+s,e,ob⟩]))->Q v' (.pat rd pa)) :
  XO pg kb (.app esz ag bytes) s h [v,.sl nl xs cl] Q t:=by
 rw[gF]
 obtain⟨ds,d1,d2,d3,_⟩:=cK hx
 simp only[lU,aP,d1,Option.map_some]
 by_cases hxs:xs=[]
 ·subst hxs
  cases d1
  rcases o with ⟨rfl,nl',cl',rfl,hc⟩|⟨e,cs,rfl,hg,hu⟩
  ·simp only[kJ,List.length_nil,if_true]
   exact q1 rfl _ (.inl rfl)
  ·obtain⟨cs',c1,c2,_,_⟩:=cK he
   rw[hu]at c1;cases c1
   simp only[kJ,hg,List.length_nil,if_true,true_and,Nat.zero_add]
   rw[if_pos (by omega)]
   exact q1 rfl _ (.inr rfl)
 ·have hn:xs.length≠0:=by simpa using hxs
  rcases o with ⟨rfl,nl',cl',rfl,hc⟩|⟨e,cs,rfl,hg,hu⟩
  ·simp only[kJ,hn,if_false,hc,List.length_nil,Nat.zero_add,Bool.true_and]
   have hlx:xs.length<=1073741824:=by simpa using hl
   simp only[hlx,hb,decide_true,Bool.and_self,if_true,bB,List.nil_append]
   refine q2 hxs _ _ _ (.inr ⟨_,ds,rfl,?_,by simpa using d1⟩) ?_ (.inl ⟨_,_,rfl,rfl⟩)
   ·rw[kI,aD,if_pos rfl]
   ·intro k hk _
    rw[kI,aD,if_neg (Ne.symm hk)]
  ·obtain⟨cs',c1,c2,_,_⟩:=cK he
   rw[hu]at c1;cases c1
   have h1:¬(es.length+xs.length<=es.length):=by omega
   have h2:(k1==kb+s)=false:=by simpa using hk1
   simp only[kJ,hg,hn,if_false,true_and,Nat.zero_add]
   rw[if_pos (by omega)]
   simp only[h1,if_false,hl,hb,decide_true,Bool.true_and,h2,Bool.not_false,if_true,Bool.false_eq_true]
   refine q2 hxs _ _ _ (.inr ⟨h.next (kb+s),cs++ds,by simp,?_,hY hu d1⟩) ?_ (.inr ⟨_,_,_,_,rfl,rfl⟩)
   ·rw[tK,aD,if_pos rfl]
    simp[<-c2]
   ·intro k hk hk2
    rw[tK,aD,if_neg (Ne.symm hk),aD,if_neg (Ne.symm hk2)]
end
section
variable{pg:Pg}
theorem c30(S:HR pg)(hf:pg.fs 30=some cf30)(h48:pg.fs 48=some cf48)(h74:pg.fs 74=some cf74)(q:aE)(h1:q.body.ok)(h2:q.index.ok)(hsz:q.body.sz+q.index.sz+1<=big) :
  bL pg 30 [q.av] (lO 1 false ((cP q).map aH)):=by
 have a1:=c48 S h48 h74 q.body h1 (by omega)
 have a2:=c48 S h48 h74 q.index h2 (by omega)
 rw[aC.avc]at a1 a2
 have l1:=jO q.body
 have l2:=jO q.index
 simp only[big]at hsz
 refine bL.ofX hf ?_
 unfold cf30
 simp only[go_sem,seval]
 refine u4 a1 (by simp only[go_sem,seval]) (El.ints _) ?_
 intro v rd pa ho hk _
 have k1:=hk 1 (by omega)
 simp only[go_sem,seval]at k1
 simp only[k1,go_sem,seval]
 cases h3:decide (q.kind=3)
 ·simp only[go_sem,seval]
  have hr:cP q=bK q.body:=by simp[cP,h3]
  rw[hr]
  exact ho.conv (El.ints _)
 ·simp only[k1,go_sem,seval]
  refine j3 a2 (by simp only[go_sem,seval]) ?_
  intro nl2 cl2 _
  simp only[go_sem,seval]
  have hr:cP q=bK q.body++(bK q.index++[q.source]):=by simp[cP,h3]
  rw[hr]
  have fin:∀(v2:AV)(kk:Nat)(H:Hp)(es:List Int),Own H kk 1 false v2 (es.map aH)->es=bK q.body++(bK q.index++[q.source])->∃r,Tev.conv H v2=some r/\lO 1 false ((bK q.body++(bK q.index++[q.source])).map aH) r:=by
   rintro v2 kk H es o rfl
   exact o.conv (El.ints _)
  generalize hH:Eff.app _ (Eff.pat rd pa)=H at ho k1 ⊢
  clear hH hk hr a1 a2
  refine CA (kb:=0) (s:=13) (k1:=5) ho (by omega) (El.ints _) (El.ints _) (by simp only[List.length_map];omega) (by decide) ?_ ?_
  ·intro hx rd1 hrd1
   have hx':bK q.index=[]:=by simpa using hx
   have k2:=k1
   simp only[k1,go_sem,seval]
   refine CA (kb:=0) (s:=17) (k1:=5) ho (by omega) (El.ints _) (xs:=[.int .i64 q.source]) (by intro y hy;simp at hy;subst hy;exact⟨rfl,rfl,rfl⟩) (by simp only[List.length_map,List.length_singleton];omega) (by decide) (by intro h;cases h) ?_
   intro _ v2 rd2 pa2 ho2 hk2 hform
   have ho3:=fin _ 17 _ (bK q.body++[q.source]) (by simpa[wK] using ho2) (by rw[hx'];simp)
   clear ho2 hk2 k2 k1 ho
   rcases hrd1 with rfl|rfl<;>rcases hform with ⟨e,ob,rfl,rfl⟩|⟨e1,o1,e,ob,rfl,rfl⟩
   all_goals (simp only[go_sem,seval])
   all_goals (refine And.intro (by kernel_rfl) ?_)
   all_goals (exact ho3)
  ·intro hx v1 rd1 pa1 ho1 hk1 hform1
   have k2:=hk1 1 (by omega) (by omega)
   rw[k1]at k2
   simp only[k2,go_sem,seval]
   refine CA (kb:=0) (s:=17) (k1:=13) ho1 (by omega) (by rw[<-List.map_append];exact El.ints _) (xs:=[.int .i64 q.source]) (by intro y hy;simp at hy;subst hy;exact⟨rfl,rfl,rfl⟩) (by simp only[List.length_map,List.length_append,List.length_singleton];omega) (by decide) (by intro h;cases h) ?_
   intro _ v2 rd2 pa2 ho2 hk2 hform
   have ho3:=fin _ 17 _ (bK q.body++bK q.index++[q.source]) (by simpa[wK] using ho2) (by simp)
   clear ho2 hk2 ho1 hk1 k2 k1
   rcases hform1 with ⟨e',ob',rfl,rfl⟩|⟨e1',o1',e',ob',rfl,rfl⟩<;>rcases hform with ⟨e,ob,rfl,rfl⟩|⟨e1,o1,e,ob,rfl,rfl⟩
   all_goals (simp only[go_sem,seval])
   all_goals (refine And.intro (by kernel_rfl) ?_)
   all_goals (exact ho3)
end
end Go.Tev
end
section
namespace Go.Tev
abbrev Sp:=Int×Int
def bS(s:Sp):AV:=.agg [.int .i64 s.1,.int .i64 s.2]
def bH:List Sp->List AV
 |[]=>[]
 |s::r => .int .i64 s.1 :: .int .i64 s.2::bH r
theorem iB:∀l,(bH l).length=l.length*2
 |[]=>rfl
 |s::r=>by simp only[bH,List.length_cons,iB r];omega
theorem rM:∀l,bB 2 true (l.map bS)=some (bH l)
 |[]=>rfl
 |s::r=>by
  simp[bS,bB,rM r,AV.fits,bH,AV.cells]
  rfl
theorem sM(l:List Sp):∀x∈l.map bS,El 2 true x:=by
 intro x hx
 obtain⟨b,_,rfl⟩:=List.mem_map.1 hx
 exact⟨rfl,rfl,rfl⟩
theorem zJ:∀(l:List Sp)(v:Nat)(s:Sp),l[v]?=some s->(bH l)[v*2]?=some (.int .i64 s.1)/\(bH l)[v*2+1]?=some (.int .i64 s.2)
 |[],v,s,h=>by simp at h
 |t::r,0,s,h=>by simp at h;subst h;exact⟨rfl,rfl⟩
 |t::r,v+1,s,h=>by
  have:=zJ r v s (by simpa using h)
  rw[show (v+1)*2=v*2+1+1 from by omega]
  simpa[bH] using this
theorem vB:∀(l:List Sp)(v:Nat)(a b:Int),((bH l).set (v*2) (.int .i64 a)).set (v*2+1) (.int .i64 b)=bH (l.set v (a,b))
 |[],v,a,b=>by simp[bH]
 |t::r,0,a,b=>rfl
 |t::r,v+1,a,b=>by
  rw[show (v+1)*2=v*2+1+1 from by omega]
  simp only[bH,List.set_cons_succ]
  rw[vB r v a b]
theorem vC:∀(l:List Sp)(v:Nat)(a:Int),(bH l).set (v*2) (.int .i64 a)=bH (l.modify v (fun s=>(a,s.2)))
 |[],v,a=>by simp[bH]
 |t::r,0,a=>rfl
 |t::r,v+1,a=>by
  rw[show (v+1)*2=v*2+1+1 from by omega]
  simp only[bH,List.set_cons_succ,List.modify_succ_cons]
  rw[vC r v a]
theorem vA:∀(l:List Sp)(v:Nat)(a:Int),(bH l).set (v*2+1) (.int .i64 a)=bH (l.modify v (fun s=>(s.1,a)))
 |[],v,a=>by simp[bH]
 |t::r,0,a=>rfl
 |t::r,v+1,a=>by
  rw[show (v+1)*2=v*2+1+1 from by omega]
  simp only[bH,List.set_cons_succ,List.modify_succ_cons]
  rw[vA r v a]
theorem NN{h:Hp}{e:Nat}{sp:List Sp}(hg:h.get 9=some (e,.blk (bH sp) 2 true false false))(d:Nat):Tev.snap (d+2) h (.rf 9 e 0 sp.length sp.length)=some (.sl false (sp.map bS) false,[9]):=by
 obtain⟨cs',h1,h2,h3,h4⟩:=cK (sM sp)
 rw[rM]at h1
 cases h1
 have h5:=h4 []
 rw[List.append_nil,List.length_map]at h5
 have ht:treeL (sp.map bS)=true:=bG (f:=bS) (fun s=>by simp[bS,go_sem]) sp
 have h6:cE (Tev.snap (d+1) h) (sp.map bS)=some (sp.map bS,[]):=d6 d h ht
 rw[eI]
 simp[hg,h5,h6,AV.tree]
def iV(sp:List Sp)(v:Int)(x:Int):List Sp:=sp.modify v.toNat (fun s=>(s.1,x))
def gK(sp:List Sp)(v:Int)(x:Int):List Sp:=sp.modify v.toNat (fun s=>(x,s.2))
def i6(sp:List Sp)(v:Int):Int:=match sp[v.toNat]? with|some s=>s.1|none=>0
def cQ(V i:Nat):List Sp:=List.replicate i (-1,-1)++List.replicate (V-i) (-2,-2)
def c7(sp:List Sp)(i:Nat)(l:List Int):List Sp:=l.foldl (fun s v=>iV s v i) sp
def lP(sp:List Sp)(i:Nat)(q:aE):List Sp:=
 c7 (iV (if decide (i6 sp q.value = -2) then gK sp q.value i else sp) q.value i) i (cP q)
def gH:List Sp->Nat->List aE->List Sp
 |sp,_,[]=>sp
 |sp,i,q::r=>gH (lP sp i q) (i+1) r
def mZ(sp:List Sp)(n:Nat)(l:List Int):List Sp:=l.foldl (fun s v=>iV s v n) sp
def aF(k:aA):List Sp:=mZ (gH (cQ k.values.es.length k.inputs.toNat) 0 k.list.es) k.list.es.length k.results.es
theorem qP(sp:List Sp)(v x:Int):(iV sp v x).length=sp.length:=by simp[iV]
theorem pP(sp:List Sp)(v x:Int):(gK sp v x).length=sp.length:=by simp[gK]
theorem iA(i:Nat):∀(l:List Int)(sp:List Sp),(c7 sp i l).length=sp.length
 |[],sp=>rfl
 |v::r,sp=>by simp only[c7,List.foldl_cons];exact(iA i r _).trans (qP _ _ _)
theorem sL(sp:List Sp)(i:Nat)(d:List Int)(x:Int):c7 sp i (d++[x])=iV (c7 sp i d) x i:=by simp[c7]
theorem w7(sp:List Sp)(i:Nat)(q:aE):(lP sp i q).length=sp.length:=by
 simp only[lP,iA,qP];split<;>simp[pP]
theorem nU:∀(l:List aE)(sp:List Sp)(i:Nat),(gH sp i l).length=sp.length
 |[],sp,i=>rfl
 |q::r,sp,i=>by rw[gH,nU r,w7]
theorem rK:∀(d:List aE)(sp:List Sp)(i:Nat)(q:aE),gH sp i (d++[q])=lP (gH sp i d) (i+d.length) q
 |[],sp,i,q=>rfl
 |x::r,sp,i,q=>by
  simp only[List.cons_append,gH,rK r,List.length_cons]
  congr 1;omega
theorem kQ{V i:Nat}(h:i<=V):(cQ V i).length=V:=by simp[cQ];omega
theorem EX{V i:Nat}(h:i<V):(cQ V i).set i (-1,-1)=cQ V (i+1):=by
 obtain⟨m,rfl⟩:∃m,V=i+(m+1):=⟨V-i-1,by omega⟩
 simp only[cQ]
 rw[List.set_append_right _ _ (by simp)]
 have e1:i+(m+1)-i=m+1:=by omega
 have e2:i+(m+1)-(i+1)=m:=by omega
 rw[e1,e2,List.replicate_succ (n:=m),List.replicate_succ' (n:=i)]
 simp
theorem nC{k:aA}{th:List Bool}{p:aC}{n:Nat}{nt:Int}(h:d8 k th p n nt=true):∀a∈bK p,0<=a/\a<k.values.es.length/\aU th a=true/\a≠nt:=by
 intro a ha
 simp only[d8,gB,Bool.and_eq_true,Bool.not_eq_true']at h
 have h2:=h.2
 rw[List.any_eq_false]at h2
 have h3:=h2 a ha
 simp only[Bool.or_eq_true,Bool.not_eq_true',decide_eq_true_eq,not_or,Bool.not_eq_false]at h3
 have ha':=ha
 simp only[bK,kZ,l8]at ha'
 obtain⟨h4,h5⟩:=mU _ p _ h.1.2 a ha'
 exact⟨h4,h5,h3.1,h3.2⟩
theorem qD{k:aA}{th:List Bool}{q:aE}{i:Nat}(h:bI k th q i=true):∀a∈cP q,0<=a/\a<k.values.es.length/\aU th a=true:=by
 intro a ha
 simp only[bI,Bool.and_eq_true]at h
 obtain⟨_,h⟩:=h
 split at h
 ·cases h
 rename_i t ht
 simp only[Bool.and_eq_true,Bool.not_eq_true']at h
 obtain⟨⟨⟨⟨_,_⟩,h3⟩,_⟩,h5⟩:=h
 simp only[cP,List.mem_append]at ha
 simp only[rD]at h5
 split at h5
 ·rename_i h6
  simp only[Bool.and_eq_true]at h5
  have h7:decide (q.kind=3)=false:=by simp at h6 ⊢;omega
  rw[h7]at ha
  rcases ha with ha|ha
  ·obtain⟨x1,x2,x3,_⟩:=nC h5.2 a ha;exact⟨x1,x2,x3⟩
  ·simp at ha
 split at h5
 ·rename_i h6
  simp only[Bool.and_eq_true]at h5
  have h7:decide (q.kind=3)=false:=by simp at h6 ⊢;omega
  rw[h7]at ha
  rcases ha with ha|ha
  ·obtain⟨x1,x2,x3,_⟩:=nC h5.2 a ha;exact⟨x1,x2,x3⟩
  ·simp at ha
 split at h5
 ·rename_i h6
  simp only[Bool.and_eq_true]at h5
  rw[if_pos h6]at h3 ha
  rcases ha with ha|ha
  ·obtain⟨x1,x2,x3,_⟩:=nC h5.1 a ha;exact⟨x1,x2,x3⟩
  ·rw[List.mem_append]at ha
   rcases ha with ha|ha
   ·obtain⟨x1,x2,x3,_⟩:=nC h5.2 a ha;exact⟨x1,x2,x3⟩
   ·simp only[List.mem_singleton]at ha
    subst ha
    simp only[s7,Bool.or_eq_false_iff,decide_eq_false_iff_not,Bool.not_eq_false']at h3
    exact⟨by omega,by omega,h3.1.2⟩
 ·cases h5
theorem zP{k:aA}:∀(l:List aE)(th:List Bool)(i:Nat),lQ k th l i=none->∀d q r,l=d++q::r->bI k (aY th d) q (i+d.length)=true
 |[],th,i,_,d,q,r,he=>by cases d<;>simp at he
 |x::l,th,i,h,d,q,r,he=>by
  simp only[lQ]at h
  split at h
  ·rename_i hx
   cases d with
   |nil=>simp at he;obtain⟨rfl,rfl⟩:=he;exact hx
   |cons y d=>
    simp at he
    obtain⟨rfl,rfl⟩:=he
    have:=zP _ _ _ h d q r rfl
    rw[List.length_cons,show i+(d.length+1)=i+1+d.length from by omega]
    exact this
  ·cases h
structure kK(k:aA):Prop where
 out:bD k=true
 ker:∀d q r,k.list.es=d++q::r->bI k (aY (eS k) d) q d.length=true
 res:∀v∈k.results.es,0<=v/\v<k.values.es.length/\aU (aY (eS k) k.list.es) v=true
 one:0<k.results.es.length
theorem fL{k:aA}(h:(cB k).2=0):kK k:=by
 simp only[cB]at h
 split at h
 ·rename_i ho
  split at h
  ·simp at h
  ·rename_i hr
   split at h
   ·simp at h
   ·rename_i hb
    simp only[cX,Bool.or_eq_true,not_or,Bool.not_eq_true,decide_eq_true_eq,decide_eq_false_iff_not,List.any_eq_false]at hb
    obtain⟨⟨h1,h2⟩,h3⟩:=hb
    refine⟨ho,fun d q r he=>by simpa using zP _ _ _ hr d q r he,fun v hv=>?_,by omega⟩
    have h4:=h3 v hv
    simp only[cL,Bool.or_eq_false_iff,decide_eq_false_iff_not,Bool.not_eq_false',not_or,Bool.not_eq_true,Bool.or_eq_true,decide_eq_true_eq]at h4
    obtain⟨⟨x1,x2⟩,x3⟩:=h4
    exact⟨by omega,by omega,by simpa using x3⟩
 ·simp at h
theorem j2{k:aA}:(cB k).2=0\/(cB k).2=22:=by
 simp only[cB]
 split
 ·split
  ·exact .inr rfl
  ·split
   ·exact .inr rfl
   ·exact .inl rfl
 ·exact .inr rfl
end Go.Tev
end
section
namespace Go.Tev
def iY(k:aA)(r:AV):Prop:=
 if (cB k).2=0 then r = .tup [.sl false ((aF k).map bS) false,.int .i64 0] else r = .tup [.sl true [] true,.int .i64 22]
theorem NQ{l:List AV}{n:Nat}(x y:AV)(h:n*2+1<l.length):List.take (0+n*2) l++[x,y]++List.drop (0+n*2+2) l=(l.set (n*2) x).set (n*2+1) y:=by
 obtain⟨a,u,v,m,rfl,ha⟩:∃a u v m,l=a++u::v::m/\a.length=n*2:=by
  refine⟨l.take (n*2),l[n*2],l[n*2+1],l.drop (n*2+1+1),?_,by simp;omega⟩
  rw[<-List.drop_eq_getElem_cons h,<-List.drop_eq_getElem_cons (by omega),List.take_append_drop]
 rw[Nat.zero_add,<-ha]
 simp[List.set_append]
theorem GW{l:List AV}{n:Nat}(x:AV)(h:n<l.length):List.take n l++[x]++List.drop (n+1) l=l.set n x:=by
 rw[List.set_eq_take_append_cons_drop,if_pos h]
 simp
theorem CK(sp:List Sp)(v x:Int)(h:v.toNat<sp.length):List.take (0+v.toNat*2+1) (bH sp)++[.int .i64 x]++List.drop (0+v.toNat*2+1+1) (bH sp)=bH (iV sp v x):=by
 rw[Nat.zero_add,GW _ (by rw[iB];omega),vA]
 rfl
theorem NK(sp:List Sp)(v x:Int)(h:v.toNat<sp.length):List.take (0+v.toNat*2+0) (bH sp)++[.int .i64 x]++List.drop (0+v.toNat*2+0+1) (bH sp)=bH (gK sp v x):=by
 rw[Nat.zero_add,Nat.add_zero,GW _ (by rw[iB];omega),vC]
 rfl
theorem DF(sp:List Sp)(v:Int)(h:v.toNat<sp.length):(0+v.toNat*2+1+1<=(bH sp).length)=True:=eq_true (by rw[iB];omega)
theorem OD(sp:List Sp)(v:Int)(h:v.toNat<sp.length):(0+v.toNat*2+0+1<=(bH sp).length)=True:=eq_true (by rw[iB];omega)
theorem OE(sp:List Sp)(v:Int)(h:v.toNat<sp.length):(bH sp)[0+v.toNat*2+0]?=some (.int .i64 (i6 sp v)):=by
 obtain⟨s,hs⟩:∃s,sp[v.toNat]?=some s:=⟨_,List.getElem?_eq_getElem h⟩
 rw[Nat.zero_add,Nat.add_zero,(zJ sp _ s hs).1]
 simp[i6,hs]
section
variable{pg:Pg}
theorem c9 (hf:pg.fs 9=some cf9) (h28:∀k:aA,(k.vars.nl=true->k.vars.es=[])->(∀q∈k.list.es,q.body.ok/\q.index.ok/\k.vars.es.length+9+q.body.sz<=big/\k.vars.es.length+9+q.index.sz<=big) ->
   Ret pg 28 [k.av] (.tup [.int .i64 (cB k).1,.int .i64 (cB k).2]))
  (h29:∀(nl cl:Bool)(a b:Int)(n:Nat),n<=big->bL pg 29 [.sl nl [.agg [.int .i64 a,.int .i64 b]] cl,.int .i64 n] (lO 2 true (List.replicate n (.agg [.int .i64 a,.int .i64 b]))))
  (h30:∀q:aE,q.body.ok->q.index.ok->q.body.sz+q.index.sz+1<=big->bL pg 30 [q.av] (lO 1 false ((cP q).map aH)))
  (k:aA) (hnl:k.vars.nl=true->k.vars.es=[]) (hq:∀q∈k.list.es,q.body.ok/\q.index.ok/\k.vars.es.length+9+q.body.sz<=big/\k.vars.es.length+9+q.index.sz<=big) (hq2:∀q∈k.list.es,q.body.sz+q.index.sz+1<=big) :
  bL pg 9 [k.av] (iY k):=by
 have a1:=h28 k hnl hq
 have hVb:=k.values.ok
 have a2:=h29 false true (-2) (-2) k.values.es.length hVb
 clear h28 h29
 refine bL.ofX hf ?_
 unfold cf9
 simp only[aA.av,aA.cells,go_sem,seval]
 refine aB a1 (by simp only[aA.av,aA.cells,go_sem,seval]) rfl ?_
 rcases j2 (k:=k) with hc|hc
 ·have ok:=fL hc
  have hso:=ok.out
  simp only[bD,Bool.and_eq_true,decide_eq_true_eq]at hso
  obtain⟨_,⟨⟨⟨⟨⟨⟨_,_⟩,hi0⟩,_⟩,hiV⟩,_⟩,_⟩,_⟩:=hso
  have hV:0<k.values.es.length:=by
   obtain⟨v,hv⟩:=List.exists_mem_of_length_pos ok.one
   have:=ok.res v hv
   omega
  have hsp0:List.replicate k.values.es.length (AV.agg [.int .i64 (-2),.int .i64 (-2)])=(cQ k.values.es.length 0).map bS:=by simp[cQ,bS]
  have hl0:(cQ k.values.es.length 0).length=k.values.es.length:=kQ (Nat.zero_le _)
  rw[hsp0]at a2
  rw[hc]
  simp only[go_sem,seval]
  refine HM a2 (by simp only[go_sem,seval]) (sM _) (fun he=>?_) (fun cs hcs _=>?_)
  ·have:=congrArg List.length he
   rw[List.length_map,hl0,List.length_nil]at this
   omega
  rw[rM]at hcs
  cases hcs
  rw[List.length_map,hl0]
  generalize hE:Hp.next _ (0+9)=E
  clear hE a1 a2
  obtain⟨ins,hins⟩:∃n:Nat,k.inputs=n:=⟨k.inputs.toNat,by omega⟩
  have hinV:ins<=k.values.es.length:=by omega
  have hins':k.inputs.toNat=ins:=by omega
  simp only[go_sem,seval]
  refine aG (List.range ins) (fun d r env hp=>env=cf9E0 (.pt 1 0 0) (.rf 9 E 0 k.values.es.length k.values.es.length) (.int .i64 k.inputs) (.int .i64 d.length) /\
   hp.get 1=some (0,.blk k.cells 6 true true false)/\hp.get 9=some (E,.blk (bH (cQ k.values.es.length d.length)) 2 true false false)) ?_ ?_ ?_
  ·refine⟨rfl,?_,?_⟩
   ·simp only[go_sem,seval]
    rfl
   ·simp only[go_sem,seval]
  ·rintro env hp ⟨rfl,g1,g9⟩
   have hr:(List.range ins).length=ins:=List.length_range
   rw[hr]at g9 ⊢
   have e1:decide ((ins:Int)<k.inputs)=false:=by simp;omega
   have g1':=g1
   simp only[aA.cells,Sl.av]at g1
   simp only[cf9L0,cf9E0,e1,g1,go_sem,seval]
   refine aG k.list.es (fun d r env hp=>env=cf9E2 (.pt 1 0 0) (.rf 9 E 0 k.values.es.length k.values.es.length) (.sl k.list.nl (k.list.es.map aE.av) k.list.cl) (.int .i64 k.list.es.length) (.int .i64 d.length) /\
    hp.get 1=some (0,.blk k.cells 6 true true false)/\hp.get 9=some (E,.blk (bH (gH (cQ k.values.es.length ins) 0 d)) 2 true false false)) ?_ ?_ ?_
   ·exact⟨rfl,g1',g9⟩
   ·clear g9 g1 g1' hp
    rintro env hp ⟨rfl,g1,g9⟩
    have g1':=g1
    simp only[aA.cells,Sl.av]at g1
    simp only[cf9L2,cf9E2,g1,go_sem,seval]
    refine aG k.results.es (fun d r env hp=>env=cf9E3 (.pt 1 0 0) (.rf 9 E 0 k.values.es.length k.values.es.length) (.sl k.results.nl (k.results.es.map aH) k.results.cl) (.int .i64 k.results.es.length) (.int .i64 d.length) /\
     hp.get 1=some (0,.blk k.cells 6 true true false)/\hp.get 9=some (E,.blk (bH (mZ (gH (cQ k.values.es.length ins) 0 k.list.es) k.list.es.length d)) 2 true false false)) ?_ ?_ ?_
    ·exact⟨rfl,g1',g9⟩
    ·clear g9 g1 g1' hp
     rintro env hp ⟨rfl,g1,g9⟩
     have hlen:(aF k).length=k.values.es.length:=by
      simp only[aF]
      rw[show mZ=fun sp n l=>c7 sp n l from rfl]
      rw[iA,nU,hins',kQ hinV]
     have hspk:mZ (gH (cQ k.values.es.length ins) 0 k.list.es) k.list.es.length k.results.es=aF k:=by rw[aF,hins']
     rw[hspk]at g9
     have hsn:=NN g9 61
     rw[hlen]at hsn
     simp only[cf9L3,cf9E3,go_sem,seval]
     simp only[Tev.conv,depth,eI,cD,bA,↓hsn,go_sem]
     rw[iY,if_pos hc]
    ·clear g9 g1 g1' hp
     rintro d v r env hp hes ⟨rfl,g1,g9⟩
     obtain⟨v1,v2,_⟩:=ok.res v (by rw[hes];simp)
     have hrb:=k.results.ok
     rw[hes]at hrb
     have hget:k.results.es[d.length]?=some v:=by rw[hes];simp
     have hlt:d.length<k.results.es.length:=by rw[hes];simp
     have e1:decide ((d.length:Int)<(k.results.es.length:Int))=true:=by simp;omega
     have e2:((d.length:Int)<(k.results.es.length:Int))=True:=eq_true (by omega)
     have v1':(0<=v)=True:=eq_true v1
     have v2':(v<(k.values.es.length:Int))=True:=eq_true v2
     have g1':=g1
     simp only[aA.cells,Sl.av]at g1
     have hln:(mZ (gH (cQ k.values.es.length ins) 0 k.list.es) k.list.es.length d).length=k.values.es.length:=by
      rw[show mZ=fun sp n l=>c7 sp n l from rfl]
      rw[iA,nU,kQ hinV]
     have hvl:v.toNat<(mZ (gH (cQ k.values.es.length ins) 0 k.list.es) k.list.es.length d).length:=by rw[hln];omega
     have hsno:iV (mZ (gH (cQ k.values.es.length ins) 0 k.list.es) k.list.es.length d) v k.list.es.length=mZ (gH (cQ k.values.es.length ins) 0 k.list.es) k.list.es.length (d++[v]):=by simp[mZ]
     simp only[cf9L3,cf9E3,e1,e2,g1,g9,hget,v1',v2',DF _ v hvl,CK _ v _ hvl,aM hrb,hsno,go_sem,seval]
     exact⟨rfl,rfl⟩
   ·clear g9 g1 g1' hp
    rintro d q r env hp hes ⟨rfl,g1,g9⟩
    obtain⟨v0,v2,_⟩:=iE (ok.ker d q r hes)
    have hlb:=k.list.ok
    rw[hes]at hlb
    have hget:k.list.es[d.length]?=some q:=by rw[hes];simp
    have hlt:d.length<k.list.es.length:=by rw[hes];simp
    have e1:decide ((d.length:Int)<(k.list.es.length:Int))=true:=by simp;omega
    have e2:((d.length:Int)<(k.list.es.length:Int))=True:=eq_true (by omega)
    have v1':(0<=q.value)=True:=eq_true (by omega)
    have v2':(q.value<(k.values.es.length:Int))=True:=eq_true v2
    obtain⟨p1,p2,_,_⟩:=hq q (by rw[hes];simp)
    have a3:=h30 q p1 p2 (hq2 q (by rw[hes];simp))
    rw[aE.avc]at a3
    have hrd:=qD (ok.ker d q r hes)
    have hrlen:(cP q).length<=big:=by
     have z1:=hq2 q (by rw[hes];simp)
     have z2:=jO q.body
     have z3:=jO q.index
     simp only[cP,List.length_append]
     split<;>simp<;>omega
    have hrun:=rK d (cQ k.values.es.length ins) 0 q
    rw[Nat.zero_add]at hrun
    rw[hrun]
    have hln:(gH (cQ k.values.es.length ins) 0 d).length=k.values.es.length:=by rw[nU,kQ hinV]
    generalize gH (cQ k.values.es.length ins) 0 d=sp at g9 hln ⊢
    have hvl:q.value.toNat<sp.length:=by omega
    have hvl2:q.value.toNat<(gK sp q.value d.length).length:=by rw[pP];exact hvl
    have hst:lP sp d.length q=c7 (iV (if decide (i6 sp q.value = -2) then gK sp q.value d.length else sp) q.value d.length) d.length (cP q):=rfl
    rw[hst]
    clear hst hrun h30 hq hq2
    simp only[cf9L2,cf9E2,e1,e2,g9,hget,v1',v2',OE sp q.value hvl,go_sem,seval]
    cases hfr:decide (i6 sp q.value = -2)
    case true=>
     simp only[g9,v1',v2',OD sp _ hvl,NK sp _ _ hvl,DF _ _ hvl2,CK _ _ _ hvl2,go_sem,seval]
     refine j3 a3 (by simp only[go_sem,seval]) ?_
     intro nl3 cl3 _
     simp only[go_sem,seval]
     refine aG (cP q) (fun d2 r2 env hp=>env=cf9E1 (.pt 1 0 0) (.rf 9 E 0 k.values.es.length k.values.es.length) (.int .i64 d.length) (.sl k.list.nl (k.list.es.map aE.av) k.list.cl) (.int .i64 k.list.es.length) (.int .i64 d.length) (.sl nl3 ((cP q).map aH) cl3) (.int .i64 (cP q).length) (.int .i64 d2.length) /\
      hp.get 1=some (0,.blk k.cells 6 true true false)/\hp.get 9=some (E,.blk (bH (c7 (iV (gK sp q.value d.length) q.value d.length) d.length d2)) 2 true false false)) ?_ ?_ ?_
     ·refine⟨rfl,?_,?_⟩
      ·simp only[go_sem,seval]
       exact g1
      ·simp only[go_sem,seval]
       rfl
     ·clear g9 g1 hp
      rintro env hp ⟨rfl,g1,g9⟩
      simp only[cf9L1,cf9E1,aM hlb,go_sem,seval]
      first|exact⟨rfl,g1,g9⟩
     ·clear g9 g1 hp
      rintro d2 v r2 env hp hes2 ⟨rfl,g1,g9⟩
      obtain⟨w1,w2,_⟩:=hrd v (by rw[hes2];simp)
      have hget2:(cP q)[d2.length]?=some v:=by rw[hes2];simp
      have hlt2:d2.length<(cP q).length:=by rw[hes2];simp
      have f1:decide ((d2.length:Int)<((cP q).length:Int))=true:=by simp;omega
      have f2:((d2.length:Int)<((cP q).length:Int))=True:=eq_true (by omega)
      have w1':(0<=v)=True:=eq_true w1
      have w2':(v<(k.values.es.length:Int))=True:=eq_true w2
      have hvl3:v.toNat<(c7 (iV (gK sp q.value d.length) q.value d.length) d.length d2).length:=by rw[iA,qP];rw[pP];omega
      have hrb2:(d2++v::r2).length<=big:=by rw[<-hes2];exact hrlen
      simp only[cf9L1,cf9E1,f1,f2,g9,hget2,w1',w2',DF _ v hvl3,CK _ v _ hvl3,aM hrb2,go_sem,seval]
      rw[sL]
      first|exact⟨rfl,g1,rfl⟩|exact g1
    case false=>
     simp only[g9,v1',v2',DF _ _ hvl,CK _ _ _ hvl,go_sem,seval]
     refine j3 a3 (by simp only[go_sem,seval]) ?_
     intro nl3 cl3 _
     simp only[go_sem,seval]
     refine aG (cP q) (fun d2 r2 env hp=>env=cf9E1 (.pt 1 0 0) (.rf 9 E 0 k.values.es.length k.values.es.length) (.int .i64 d.length) (.sl k.list.nl (k.list.es.map aE.av) k.list.cl) (.int .i64 k.list.es.length) (.int .i64 d.length) (.sl nl3 ((cP q).map aH) cl3) (.int .i64 (cP q).length) (.int .i64 d2.length) /\
      hp.get 1=some (0,.blk k.cells 6 true true false)/\hp.get 9=some (E,.blk (bH (c7 (iV sp q.value d.length) d.length d2)) 2 true false false)) ?_ ?_ ?_
     ·refine⟨rfl,?_,?_⟩
      ·simp only[go_sem,seval]
       exact g1
      ·simp only[go_sem,seval]
       rfl
     ·clear g9 g1 hp
      rintro env hp ⟨rfl,g1,g9⟩
      simp only[cf9L1,cf9E1,aM hlb,go_sem,seval]
      first|exact⟨rfl,g1,g9⟩
     ·clear g9 g1 hp
      rintro d2 v r2 env hp hes2 ⟨rfl,g1,g9⟩
      obtain⟨w1,w2,_⟩:=hrd v (by rw[hes2];simp)
      have hget2:(cP q)[d2.length]?=some v:=by rw[hes2];simp
      have hlt2:d2.length<(cP q).length:=by rw[hes2];simp
      have f1:decide ((d2.length:Int)<((cP q).length:Int))=true:=by simp;omega
      have f2:((d2.length:Int)<((cP q).length:Int))=True:=eq_true (by omega)
      have w1':(0<=v)=True:=eq_true w1
      have w2':(v<(k.values.es.length:Int))=True:=eq_true w2
      have hvl3:v.toNat<(c7 (iV sp q.value d.length) d.length d2).length:=by rw[iA,qP];omega
      have hrb2:(d2++v::r2).length<=big:=by rw[<-hes2];exact hrlen
      simp only[cf9L1,cf9E1,f1,f2,g9,hget2,w1',w2',DF _ v hvl3,CK _ v _ hvl3,aM hrb2,go_sem,seval]
      rw[sL]
      first|exact⟨rfl,g1,rfl⟩|exact g1
  ·rintro d x r env hp hes ⟨rfl,g1,g9⟩
   obtain⟨hx,hlt⟩:=jX hes
   have hb2:(d++x::r).length<=big:=by rw[<-hes];simp;omega
   have hlen:(cQ k.values.es.length d.length).length=k.values.es.length:=kQ (by omega)
   have e1:decide ((d.length:Int)<k.inputs)=true:=by simp;omega
   have e2:((d.length:Int)<(k.values.es.length:Int))=True:=eq_true (by omega)
   have e3:(0+d.length*2+2<=(bH (cQ k.values.es.length d.length)).length)=True:=eq_true (by rw[iB,hlen];omega)
   have e4:=NQ (l:=bH (cQ k.values.es.length d.length)) (n:=d.length) (.int .i64 (-1)) (.int .i64 (-1)) (by rw[iB,hlen];omega)
   rw[vB,EX (by omega)]at e4
   simp only[cf9L0,cf9E0,e1,e2,g9,e3,e4,aM hb2,go_sem,seval]
   rw[List.length_append]
   exact⟨rfl,g1,rfl⟩
 ·rw[hc]
  simp only[go_sem,seval]
  rw[iY,hc]
  rfl
end
end Go.Tev
end
section
namespace Go.Tev
def iH(at_:Int)(s:Sp):Bool := !decide (s.1 = -2)&&decide (s.1<=at_)&&decide (at_<=s.2)
def eJ(at_:Int)(d:List Sp):List Int:=(d.zipIdx.filter fun x=>iH at_ x.1).map fun x=>(x.2:Int)
theorem oW(at_:Int)(d:List Sp)(x:Sp):eJ at_ (d++[x])=eJ at_ d++if iH at_ x then [(d.length:Int)] else []:=by
 simp only[eJ,List.zipIdx_append,List.filter_append,List.map_append,List.zipIdx_singleton,Nat.zero_add]
 congr 1
 cases h:iH at_ x<;>simp[h]
theorem qR{at_:Int}{d:List Sp}{v:Int}:v∈eJ at_ d↔∃s,0<=v/\d[v.toNat]?=some s/\iH at_ s=true:=by
 simp only[eJ,List.mem_map,List.mem_filter,List.mem_zipIdx_iff_getElem?]
 constructor
 ·rintro⟨⟨s,i⟩,⟨h1,h2⟩,rfl⟩
  exact⟨s,by simp,by simpa using h1,h2⟩
 ·rintro⟨s,h0,h1,h2⟩
  exact⟨(s,v.toNat),⟨by simpa using h1,h2⟩,by simp;omega⟩
def kD(k:aA)(at_:Int)(r:AV):Prop:=
 if (cB k).2=0 then
  (if at_ < -1\/(k.list.es.length:Int)<at_ then r = .tup [.sl true [] true,.int .i64 2] else ∃nl cl,r = .tup [.sl nl ((eJ at_ (aF k)).map aH) cl,.int .i64 0])
 else r = .tup [.sl true [] true,.int .i64 22]
theorem jN{k:aA}(h:k.inputs.toNat<=k.values.es.length):(aF k).length=k.values.es.length:=by
 simp only[aF]
 rw[show mZ=fun sp n l=>c7 sp n l from rfl]
 rw[iA,nU,kQ h]
section
variable{pg:Pg}
theorem c11(hf:pg.fs 11=some cf11)(k:aA)(h9:bL pg 9 [k.av] (iY k))(at_:Int):bL pg 11 [k.av,.int .i64 at_] (kD k at_):=by
 obtain⟨r9,hr9,hs9⟩:=h9
 refine bL.ofX hf ?_
 unfold cf11
 simp only[aA.av,aA.cells,go_sem,seval]
 rcases j2 (k:=k) with hc|hc
 ·have ok:=fL hc
  have hso:=ok.out
  simp only[bD,Bool.and_eq_true,decide_eq_true_eq]at hso
  obtain⟨_,⟨⟨⟨⟨⟨⟨_,_⟩,hi0⟩,_⟩,hiV⟩,_⟩,_⟩,_⟩:=hso
  have hsl:=jN (k:=k) (by omega)
  have hVb:=k.values.ok
  have htr:treeL ((aF k).map bS)=true:=bG (f:=bS) (fun s=>by simp[bS,go_sem]) _
  rw[iY,if_pos hc]at hs9
  subst hs9
  refine aB hr9 (by simp only[aA.av,aA.cells,go_sem,seval]) (by first|rfl|(simp[AV.tree,htr])) ?_
  simp only[go_sem,seval]
  cases ha:decide (at_ < -1)
  case true=>
   simp only[go_sem,seval]
   rw[kD,if_pos hc,if_pos (.inl (by simpa using ha))]
  case false=>
   simp only[go_sem,seval]
   cases hb:decide ((k.list.es.length:Int)<at_)
   case true=>
    simp only[go_sem,seval]
    rw[kD,if_pos hc,if_pos (.inr (by simpa using hb))]
   case false=>
    simp only[go_sem,seval]
    refine aG (aF k) (fun d r env hp=>∃v,env=cf11E0 (.int .i64 at_) v (.sl false ((aF k).map bS) false) (.int .i64 (aF k).length) (.int .i64 d.length)/\Own hp 13 1 false v ((eJ at_ d).map aH)) ?_ ?_ ?_
    ·exact⟨_,rfl,Own.nil _ _ _ _ _ _ rfl⟩
    ·rintro env hp ⟨v,rfl,ho⟩
     simp only[cf11L0,cf11E0,go_sem,seval]
     have hfin:∀r,(∃nl cl,r = .tup [.sl nl ((eJ at_ (aF k)).map aH) cl,.int .i64 0])->kD k at_ r:=by
      intro r hr
      rw[kD,if_pos hc,if_neg (by simp at ha hb;omega)]
      exact hr
     obtain⟨nl,cl,keys,hsn,_⟩:=ho.snap (El.ints _) 61
     rcases ho with ⟨he,nl',cl',rfl,_⟩|⟨e,cs,rfl,hg,hu⟩
     ·rw[<-he]
      simp only[go_sem,seval]
      exact hfin _ ⟨nl',cl',by rw[he]⟩
     ·simp only[List.length_map]at hsn
      simp only[Tev.conv,depth,eI,cD,bA,↓hsn,go_sem,List.length_map]
      exact hfin _ ⟨_,_,rfl⟩
    ·rintro d x r env hp hes ⟨v,rfl,ho⟩
     have hb2:(d++x::r).length<=big:=by rw[<-hes,hsl];exact hVb
     have hget:(aF k)[d.length]?=some x:=by rw[hes];simp
     have hlt:d.length<(aF k).length:=by rw[hes];simp
     have e1:decide ((d.length:Int)<((aF k).length:Int))=true:=by simp;omega
     have e2:((d.length:Int)<((aF k).length:Int))=True:=eq_true (by omega)
     have hll:(eJ at_ d).length<=d.length:=by
      simp only[eJ,List.length_map]
      exact Nat.le_trans (List.length_filter_le _ _) (by simp)
     have hdl:d.length<=16777216:=by simp only[big]at hb2;simp at hb2;omega
     have hin:∀y∈[AV.int .i64 (d.length:Int)],El 1 false y:=by intro y hy;simp at hy;subst hy;exact⟨rfl,rfl,rfl⟩
     have hw:=aM hb2
     have hno:iH at_ x=false->eJ at_ (d++[x])=eJ at_ d:=by intro h;rw[oW,h];simp
     simp only[cf11L0,cf11E0,e1,e2,hget,bS,go_sem,seval]
     have hgo:∀hp':Hp,hp'.get 13=hp.get 13->Own hp' 13 1 false v ((eJ at_ d).map aH):=fun hp' h=>ho.mono h
     cases b1:decide (x.fst = -2)
     case true=>
      simp only[hw,go_sem,seval]
      refine⟨v,rfl,?_⟩
      rw[hno (by simp[iH,b1])]
      exact hgo _ (by simp only[go_sem,seval])
     cases b2:decide (x.fst<=at_)
     case false=>
      simp only[hw,b2,go_sem,seval]
      refine⟨v,rfl,?_⟩
      rw[hno (by simp[iH,b1,b2])]
      exact hgo _ (by simp only[go_sem,seval])
     cases b3:decide (at_<=x.snd)
     case false=>
      simp only[hw,b2,b3,go_sem,seval]
      refine⟨v,rfl,?_⟩
      rw[hno (by simp[iH,b1,b2,b3])]
      exact hgo _ (by simp only[go_sem,seval])
     simp only[hw,b2,b3,go_sem,seval]
     refine eU (kb:=0) (s:=13) (hgo _ ?_) (El.ints _) hin (by simp only[List.length_map,List.length_singleton];omega) (by decide) ?_
     ·simp only[go_sem,seval]
     ·intro v' rd pa ho2 _ _
      simp only[hw,go_sem,seval]
      refine⟨v',rfl,?_⟩
      rw[oW,show iH at_ x=true by simp[iH,b1,b2,b3]]
      simpa[wK] using ho2
 ·rw[iY,if_neg (by omega)]at hs9
  subst hs9
  refine aB hr9 (by simp only[aA.av,aA.cells,go_sem,seval]) rfl ?_
  simp only[go_sem,seval]
  rw[kD,if_neg (by omega)]
end
end Go.Tev
end
