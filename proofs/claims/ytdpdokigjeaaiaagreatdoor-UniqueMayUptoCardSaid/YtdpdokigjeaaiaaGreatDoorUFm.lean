import Derived.Test.YtdpdokigjeaaiaaGreatDoorUCm
import Derived.Test.YtdpdokigjeaaiaaGreatDoorNFm
import Derived.Test.YtdpdokigjeaaiaaGreatDoorRDm
import Derived.Test.YtdpdokigjeaaiaaGreatDoorUAm
import Derived.Test.YtdpdokigjeaaiaaGreatDoorEvEm
set_option linter.all false
section
namespace Go.Tev
section
variable {pg:Pg}
theorem choicesU_len (k:Kernels):(choicesU k).length=k.list.es.length:=by simp [choicesU]
set_option maxHeartbeats 4000000 in
theorem c255 (hf:pg.fs 255=some cf255) (h259:Ret pg 259 [] (.bool true)) (k:Kernels) (h8:Ret pg 8 [k.av] (.bool (few8 k))) (h262:RetP pg 262 [k.av] (choR k)) (h263:RetP pg 263 [k.av] (choR k))
  (at_ v:Int) (h264:Ret pg 264 [k.av,.int .i64 at_,.int .i64 v] (.bool (mayF k at_ v))) (h265:Ret pg 265 [k.av,.int .i64 at_,.int .i64 v] (.bool (mayF k at_ v))) (h15:pg.fs 15=some cf15) :
  Ret pg 255 [k.av,.int .i64 at_,.int .i64 v] (.bool true):=by
 rw [Kernels.avc] at h8 h262 h263 h264 h265
 obtain ⟨r1,hr1,hs1⟩:=h262
 obtain ⟨r2,hr2,hs2⟩:=h263
 have hlen:(choicesU k).length≤big:=by rw [choicesU_len];exact k.list.ok
 refine Ret.ofX hf ?_
 unfold cf255
 simp only [go_sem,seval]
 refine XO_tree h259 rfl rfl ?_
 simp only [go_sem,seval]
 refine XO_tree h8 (by simp only [go_sem,seval]) rfl ?_
 cases b1:few8 k
 ·simp only [go_sem,seval]
  refine XO_tree h259 rfl rfl ?_
  simp only [go_sem,seval]
 rcases fuse_code (k:=k) with hc | hc
 case inr=>
  rw [choR,if_neg (by omega)] at hs1 hs2
  subst hs1
  subst hs2
  simp only [go_sem,seval]
  refine XO_tree hr1 (by simp only [go_sem,seval]) rfl ?_
  simp only [go_sem,seval]
  refine XO_tree hr2 (by simp only [go_sem,seval]) rfl ?_
  simp only [go_sem,seval]
  refine XO_tree h264 (by simp only [go_sem,seval]) rfl ?_
  simp only [go_sem,seval]
  refine XO_tree h265 (by simp only [go_sem,seval]) rfl ?_
  simp only [go_sem,seval]
  refine XO_tree (c15 h15 true true [] (by decide) true true [] rfl) rfl rfl ?_
  simp only [go_sem,seval]
  first | kernel_rfl | (refine And.intro (by kernel_rfl) ?_;simp only [go_sem,seval])
 rw [choR,if_pos hc] at hs1 hs2
 obtain ⟨n1,c1,_,rfl⟩:=hs1
 obtain ⟨n2,c2,_,rfl⟩:=hs2
 simp only [go_sem,seval]
 refine XO_tree hr1 (by simp only [go_sem,seval]) (by first | rfl | simp [AV.tree,go_sem]) ?_
 simp only [go_sem,seval]
 refine XO_tree hr2 (by simp only [go_sem,seval]) (by first | rfl | simp [AV.tree,go_sem]) ?_
 simp only [go_sem,seval]
 refine XO_tree h264 (by simp only [go_sem,seval]) rfl ?_
 simp only [go_sem,seval]
 refine XO_tree h265 (by simp only [go_sem,seval]) rfl ?_
 simp only [go_sem,seval]
 refine XO_tree (c15 h15 n1 c1 (choicesU k) hlen n2 c2 (choicesU k) rfl) (by simp only [go_sem,seval]) rfl ?_
 simp only [go_sem,seval]
 first | kernel_rfl | (refine And.intro (by kernel_rfl) ?_;simp only [go_sem,seval])
end
end Go.Tev
end
section
namespace Go.Tev
section
variable {pg:Pg}
end
end Go.Tev
end
section
namespace Go.Tev
end Go.Tev
end
section
namespace Go.Tev
end Go.Tev
end
section
namespace Go.Tev
section
variable {pg:Pg}
end
end Go.Tev
end
section
namespace Go.Tev
structure CodeMay (pg:Pg):Prop where
 f260:pg.fs 260=some cf260
 f261:pg.fs 261=some cf261
 f262:pg.fs 262=some cf262
 f263:pg.fs 263=some cf263
 f264:pg.fs 264=some cf264
 f265:pg.fs 265=some cf265
 f272:pg.fs 272=some cf272
 f273:pg.fs 273=some cf273
 f274:pg.fs 274=some cf274
 f275:pg.fs 275=some cf275
 f276:pg.fs 276=some cf276
 f292:pg.fs 292=some cf292
 f293:pg.fs 293=some cf293
 f294:pg.fs 294=some cf294
 f316:pg.fs 316=some cf316
section
variable {pg:Pg}
theorem kok_hk {k:Kernels} (hk:KOK k):∀ q∈k.list.es,q.body.ok∧q.index.ok∧q.body.sz+q.index.sz+1≤big:=fun q hq=>by
 obtain ⟨h1,h2,_,_⟩:=hk.ks q hq
 have:=hk.sz q hq
 exact ⟨h1,h2,by omega⟩
theorem all275 (C:Go.Tev.Code pg) (M:CodeMay pg) (A:Ora pg) (k:Kernels) (hk:KOK k):FuseOK k→∀ (nl cl:Bool) (at_ v:Nat),at_ < k.list.es.length→v < k.values.es.length →
  Ret pg 275 [k.av,.sl nl ((spansK k).map spAV) cl,.int .i64 at_,.int .i64 v] (.bool (mayU k at_ v)):=
 fun ok nl cl at_ v h1 h2=>c275 M.f275 (c65 C.f65 (c104 C.f104 C.f67 C.f142 C.f106)) (fun p hp hs=>c48 (baseS_of A) C.f48 C.f74 p hp hs) (fun nl cl es hb v=>c293 M.f293 M.f316 nl cl es hb v)
  (fun v rank p hp=>c260 A M.f260 M.f272 M.f273 M.f274 M.f292 C.f108 v rank p hp) k ok (kok_hk hk) nl cl at_ v h1 h2
theorem all276 (C:Go.Tev.Code pg) (D:Code3 pg) (M:CodeMay pg) (k:Kernels) (hk:KOK k):FuseOK k→∀ (nl cl:Bool) (at_ v:Nat),at_ < k.list.es.length→v < k.values.es.length →
  Ret pg 276 [k.av,.sl nl ((spansK k).map spAV) cl,.int .i64 at_,.int .i64 v] (.bool (mayU k at_ v)):=
 fun ok nl cl at_ v h1 h2=>c276 M.f276 (c88 D.f88 (c121 D.f121 D.f162 D.f191)) (fun p hp hs v=>c294 M.f294 (c37 D.f37 D.f55) p hp hs v)
  (fun v rank p hp=>c261 M.f261 (c122g D.f122 D.f163) (c162 D.f162 D.f191) v rank p hp) k ok (kok_hk hk) nl cl at_ v h1 h2
theorem all255 (C:Go.Tev.Code pg) (D:Code3 pg) (M:CodeMay pg) (A:Ora pg) (hf:pg.fs 255=some cf255) (h259:Ret pg 259 [] (.bool true)) (k:Kernels) (hk:KOK k) (at_ v:Int):Ret pg 255 [k.av,.int .i64 at_,.int .i64 v] (.bool true):=by
 have h9:=all9 C A k hk
 have h10:=all10 C D k hk
 have h275:=all275 C M A k hk
 have h276:=all276 C D M k hk
 exact c255 hf h259 k (all8 C k hk) (c262 M.f262 k h9 h275) (c263 M.f263 k h10 h276) at_ v (c264 M.f264 k h9 h275 at_ v) (c265 M.f265 k h10 h276 at_ v) D.f15
end
end Go.Tev
end
