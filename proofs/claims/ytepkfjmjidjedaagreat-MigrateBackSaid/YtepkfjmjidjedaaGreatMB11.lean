/- Merged texts. -/
import Derived.Shelf.SlSortCmp.NoneTotal
import Derived.Shelf.SlicesQ.IndexFunc
import Derived.Shelf.SlicesE.Clone
import Derived.Ground.SlsfProg
import Derived.Ground.SlgfProg
import Derived.Ground.SlgnProg
import Derived.Shelf.SlGeneric
import Derived.Test.YtepkfjmjidjedaaGreatProg
import Derived.Shelf.SlIter.Nil
import Derived.Shelf.SortM.Plain
import Derived.Shelf.SortM.SortNone
import Derived.Ground.GgzProg
import Derived.Ground.SlgmProg
import Derived.Test.YtepkfjmjidjedaaGreatMB02
import Derived.Test.YtepkfjmjidjedaaGreatMB03
import Derived.RangeFuncNested
import Derived.RangeFuncBound
import Derived.RangeFuncCalls
import Derived.RangeFuncLeaves
import Derived.Shelf.Abstract
import Derived.Shelf.RegionOpen
import Derived.OwnWalkIn
import Derived.TacticsInMore
import Derived.LoopNIn
import Derived.LoopIn
import Derived.Test.YtepkfjmjidjedaaGreatMB10
import Derived.Test.YtepkfjmjidjedaaGreatMB06
import Derived.WalkLawsBesides
import Derived.Recover
import Derived.Test.YtepkfjmjidjedaaGreatMB09
import Derived.Test.YtepkfjmjidjedaaGreatMB07
set_option linter.unusedVariables false
set_option linter.unusedSimpArgs false
set_option maxHeartbeats 8000000
set_option maxRecDepth 100000
section
namespace Go.Proofs
open Go.Shelf
def Tryz.sortEnt_ren:Go.Shelf.Ren:=⟨fun|6=>147|15=>205|14=>204|28=>258|29=>259|20=>250|21=>251|22=>252|23=>253|24=>254|25=>255|26=>256|27=>257|46=>286|47=>287|48=>288|49=>289|50=>290|57=>296|n=>n,fun|22=>163|24=>177|25=>241|3=>3|39=>297|0=>0|53=>38|55=>32|4=>4|46=>339|45=>338|50=>343|5=>5|9=>9|66=>365|70=>368|76=>373|77=>308|n=>n,fun|n=>n⟩
theorem Tryz.sortEnt:Go.Proofs.SlLaysF0.n6 Tryz.prog Tryz.sortEnt_ren:={
 mixed:=by kernel_rfl
 f6:=⟨Tryz.f147.name,by decide,Tryz.func147.trans (congrArg some (by kernel_rfl))⟩
 f14:=⟨Tryz.f204.name,by decide,Tryz.func204.trans (congrArg some (by kernel_rfl))⟩
 f15:=Tryz.func205.trans (congrArg some (by kernel_rfl))
 f20:=⟨Tryz.f250.name,by decide,Tryz.func250.trans (congrArg some (by kernel_rfl))⟩
 f21:=⟨Tryz.f251.name,by decide,Tryz.func251.trans (congrArg some (by kernel_rfl))⟩
 f22:=⟨Tryz.f252.name,by decide,Tryz.func252.trans (congrArg some (by kernel_rfl))⟩
 f23:=⟨Tryz.f253.name,by decide,Tryz.func253.trans (congrArg some (by kernel_rfl))⟩
 f24:=⟨Tryz.f254.name,by decide,Tryz.func254.trans (congrArg some (by kernel_rfl))⟩
 f25:=⟨Tryz.f255.name,by decide,Tryz.func255.trans (congrArg some (by kernel_rfl))⟩
 f26:=⟨Tryz.f256.name,by decide,Tryz.func256.trans (congrArg some (by kernel_rfl))⟩
 f27:=⟨Tryz.f257.name,by decide,Tryz.func257.trans (congrArg some (by kernel_rfl))⟩
 f28:=Tryz.func258.trans (congrArg some (by kernel_rfl))
 f29:=Tryz.func259.trans (congrArg some (by kernel_rfl))
 f46:=⟨Tryz.f286.name,by decide,Tryz.func286.trans (congrArg some (by kernel_rfl))⟩
 f47:=Tryz.func287.trans (congrArg some (by kernel_rfl))
 f48:=Tryz.func288.trans (congrArg some (by kernel_rfl))
 f49:=⟨Tryz.f289.name,by decide,Tryz.func289.trans (congrArg some (by kernel_rfl))⟩
 f50:=⟨Tryz.f290.name,by decide,Tryz.func290.trans (congrArg some (by kernel_rfl))⟩
 f57:=⟨Tryz.f296.name,by decide,Tryz.func296.trans (congrArg some (by kernel_rfl))⟩
 t0:=Tryz.underlying0
 a0:=Tryz.isAgg0
 z0:=Tryz.sizeOf0
 v0:=Tryz.zeroValue0
 t3:=Tryz.underlying3
 a3:=Tryz.isAgg3
 z3:=Tryz.sizeOf3
 v3:=Tryz.zeroValue3
 t4:=Tryz.underlying4
 a4:=Tryz.isAgg4
 z4:=Tryz.sizeOf4
 v4:=Tryz.zeroValue4
 t5:=Tryz.underlying5
 a5:=Tryz.isAgg5
 z5:=Tryz.sizeOf5
 v5:=Tryz.zeroValue5
 t9:=Tryz.underlying9
 a9:=Tryz.isAgg9
 z9:=Tryz.sizeOf9
 v9:=Tryz.zeroValue9
 t22:=Tryz.underlying163
 a22:=Tryz.isAgg163
 z22:=Tryz.sizeOf163
 v22:=Tryz.zeroValue163
 t25:=Tryz.underlying241
 a25:=Tryz.isAgg241
 z25:=Tryz.sizeOf241
 v25:=Tryz.zeroValue241
 t39:=Tryz.underlying297
 a39:=Tryz.isAgg297
 z39:=Tryz.sizeOf297
 v39:=Tryz.zeroValue297
 t45:=Tryz.underlying338
 a45:=Tryz.isAgg338
 z45:=Tryz.sizeOf338
 v45:=Tryz.zeroValue338
 t46:=Tryz.underlying339
 a46:=Tryz.isAgg339
 z46:=Tryz.sizeOf339
 v46:=Tryz.zeroValue339
 t50:=Tryz.underlying343
 a50:=Tryz.isAgg343
 z50:=Tryz.sizeOf343
 v50:=Tryz.zeroValue343
 t53:=Tryz.underlying38
 a53:=Tryz.isAgg38
 z53:=Tryz.sizeOf38
 v53:=Tryz.zeroValue38
 t55:=Tryz.underlying32
 a55:=Tryz.isAgg32
 z55:=Tryz.sizeOf32
 v55:=Tryz.zeroValue32
 t66:=Tryz.underlying365
 a66:=Tryz.isAgg365
 z66:=Tryz.sizeOf365
 v66:=Tryz.zeroValue365
 t70:=Tryz.underlying368
 a70:=Tryz.isAgg368
 z70:=Tryz.sizeOf368
 v70:=Tryz.zeroValue368
 t76:=Tryz.underlying373
 a76:=Tryz.isAgg373
 z76:=Tryz.sizeOf373
 v76:=Tryz.zeroValue373
 t77:=Tryz.underlying308
 a77:=Tryz.isAgg308
 z77:=Tryz.sizeOf308
 v77:=Tryz.zeroValue308 }
def Tryz.hasEnt_ren:Go.Shelf.Ren:=⟨fun|8=>201|6=>248|n=>n,fun|22=>163|23=>177|25=>288|4=>4|3=>3|0=>0|n=>n,fun|n=>n⟩
theorem Tryz.hasEnt:Go.Proofs.SlLaysH0.n8 Tryz.prog Tryz.hasEnt_ren:={
 mixed:=by kernel_rfl
 f6:=⟨Tryz.f248.name,by decide,Tryz.func248.trans (congrArg some (by kernel_rfl))⟩
 f8:=⟨Tryz.f201.name,by decide,Tryz.func201.trans (congrArg some (by kernel_rfl))⟩
 t0:=Tryz.underlying0
 a0:=Tryz.isAgg0
 z0:=Tryz.sizeOf0
 v0:=Tryz.zeroValue0
 t3:=Tryz.underlying3
 a3:=Tryz.isAgg3
 z3:=Tryz.sizeOf3
 v3:=Tryz.zeroValue3
 t4:=Tryz.underlying4
 a4:=Tryz.isAgg4
 z4:=Tryz.sizeOf4
 v4:=Tryz.zeroValue4
 t22:=Tryz.underlying163
 a22:=Tryz.isAgg163
 z22:=Tryz.sizeOf163
 v22:=Tryz.zeroValue163
 t25:=Tryz.underlying288
 a25:=Tryz.isAgg288
 z25:=Tryz.sizeOf288
 v25:=Tryz.zeroValue288 }
def Tryz.cloneEnt_ren:Go.Shelf.Ren:=⟨fun|41=>146|n=>n,fun|22=>163|23=>177|4=>4|n=>n,fun|n=>n⟩
theorem Tryz.cloneEnt:Go.Proofs.SlLaysE0.n41 Tryz.prog Tryz.cloneEnt_ren:={
 mixed:=by kernel_rfl
 f41:=⟨Tryz.f146.name,by decide,Tryz.func146.trans (congrArg some (by kernel_rfl))⟩
 t4:=Tryz.underlying4
 a4:=Tryz.isAgg4
 z4:=Tryz.sizeOf4
 v4:=Tryz.zeroValue4
 t22:=Tryz.underlying163
 a22:=Tryz.isAgg163
 z22:=Tryz.sizeOf163
 v22:=Tryz.zeroValue163 }
def Tryz.keysM_ren:Go.Shelf.Ren:=⟨fun|7=>127|10=>190|n=>n,fun|23=>204|26=>9|3=>3|28=>219|0=>0|27=>218|33=>281|4=>4|n=>n,fun|n=>n⟩
theorem Tryz.keysM:Go.Proofs.SlLaysZ.n7 Tryz.prog Tryz.keysM_ren:={
 mixed:=by kernel_rfl
 f7:=⟨Tryz.f127.name,by decide,Tryz.func127.trans (congrArg some (by kernel_rfl))⟩
 f10:=⟨Tryz.f190.name,by decide,Tryz.func190.trans (congrArg some (by kernel_rfl))⟩
 t0:=Tryz.underlying0
 a0:=Tryz.isAgg0
 z0:=Tryz.sizeOf0
 v0:=Tryz.zeroValue0
 t4:=Tryz.underlying4
 a4:=Tryz.isAgg4
 z4:=Tryz.sizeOf4
 v4:=Tryz.zeroValue4
 t23:=Tryz.underlying204
 a23:=Tryz.isAgg204
 z23:=Tryz.sizeOf204
 v23:=Tryz.zeroValue204
 t26:=Tryz.underlying9
 a26:=Tryz.isAgg9
 z26:=Tryz.sizeOf9
 v26:=Tryz.zeroValue9
 t27:=Tryz.underlying218
 a27:=Tryz.isAgg218
 z27:=Tryz.sizeOf218
 v27:=Tryz.zeroValue218
 t28:=Tryz.underlying219
 a28:=Tryz.isAgg219
 z28:=Tryz.sizeOf219
 v28:=Tryz.zeroValue219
 t33:=Tryz.underlying281
 a33:=Tryz.isAgg281
 z33:=Tryz.sizeOf281
 v33:=Tryz.zeroValue281 }
def Tryz.sortedM_ren:Go.Shelf.Ren:=⟨fun|6=>126|8=>188|9=>189|11=>242|13=>205|12=>243|23=>258|24=>259|14=>275|15=>276|16=>277|17=>278|18=>279|19=>280|20=>281|21=>282|22=>283|25=>292|26=>287|27=>288|28=>293|29=>294|30=>295|31=>297|n=>n,fun|26=>9|28=>219|24=>61|0=>0|3=>3|37=>297|48=>38|50=>32|4=>4|40=>339|39=>338|45=>343|5=>5|9=>9|51=>365|55=>368|57=>373|58=>308|33=>281|n=>n,fun|n=>n⟩
theorem Tryz.sortedM:Go.Proofs.SlLaysZ.n6 Tryz.prog Tryz.sortedM_ren:={
 mixed:=by kernel_rfl
 f6:=⟨Tryz.f126.name,by decide,Tryz.func126.trans (congrArg some (by kernel_rfl))⟩
 f8:=⟨Tryz.f188.name,by decide,Tryz.func188.trans (congrArg some (by kernel_rfl))⟩
 f11:=⟨Tryz.f242.name,by decide,Tryz.func242.trans (congrArg some (by kernel_rfl))⟩
 t0:=Tryz.underlying0
 a0:=Tryz.isAgg0
 z0:=Tryz.sizeOf0
 v0:=Tryz.zeroValue0
 t24:=Tryz.underlying61
 a24:=Tryz.isAgg61
 z24:=Tryz.sizeOf61
 v24:=Tryz.zeroValue61
 t26:=Tryz.underlying9
 a26:=Tryz.isAgg9
 z26:=Tryz.sizeOf9
 v26:=Tryz.zeroValue9
 t28:=Tryz.underlying219
 a28:=Tryz.isAgg219
 z28:=Tryz.sizeOf219
 v28:=Tryz.zeroValue219
 i26:=by kernel_rfl }
def Tryz.sortM_ren:Go.Shelf.Ren:=⟨fun|6=>189|8=>205|9=>243|19=>258|20=>259|21=>275|22=>276|23=>277|24=>278|25=>279|26=>280|27=>281|28=>282|29=>283|36=>292|31=>287|32=>288|37=>293|38=>294|39=>295|41=>297|n=>n,fun|27=>61|29=>9|3=>3|32=>297|26=>61|0=>0|44=>38|46=>32|4=>4|36=>339|35=>338|41=>343|5=>5|9=>9|53=>365|57=>368|63=>373|64=>308|n=>n,fun|n=>n⟩
theorem Tryz.sortM:Go.Proofs.SlLaysM.n6 Tryz.prog Tryz.sortM_ren:={
 mixed:=by kernel_rfl
 f6:=⟨Tryz.f189.name,by decide,Tryz.func189.trans (congrArg some (by kernel_rfl))⟩
 f8:=Tryz.func205.trans (congrArg some (by kernel_rfl))
 f9:=⟨Tryz.f243.name,by decide,Tryz.func243.trans (congrArg some (by kernel_rfl))⟩
 f19:=Tryz.func258.trans (congrArg some (by kernel_rfl))
 f20:=Tryz.func259.trans (congrArg some (by kernel_rfl))
 f21:=⟨Tryz.f275.name,by decide,Tryz.func275.trans (congrArg some (by kernel_rfl))⟩
 f22:=⟨Tryz.f276.name,by decide,Tryz.func276.trans (congrArg some (by kernel_rfl))⟩
 f23:=⟨Tryz.f277.name,by decide,Tryz.func277.trans (congrArg some (by kernel_rfl))⟩
 f24:=⟨Tryz.f278.name,by decide,Tryz.func278.trans (congrArg some (by kernel_rfl))⟩
 f25:=⟨Tryz.f279.name,by decide,Tryz.func279.trans (congrArg some (by kernel_rfl))⟩
 f26:=⟨Tryz.f280.name,by decide,Tryz.func280.trans (congrArg some (by kernel_rfl))⟩
 f27:=⟨Tryz.f281.name,by decide,Tryz.func281.trans (congrArg some (by kernel_rfl))⟩
 f28:=⟨Tryz.f282.name,by decide,Tryz.func282.trans (congrArg some (by kernel_rfl))⟩
 f29:=⟨Tryz.f283.name,by decide,Tryz.func283.trans (congrArg some (by kernel_rfl))⟩
 f31:=Tryz.func287.trans (congrArg some (by kernel_rfl))
 f32:=Tryz.func288.trans (congrArg some (by kernel_rfl))
 f36:=⟨Tryz.f292.name,by decide,Tryz.func292.trans (congrArg some (by kernel_rfl))⟩
 f37:=⟨Tryz.f293.name,by decide,Tryz.func293.trans (congrArg some (by kernel_rfl))⟩
 f38:=⟨Tryz.f294.name,by decide,Tryz.func294.trans (congrArg some (by kernel_rfl))⟩
 f39:=⟨Tryz.f295.name,by decide,Tryz.func295.trans (congrArg some (by kernel_rfl))⟩
 f41:=⟨Tryz.f297.name,by decide,Tryz.func297.trans (congrArg some (by kernel_rfl))⟩
 t0:=Tryz.underlying0
 a0:=Tryz.isAgg0
 z0:=Tryz.sizeOf0
 v0:=Tryz.zeroValue0
 t3:=Tryz.underlying3
 a3:=Tryz.isAgg3
 z3:=Tryz.sizeOf3
 v3:=Tryz.zeroValue3
 t4:=Tryz.underlying4
 a4:=Tryz.isAgg4
 z4:=Tryz.sizeOf4
 v4:=Tryz.zeroValue4
 t5:=Tryz.underlying5
 a5:=Tryz.isAgg5
 z5:=Tryz.sizeOf5
 v5:=Tryz.zeroValue5
 t9:=Tryz.underlying9
 a9:=Tryz.isAgg9
 z9:=Tryz.sizeOf9
 v9:=Tryz.zeroValue9
 t26:=Tryz.underlying61
 a26:=Tryz.isAgg61
 z26:=Tryz.sizeOf61
 v26:=Tryz.zeroValue61
 t27:=Tryz.underlying61
 a27:=Tryz.isAgg61
 z27:=Tryz.sizeOf61
 v27:=Tryz.zeroValue61
 t29:=Tryz.underlying9
 a29:=Tryz.isAgg9
 z29:=Tryz.sizeOf9
 v29:=Tryz.zeroValue9
 t32:=Tryz.underlying297
 a32:=Tryz.isAgg297
 z32:=Tryz.sizeOf297
 v32:=Tryz.zeroValue297
 t35:=Tryz.underlying338
 a35:=Tryz.isAgg338
 z35:=Tryz.sizeOf338
 v35:=Tryz.zeroValue338
 t36:=Tryz.underlying339
 a36:=Tryz.isAgg339
 z36:=Tryz.sizeOf339
 v36:=Tryz.zeroValue339
 t41:=Tryz.underlying343
 a41:=Tryz.isAgg343
 z41:=Tryz.sizeOf343
 v41:=Tryz.zeroValue343
 t44:=Tryz.underlying38
 a44:=Tryz.isAgg38
 z44:=Tryz.sizeOf38
 v44:=Tryz.zeroValue38
 t46:=Tryz.underlying32
 a46:=Tryz.isAgg32
 z46:=Tryz.sizeOf32
 v46:=Tryz.zeroValue32
 t53:=Tryz.underlying365
 a53:=Tryz.isAgg365
 z53:=Tryz.sizeOf365
 v53:=Tryz.zeroValue365
 t57:=Tryz.underlying368
 a57:=Tryz.isAgg368
 z57:=Tryz.sizeOf368
 v57:=Tryz.zeroValue368
 t63:=Tryz.underlying373
 a63:=Tryz.isAgg373
 z63:=Tryz.sizeOf373
 v63:=Tryz.zeroValue373
 t64:=Tryz.underlying308
 a64:=Tryz.isAgg308
 z64:=Tryz.sizeOf308
 v64:=Tryz.zeroValue308 }
end Go.Proofs
end
section
namespace Go.Proofs.YtepkfjmjidjedaaGreat.C
open Go.RowKit Go.Proofs.YtepkfjmjidjedaaGreatW.PrintWords Go.Proofs.YtepkfjmjidjedaaGreatW.PrintLast Go.Proofs.YtepkfjmjidjedaaGreatW.PrintMore
open Go.Sort
abbrev Ent:=S177
def cfE(x y:Ent):Int:=if x.f0<y.f0 then -1 else if y.f0<x.f0 then 1 else if x.f1<y.f1 then -1 else if y.f1<x.f1 then 1 else 0
def ci(a b:Int):Int:=if a<b then -1 else if b<a then 1 else 0
theorem Qnf(a b:Int):Qag.f a b=some (ci a b):=by
 unfold Qag.f Qaj.f ci;simp;split
 ·rfl
 ·split<;>rfl
theorem Qng(a b:Int):Qaf.f a b=some (ci a b):=by
 unfold Qaf.f Qai.f ci;simp;split
 ·rfl
 ·split<;>rfl
def orI(a b:Int):Int:=if a=0 then b else a
theorem or_is(a b:Int):Qah.f 4 [a,b]=some (orI a b):=by
 have r0:YtepkfjmjidjedaaGreatW.PrintWords.rd [a,b] 0=a:=rfl;have r1:YtepkfjmjidjedaaGreatW.PrintWords.rd [a,b] 1=b:=rfl;simp[Qah.f,Qah.l0,wrap64,r0,r1,orI];split
 ·split<;>simp_all
 ·rfl
theorem Qnh(x y:Ent):orI (ci x.f0 y.f0) (ci x.f1 y.f1)=cfE x y:=by
 unfold orI ci cfE
 by_cases h1:x.f0<y.f0
 ·simp[h1]
 ·by_cases h2:y.f0<x.f0<;>simp[h1,h2]
def Gr(w w':World):Prop:=∃q os,w'=grow (w.drewN q) os
theorem Gr.refl(w:World):Gr w w:=⟨0,#[],by simp;rfl⟩
theorem Gr.drewN{w w':World}(h:Gr w w')(n:Nat):Gr w (w'.drewN n):=by
 obtain⟨q,os,rfl⟩:=h;exact⟨q+n,os,by simp[grow,World.drewN,Nat.add_assoc]⟩
theorem Gr.drew{w w':World}(h:Gr w w'):Gr w w'.drew:=h.drewN 1
theorem Gr.alloc{w w':World}(h:Gr w w')(o:Obj):Gr w (w'.alloc o):=by
 obtain⟨q,os,rfl⟩:=h;exact⟨q,os++#[o],by rw[alloc_eq_grow,grow_grow]⟩
theorem Qni(a b:Int)(W:World):Calls Tryz.prog 74 #[.int .u64 a,.int .u64 b] W fun e w'=>e=.returned (.int .i64 (ci a b))∧Drawn0 W w':=Qag.calls a b _ W (Qnf a b)
theorem Qnj(a b:Int)(W:World):Calls Tryz.prog 207 #[.int .u32 a,.int .u32 b] W fun e w'=>e=.returned (.int .i64 (ci a b))∧Drawn0 W w':=Qaf.calls a b _ W (Qng a b)
theorem or_at(a b:Int)(W:World):Calls Tryz.prog 206 #[.slice (some ⟨W.heap.size,0,none⟩) 2 2] (W.alloc (.cells #[.int .i64 a,.int .i64 b] 3)) fun e w'=>e=.returned (.int .i64 (orI a b))∧Drawn0 (W.alloc (.cells #[.int .i64 a,.int .i64 b] 3)) w':=by
 have hC:Kd.C (Kd.int .i64) (W.alloc (.cells #[.int .i64 a,.int .i64 b] 3)) (some ⟨W.heap.size,0,none⟩) [a,b].length [a,b] :=
  Kd.C_of_reads (d:=(0:Int)) ⟨rfl,by simp,fun _=>⟨_,rfl,fun j hj=>by
   have hj':j<2:=hj;have hb:=Qdl (Qdz W (.cells #[.int .i64 a,.int .i64 b] 3)) j;rw[Qcs,hb];have:j=0∨j=1:=by omega
   rcases this with rfl|rfl<;>rfl⟩⟩
 exact Qah.calls 4 _ 2 [a,b] _ _ hC (by simp) (or_is a b)
theorem cmp_gr(x y:Ent)(w:World):Calls Tryz.prog 148 #[.agg #[.int .u64 x.f0,.int .u32 x.f1],.agg #[.int .u64 y.f0,.int .u32 y.f1]] w fun e w'=>e=.returned (.int .i64 (cfE x y))∧Gr w w':=by
 have hu:=Tryz.underlying177;have b1:=Qdz w (.cells #[.int .u64 x.f0,.int .u32 x.f1] 177);have b1':=Qdv b1 (.cells #[.int .u64 y.f0,.int .u32 y.f1] 177);have b2:=Qdz (w.alloc (.cells #[.int .u64 x.f0,.int .u32 x.f1] 177)) (.cells #[.int .u64 y.f0,.int .u32 y.f1] 177);have hg:Gr w ((w.alloc (.cells #[.int .u64 x.f0,.int .u32 x.f1] 177)).alloc (.cells #[.int .u64 y.f0,.int .u32 y.f1] 177)):=((Gr.refl w).alloc _).alloc _;rw[World.size_alloc]at b2;obtain⟨W,hW⟩:∃W,W=(w.alloc (.cells #[.int .u64 x.f0,.int .u32 x.f1] 177)).alloc (.cells #[.int .u64 y.f0,.int .u32 y.f1] 177):=⟨_,rfl⟩;rw[← hW]at b1' b2 hg;have c0:W.cell? ⟨w.heap.size,0,none⟩=some (.int .u64 x.f0):=(Qdl b1' 0).trans rfl;have c1:W.cell? ⟨w.heap.size,1,none⟩=some (.int .u32 x.f1):=(Qdl b1' 1).trans rfl;have c2:W.cell? ⟨w.heap.size+1,0,none⟩=some (.int .u64 y.f0):=(Qdl b2 0).trans rfl;have c3:W.cell? ⟨w.heap.size+1,1,none⟩=some (.int .u32 y.f1):=(Qdl b2 1).trans rfl;have HW:=QA hW;clear hW b1 b1' b2
 go_enter Tryz.func148,Tryz.ntmps148
 go_wp2_with fail
 rw[← HW.out]
 go_region_held3 (fun w'=>w'.cell? ⟨w.heap.size,0,none⟩=some (.int .u64 x.f0)∧w'.cell? ⟨w.heap.size,1,none⟩=some (.int .u32 x.f1)∧w'.cell? ⟨w.heap.size+1,0,none⟩=some (.int .u64 y.f0)∧w'.cell? ⟨w.heap.size+1,1,none⟩=some (.int .u32 y.f1)) (go_keep) (first
  |(go_at_call 74;refine(Qni _ _ _).mono ?_;rintro e w7 ⟨rfl,hd⟩;obtain⟨q1,rfl⟩:=hd.out;clear hd)
  |(go_at_call 207;refine(Qnj _ _ _).mono ?_;rintro e w7 ⟨rfl,hd⟩;obtain⟨q2,rfl⟩:=hd.out;clear hd)
  |(go_at_call 206;refine(or_at _ _ _).mono ?_;rintro e w7 ⟨rfl,hd⟩;obtain⟨q3,rfl⟩:=hd.out;clear hd))
 all_goals
  go_wp2;go_ret
  refine⟨by(rw[← Qnh];rfl),?_⟩
  repeat(first|exact hg|apply Gr.drewN|apply Gr.drew|apply Gr.alloc)
end Go.Proofs.YtepkfjmjidjedaaGreat.C
end
section
namespace Go.Proofs.YtepkfjmjidjedaaGreat.C
open Go.RowKit Go.Proofs.YtepkfjmjidjedaaGreatW.PrintWords Go.Proofs.YtepkfjmjidjedaaGreatW.PrintLast Go.Proofs.YtepkfjmjidjedaaGreatW.PrintMore
open Go.Shelf
attribute [local go_sem] Oper.semAt_some Qhj Qhk Qhl Qhm
def chN(n:Nat):Nat:=(n+15)/16
def chV(ad:Addr)(n k:Nat):Value:=.slice (some (ad.add (k*16*2))) (min 16 (n-k*16)) (min 16 (n-k*16))
theorem infoE:∃i,Tryz.prog.info? 177=some i∧i.size=2:=by
 obtain⟨i0,hi,hzz⟩:=Option.map_eq_some_iff.1 Qne;simp only[Prod.mk.injEq]at hzz;exact⟨i0,hi,hzz.2.1⟩
theorem Qnk{k m:Nat}(h:k≤m):List.range k <+: List.range m:=by
 refine⟨(List.range (m-k)).map (k+·),?_⟩;have:=@List.range_add k (m-k);rw[show k+(m-k)=m by omega]at this;exact this.symm
theorem Qnl(F:Fence)(n:Nat)(hf:F.fn 249)(hro:F.round=none)(hn:1≤n)(l Bs Bn n₀:Nat)(ad:Addr)(m c0:Nat)(w0:World)(hc:m≤c0)(hm:m≤1099511627776)(d:n₀=w0.heap.size)(Kp:World→World→Prop)(hKc:∀A B b,Kp A B→(b=Bs∨b=Bn)→B.cell? ⟨b,0,none⟩=A.cell? ⟨b,0,none⟩)(enc:Nat→Value)(henc:∀k,k<chN m→enc k=chV ad m k)(J Jx:List Nat→World→Prop)
  (hJd:∀pre W q,J pre W→J pre (W.drewN q)) (hY:∀pre x W,J pre W→pre.length<chN m→YieldAt F (n-1) Tryz.prog l #[enc x] W fun e W' =>
   (e=.returned (.bool true)∧J (pre++[x]) W'∧Kp W W')∨(e=.returned (.bool false)∧Jx (pre++[x]) W'))
  (W:World) (hBs0:w0.cell? ⟨Bs,0,none⟩=some (.slice (some ad) m c0)) (hBn0:w0.cell? ⟨Bn,0,none⟩=some (.int .i64 16)) (hw:Below n₀ w0 W) (h0:J [] W) :
  CallsIn F n Tryz.prog 249 #[.func (.yield l) #[] #[],.pointer (some ⟨Bs,0,none⟩),.pointer (some ⟨Bn,0,none⟩)] W fun e W'=>(∃v,e=.returned v) ∧
   ((∃ys,ys=List.range (chN m)∧J ys W')∨(∃pre,pre <+: List.range (chN m)∧Jx pre W')):=by
 have keep0:∀ {W:World} {a:Addr} {v:Value},Below n₀ w0 W→w0.cell? a=some v→W.cell? a=some v:=fun {W a v} hb h=>(hb.cell (by have:=World.block_lt_of_cell? w0 _ h;omega)).trans h
 have hBs:W.cell? ⟨Bs,0,none⟩=some (.slice (some ad) m c0):=keep0 hw hBs0;have hBn:W.cell? ⟨Bn,0,none⟩=some (.int .i64 16):=keep0 hw hBn0;refine callsIn_of_wp Tryz.func249 rfl hf ?_ hro;simp only[Tryz.ntmps249,List.size_toArray,List.length_cons,List.length_nil,Nat.reduceAdd,Nat.reduceSub,Array.replicate_succ,Array.replicate_zero,List.push_toArray,List.append_toArray,List.nil_append,List.cons_append]
 gi_wp2
 gi_loopw [4] (fun i wr=>∃(k:Nat) (iv:Int),k≤chN m∧i=.int .i64 iv∧Aside0 (iv=(k:Int)*16)∧J (List.range k) wr∧wr.cell? ⟨Bs,0,none⟩=some (.slice (some ad) m c0)∧wr.cell? ⟨Bn,0,none⟩=some (.int .i64 16))
  (fun i _=>((m:Int)+16-intOf i).toNat)
 case atStart=>exact⟨0,_,Nat.zero_le _,rfl,⟨by simp⟩,by simpa using h0,hBs,hBn⟩
 case round =>
  obtain⟨k,iv,hk,rfl,HI,hJs,hcs,hcn⟩:=hrel
  by_cases hlt:iv<(m:Int)
  ·have hkm:k*16<m:=by have:=HI.out;omega
   have hk2:k<chN m:=by unfold chN;omega
   have h0:0≤iv:=by have:=HI.out;omega
   have hb1:decide (iv<(m:Int))=true:=decide_eq_true hlt;have hivn:iv.toNat=k*16:=by have:=HI.out;omega
   obtain⟨A',n',c',hn',hhd⟩:∃(A':Option Addr) (n' c':Nat),n'=m-k*16∧∀W:World,(Instr.slice 163 (.slice (some ad) m c0) (some (.int .i64 iv)) none none).run Tryz.prog W=.ok (.slice A' n' c') W:=by
    obtain⟨i0,hi,hsz⟩:=infoE;have h:=Qej (P:=Tryz.prog) 163 177 .i64 Tryz.underlying163 hi 2 hsz (some ad) m c0 iv h0 (by omega);exact⟨_,_,_,by rw[hivn],h⟩
   obtain⟨e,he⟩:∃e:Int,e=((min 16 (m-k*16):Nat):Int):=⟨_,rfl⟩;have he0:0≤e:=by omega
   obtain⟨hi,hhi⟩:∃hi:Int,hi=iv+e:=⟨_,rfl⟩;have hch:∀W:World,(Instr.slice 163 (.slice (some ad) m c0) (some (.int .i64 iv)) (some (.int .i64 hi)) (some (.int .i64 hi))).run Tryz.prog W=.ok (chV ad m k) W:=by
    intro W;obtain⟨i0,hii,hsz⟩:=infoE;have hel:Tryz.prog.elem 163=177:=by simp[Program.elem,Tryz.underlying163]
    have hu:Tryz.prog.underlying 163=some (.slice (Tryz.prog.elem 163)):=by rw[hel];exact Tryz.underlying163
    rw[run_slice_lhm W 163 (some ad) m c0 hu .i64 .i64 .i64 iv hi hi h0 (by omega) (by omega) (by have:=HI.out;omega),hel];have hsz2:(hi.toNat-iv.toNat)=min 16 (m-k*16):=by omega
    have hne:¬hi.toNat-iv.toNat=0:=by omega
    simp[sizeOf,typeInfo,hii,hsz,sliced,Result.andThen,chV,hivn];omega
   have hwr:IntKind.i64.wrap (iv+e)=hi:=by rw[IntWalk.i64_in _ (by have:=HI.out;omega)];exact hhi.symm
   obtain⟨jv,hj⟩:∃jv:Int,jv=iv+16:=⟨_,rfl⟩;have hwn:IntKind.i64.wrap (iv+16)=jv:=by rw[IntWalk.i64_in _ (by have:=HI.out;omega)];exact hj.symm
   have hjm:jv≤(m:Int)+16:=by omega
   have hjp:iv<jv:=by omega
   have hmin:((n':Int)<16∧e=(n':Int))∨(¬(n':Int)<16∧e=16∧jv=hi):=by omega
   have HJ:=QA hj;have HE:=QA he;have HH:=QA hhi;have HN:=QA hn';have hlt2:iv+16≤(m:Int)+16:=by omega
   have HK:=QA hkm;have hlt2':=hlt2;clear he hhi hn' hivn hkm hj hlt2 hlt2'
   rcases hmin with⟨c,rfl⟩ |⟨c,rfl,rfl⟩
   all_goals
    gi_wp2
    refine wpIn_region_quiet_lit hro qq_6 qq_6 ?_
    repeat(gi_big_quiet_step (fail))
    refine wpQuietIn_nil ?_;intro _ hw';obtain⟨nq,hw''⟩:=hw';subst hw'';obtain⟨fn,tmps,assign,body,hy,hR⟩:=hY _ k (wr.drewN nq) (hJd _ _ _ hJs) (by rw[List.length_range];exact hk2);rw[henc k hk2]at hy
    gi_wp2
    refine hR.mono ?_;rintro e W3 (⟨rfl,hJ3,hk3⟩ |⟨rfl,hJx3⟩)
    ·have hcn3:W3.cell? ⟨Bn,0,none⟩=some (.int .i64 16):=(hKc _ _ _ hk3 (.inr rfl)).trans hcn;have hcs3:W3.cell? ⟨Bs,0,none⟩=some (.slice (some ad) m c0):=(hKc _ _ _ hk3 (.inl rfl)).trans hcs
     gi_wp2
     go_roundw
     case rel=>exact⟨k+1,_,hk2,rfl,⟨by have:=HI.out;have:=HJ.out;omega⟩,by rw[List.range_succ];exact hJ3,hcs3,hcn3⟩
     case measure=>simp[intOf];omega
    ·gi_wp2
     refine bodyPost_ret (results_none rfl _ _ _) rfl ?_;exact⟨⟨_,rfl⟩,.inr ⟨_,by have:=Qnk (k:=k+1) hk2;rw[List.range_succ]at this;exact this,hJx3⟩⟩
  ·have hkm:m≤k*16:=by have:=HI.out;omega
   have hk2:k=chN m:=by unfold chN at hk ⊢;omega
   have hb1:decide (iv<(m:Int))=false:=decide_eq_false hlt
   gi_wp2
   go_end0
   exact⟨⟨_,rfl⟩,.inl (by rw[← hk2];exact hJs)⟩
theorem Qnm(F:Fence)(n:Nat)(h5:F.fn 203)(hro:F.round=none)(a:Option Addr)(len cap:Nat)(w:World) :
  CallsIn F n Tryz.prog 203 #[.slice a len cap,.int .i64 16] w fun e w'=>e=.returned (.func (.func 249) #[] #[.pointer (some ⟨w.heap.size,0,none⟩),.pointer (some ⟨w.heap.size+1,0,none⟩)])∧w'=(w.alloc (.cells #[.slice a len cap] 163)).alloc (.cells #[.int .i64 16] 3):=by
 refine callsIn_of_wp Tryz.func203 rfl h5 ?_ hro;simp only[Tryz.ntmps203,List.size_toArray,List.length_cons,List.length_nil,Nat.reduceAdd,Nat.reduceSub,Array.replicate_succ,Array.replicate_zero,List.push_toArray,List.append_toArray,List.nil_append,List.cons_append]
 gi_wp2
 go_ret
 exact⟨rfl,rfl⟩
theorem Qnn{F:Fence}{n:Nat}{P:Program}{ops:Array Oper}{o:Oper}{a:Act}{Q:Exit→Act→World→Prop}{Kc:Act→World→Prop}{W w1:World}{v v1 v2:Value}{s x:Operand}{t:TypeId}
  (hw:Region.wanted o (yielded ops a.tmps)=true) (ho:o.op=.call { callee:=.builtin .append,args:=#[s,x],argTypes:=#[t,t] }) (hs:a.eval s=v) (hx:a.eval x=v2)
  (hrun:(Builtin.append_ #[t,t] o.type #[v,v2]).run P W=.ok v1 w1) (h:Kc (a.put o.dst v1) w1) :
  if Region.wanted o (yielded ops a.tmps)=true then Oper.wpIn F n P o a W Kc Q else(∀f,o.about P W a.eval=some f→F.fn f)∧Kc (a.put o.dst undef) W:=by
 rw[if_pos hw];unfold Oper.wpIn;refine⟨?_,?_⟩
 ·simp[Oper.about,ho,resolve,Target.leads,Sem.run_pure]
 ·rw[Oper.semAt_plain F _ _ (by rw[ho];intro c hc';cases hc')];simp[execOp,ho,resolve,invoke,builtin,hs,hx,hrun,Result.andThen];exact h
abbrev RU(W:World)(b:Nat)(v:Value)(l:List Int):Prop:=Kd.R (Kd.int .u64) 32 W b (fun _=>True) v l
def Qno(l:List Ent)(k:Nat):Int:=(Qih l ((k*16:Nat):Int)).f0
def Qnp(l:List Ent):List Int:=(List.range (chN l.length)).map (Qno l)
def Mid(lo hi:Nat)(A B:World):Prop:=A.heap.size≤B.heap.size∧∀k,lo≤k→k<hi→B.heap[k]? = A.heap[k]?
theorem Mid.trans{lo hi:Nat}{A B C:World}(h:Mid lo hi A B)(k:Mid lo hi B C):Mid lo hi A C:=⟨Nat.le_trans h.1 k.1,fun i h1 h2=>(k.2 i h1 h2).trans (h.2 i h1 h2)⟩
theorem Mid.cell{lo hi:Nat}{A B:World}(h:Mid lo hi A B){b:Nat}(h1:lo≤b)(h2:b<hi):B.cell? ⟨b,0,none⟩=A.cell? ⟨b,0,none⟩:=by simp[World.cell?,h.2 b h1 h2]
theorem Mid.put{lo hi:Nat}(W:World)(l:Nat)(o':Obj)(h:hi≤l):Mid lo hi W (W.putObj l o'):=by
 refine⟨by simp[World.putObj],fun k _ h2=>?_⟩;simp only[World.putObj];rw[Array.getElem?_setIfInBounds_ne (by omega)]
def Outs(l:List Ent)(g b:Nat)(pre:List Nat)(W:World):Prop:=∃v,W.heap[g]? = some (.cells #[v] 56 (0,0))∧RU W b v (pre.map (fun k=>Qno l (k%chN l.length)))
theorem Qnq(l:List Ent)(g b:Nat):Own (Outs l g b):=by
 intro s X Y row ⟨v,hv,hR⟩ hg hrow;refine⟨v,(hg.block g (Qdk hv) (fun e'=>?_)).trans hv,Kd.R_mono (Kd.R_grown (Kd.R_bound hR) hg (fun k hk e'=>?_)) (fun _ _=>trivial)⟩
 ·obtain⟨o,ho,hc⟩:=hrow g e'.symm;rw[hv]at ho;cases ho;cases hc
 ·obtain⟨o,ho,hc⟩:=hrow k e'.symm;obtain⟨q,_,cells,hk4⟩:=hk.2.2.2;rw[hk4]at ho;cases ho;cases hc
theorem ru_put{W:World}{b D:Nat}{v:Value}{xs:List Int}{o o':Obj}(h:RU W b v xs)(hD:W.heap[D]? = some o)(ho:o.isCells=false):RU (W.putObj D o') b v xs:=by
 refine Kd.R_mono (Kd.R_step (Kd.R_bound h) (fun k hk _=>?_)) (fun _ _=>trivial);obtain⟨q,_,cells,hk4⟩:=hk.2.2.2;have hne:D≠k:=by
  intro e;subst e;rw[hk4]at hD
  cases hD
  cases ho
 simp only[World.putObj];rw[Array.getElem?_setIfInBounds_ne hne]
theorem Qnr (F:Fence) (n:Nat) (h3:F.fn 145) (h4:F.fn 203) (h5:F.fn 249) (hro:F.round=none) (hn:3≤n) (ad:Addr) (c0 m:Nat) (l:List Ent) (w:World) (hmm:m=l.length) (hr0:Kd.C k177 w (some ad) m l) (hc:m≤c0) (hm:m≤1099511627776) :
  CallsIn F n Tryz.prog 145 #[.slice (some ad) m c0] w fun e w'=>(∃v,e=.returned v∧RU w' w.heap.size v (Qnp l))∧Below w.heap.size w w':=by
 have h1:1≤n:=by omega
 have hu:=Tryz.underlying177;have HMM:=QA hmm;clear hmm;refine callsIn_of_wp_marks Tryz.func145 rfl h3 ?_ hro;simp only[Tryz.ntmps145,List.size_toArray,List.length_cons,List.length_nil,Nat.reduceAdd,Nat.reduceSub,Array.replicate_succ,Array.replicate_zero,List.push_toArray,List.append_toArray,List.nil_append,List.cons_append]
 gi_wp2_with (gi_at_call 203;refine(Qnm F (n-1) h4 hro _ _ _ _).mono ?_;rintro e w' ⟨rfl,rfl⟩)
 have hB0:Below w.heap.size w (((w.alloc (.cells #[.slice none 0 0] 56)).alloc (.cells #[.slice (some ad) m c0] 163)).alloc (.cells #[.int .i64 16] 3)):=(((Below.refl _ w).alloc (Nat.le_refl _) _).alloc (by simp) _).alloc qq_26 _;have b0:=Qdv (Qdv (Qdz w (.cells #[.slice none 0 0] 56)) (.cells #[.slice (some ad) m c0] 163)) (.cells #[.int .i64 16] 3);have b1:=Qdv (Qdz (w.alloc (.cells #[.slice none 0 0] 56)) (.cells #[.slice (some ad) m c0] 163)) (.cells #[.int .i64 16] 3);have b2:=Qdz ((w.alloc (.cells #[.slice none 0 0] 56)).alloc (.cells #[.slice (some ad) m c0] 163)) (.cells #[.int .i64 16] 3);have hsz:(((w.alloc (.cells #[.slice none 0 0] 56)).alloc (.cells #[.slice (some ad) m c0] 163)).alloc (.cells #[.int .i64 16] 3)).heap.size=w.heap.size+3:=by simp
 simp only[World.size_alloc]at b1 b2;obtain⟨W0,hW0⟩:∃W0,((w.alloc (.cells #[.slice none 0 0] 56)).alloc (.cells #[.slice (some ad) m c0] 163)).alloc (.cells #[.int .i64 16] 3)=W0:=⟨_,rfl⟩;rw[hW0]at b0 b1 b2 hB0 hsz ⊢;clear hW0;have hRn:Outs l w.heap.size W0.heap.size [] W0:=⟨_,b0,Kd.R_nil _ _ _ _ _⟩;refine wpIn_rangeFunc_ownH hro h1 (gf:=249) (lb:=#[.pointer (some ⟨w.heap.size+1,0,none⟩),.pointer (some ⟨w.heap.size+1+1,0,none⟩)]) rfl h5 (enters_of Tryz.func249 qq_6 rfl)
  (encs:=fun x:Nat=>#[chV ad m (x%chN m)]) (Kp:=Mid (w.heap.size+1) W0.heap.size) (S:=fun ys=>ys=List.range (chN m)) (Sp:=fun pre=>pre <+: List.range (chN m)) (N:=chN m) (w0:=W0)
  (fun l J Jx W hW hJ _ hY h0=>Qnl F (n-1) h5 hro (by omega) l (w.heap.size+1) (w.heap.size+1+1) W0.heap.size ad m c0 W0 hc hm rfl (Mid (w.heap.size+1) W0.heap.size) (fun A B b h e=>by rcases e with rfl|rfl<;>exact Mid.cell h (by omega) (by omega)) _ (fun k hk=>by rw[Nat.mod_eq_of_lt hk]) J Jx (fun pre W q hp=>hJ pre W _ none hp ⟨rfl,rfl,rfl,Nat.le_refl _,fun _ _ _=>rfl⟩ (fun r e=>by cases e)) hY W ((Qdl b1 0).trans rfl) ((Qdl b2 0).trans rfl) hW h0)
  Mid.trans (fun W l o o' h1 _ _ _=>Mid.put W l o' h1) (Below.refl _ _) (fun _=>rfl)
  (fun pre W=>Outs l w.heap.size W0.heap.size pre W∧Below w.heap.size w W∧W0.heap.size≤W.heap.size)
  (fun c pre W=>False)
  (OwnFrom.and (Own.from (Qnq l w.heap.size W0.heap.size) _) (OwnFrom.and (ownFrom_below (by omega) (by omega)) (fun _ _ _ _ h hg _=>Nat.le_trans h hg.size)))
  (fun c=>fun _ _ _ _ h _ _=>h)
  ⟨hRn,hB0,Nat.le_refl _⟩
  (fun x a' W=>a'={ tmps:=#[.slice (some ad) m c0,undef,.slice none 0 0,.pointer (some ⟨w.heap.size,0,none⟩),chV ad m (x%chN m),.slice (some ad) m c0,.func (.func 249) #[] #[.pointer (some ⟨w.heap.size+1,0,none⟩),.pointer (some ⟨w.heap.size+1+1,0,none⟩)],chV ad m (x%chN m),undef,undef,undef,undef,undef,undef,undef,undef],defers:=[] })
  (fun x a'=>fun _ _ _ _ h _ _=>h) ?assign ?body ?done ?stop
 case assign =>
  rintro l' pre x W K ⟨hO,hB,hz⟩ hK
  gi_wp2
  exact hK _ _ ((KeepsOthers.refl _).from _) ⟨Nat.le_refl _,fun _ _ _=>rfl⟩ ⟨hO,hB,hz⟩ rfl
 case body =>
  rintro l' pre x a' W hl ⟨r,hr⟩ ⟨⟨v,hv,hR⟩,hB,hz⟩ rfl hlt;have hxl:x%chN m<chN m:=Nat.mod_lt _ (by omega);obtain⟨y,hy⟩:∃y,y=x%chN m:=⟨_,rfl⟩;rw[← hy]at hxl ⊢;have hym:y*16<m:=by unfold chN at hxl;omega
  have hcell:w.cell? (ad.add (y*16*2))=some (.int .u64 (Qno l y)):=by
   obtain⟨ad',e',x0,_⟩:=Qii hr0 ((y*16:Nat):Int) (by omega) (by omega)
   cases e'
   rw[Int.toNat_natCast]at x0;exact x0
  obtain⟨q,hq⟩:∃q,q=ad.add (y*16*2):=⟨_,rfl⟩;rw[← hq]at hcell;have hcell':W.cell? q=some (.int .u64 (Qno l y)):=(hB.cell (World.block_lt_of_cell? w _ hcell)).trans hcell;obtain⟨e,he⟩:∃e:Nat,e=min 16 (m-y*16):=⟨_,rfl⟩;have he0:(0:Int)<(e:Int):=by omega
  unfold chV;rw[← hq,← he];have j0:W.cell? ⟨w.heap.size,0,none⟩=some v:=(Qdl hv 0).trans rfl;have f0:=Qdm hv 0;obtain⟨A,c,rfl⟩:=Kd.R_slice hR;obtain⟨nn,hnn⟩:∃nn,nn=(pre.map (fun k=>Qno l (k%chN l.length))).length:=⟨_,rfl⟩;have hnl:nn=pre.length:=by rw[hnn,List.length_map]
  have hown:W.ownsRow W0.heap.size 32 1 (.slice A nn c) nn (encs (Value.int .u64) (pre.map (fun k=>Qno l (k%chN l.length)))):=by
   have h:=Kd.own_of_R hR;rw[← hnn]at h;exact h
  rw[← hnn]at hv hR j0;have HNN:=QA hnn;have HNL:=QA hnl;clear hnn;have hown1:(W.drew.alloc (.cells #[.int .u64 (Qno l y)] 32)).ownsRow W0.heap.size 32 1 (.slice A nn c) nn (encs (Value.int .u64) (pre.map (fun k=>Qno l (k%chN l.length)))):=Qev (Qfc hown) _;obtain⟨i0,hi,hzz⟩:=Option.map_eq_some_iff.1 info32;simp only[Prod.mk.injEq]at hzz;obtain⟨hz0,hz1,hz2⟩:=hzz;have hwsz:w.heap.size≤W.drew.heap.size:=hB.size;have hwsz0:W0.heap.size≤W.drew.heap.size:=hz;obtain⟨v1,w1,hrun,hown2,d,_,hat⟩:=run_append_own_at (P:=Tryz.prog) (W.drew.alloc (.cells #[.int .u64 (Qno l y)] 32)) W0.heap.size 56 56 32 i0 _ 1 8 Tryz.underlying56 hi hz0 hz1 hz2 rfl (by omega) (.slice A nn c) nn _ hown1 ⟨W.drew.heap.size,0,none⟩ 1 1 [.int .u64 (Qno l y)] rfl
   (by simpa using World.news_of_block (cs:=#[.int .u64 (Qno l y)]) (t:=32) (fr:=(0,0)) (heap_alloc_new W.drew (.cells #[.int .u64 (Qno l y)] 32))) (fun u hu=>by simp at hu;rw[hu];rfl) (by unfold maxLen;unfold chN at hlt;omega) (by unfold chN at hlt;omega) (by rw[World.size_alloc];omega)
  have HY:=QA hy;have HE:=QA he;have HQ:=QA hq;have HI:=QA hi;have j0b:∀o,(W.alloc o).cell? ⟨w.heap.size,0,none⟩=some (.slice A nn c):=fun o=>(Qdl (Qdv hv o) 0).trans rfl
  have j0a:∀o,(W.drew.alloc o).cell? ⟨w.heap.size,0,none⟩=some (.slice A nn c):=fun o=>(Qdl (Qdv (w:=W.drew) hv o) 0).trans rfl
  have he1:0<e:=by omega
  have hvd:=Qdv (w:=W.drew) hv (.cells #[.int .u64 (Qno l y)] 32);have hv1:=Qdn hvd d (Kd.R_ne hR hv (by decide));have hfw:=Qdm hv1 0;have hjw:w1.cell? ⟨w.heap.size,0,none⟩=some (.slice A nn c):=(Qdl hv1 0).trans rfl;have hR1:RU w1 W0.heap.size v1 ((pre++[x]).map (fun k=>Qno l (k%chN l.length))):=by
   have hlen:((pre++[x]).map (fun k=>Qno l (k%chN l.length))).length=nn+1:=by rw[List.length_map,List.length_append,HNL.out];rfl
   refine Kd.R_of_own ?_ (fun _ _=>trivial);rw[hlen,List.map_append,Qds];rw[hy,HMM.out]at hown2;exact hown2
  obtain⟨A1,c1,rfl⟩:=Kd.R_slice hR1;have hKo:KeepsOthers W w1:=(((KeepsOthers.drew W).trans (KeepsOthers.alloc _ _)).trans (KeepsOthers.of_grownBy d (fun j o e1 ho=>by
   obtain⟨cells,hcs⟩:=Kd.R_typed hR j e1;have h2:=Qdv (w:=W.drew) hcs (.cells #[.int .u64 (Qno l y)] 32);rw[h2]at ho
   cases ho
   rfl)))
  have hBw1:Below w.heap.size w w1:=(((hB.trans (Qco (Below.refl _ _))).alloc hwsz _)).grown d (by rw[World.size_alloc];omega) (fun k hk=>Nat.le_trans hB0.size (Kd.R_base hR k hk));have hMid:Mid (w.heap.size+1) W0.heap.size W w1:=by
   refine⟨Nat.le_trans (by rw[World.size_alloc];exact Nat.le_succ _) d.size,fun k h1 h2=>?_⟩;have h3:=d.block k (by rw[World.size_alloc];omega) (fun e'=>by have:=Kd.R_base hR k e'.symm;omega);rw[h3];exact Below.heap_alloc W.drew _ k (by omega)
  have hsc:∀u,(w1.setCell ⟨w.heap.size,0,none⟩ u).heap.size=w1.heap.size:=fun u=>by simp[World.setCell]
  have hzw:W0.heap.size≤w1.heap.size:=Nat.le_trans hz hMid.1;have a:=QA hR1;have HV1:=QA hv1;clear hR1 hv1 hvd;have hmo:Tryz.prog.follows .mixedOrders=true:=by kernel_rfl
  clear hnl hy he hq hi hz0 hz1 hz2 hown hown1
  gi_wp2_with fail
  refine wpIn_region_any hmo ?_
  change wpAnyIn _ _ _ _ _ _ _ _ _ (World.drew _)
  refine wpAnyIn_ready (rs:=[0,1]) qq_6 (by simp) ?_;refine AllReadyIn.cons rfl (fun K hK=>?_) ?_
  ·go_simp;refine hK _ _ ?_;clear hK K;refine wpAnyIn_ready (rs:=[1]) qq_6 (by simp) ?_;refine AllReadyIn.cons rfl (fun K hK=>?_) ?_
   ·go_simp;refine hK _ _ ?_;clear hK K;refine wpAnyIn_ready (rs:=[2]) qq_6 (by simp) ?_;refine AllReadyIn.cons rfl (fun K hK=>?_) ?_
    ·go_simp;refine hK _ _ ?_;clear hK K;refine wpAnyIn_ready (rs:=[3]) qq_6 (by simp) ?_;refine AllReadyIn.cons rfl (fun K hK=>?_) ?_
     ·go_simp;refine hK _ _ ?_;clear hK K;refine wpAnyIn_ready (rs:=[4]) qq_6 (by simp) ?_;refine AllReadyIn.cons rfl (fun K hK=>?_) ?_
      ·go_simp;refine hK _ _ ?_;clear hK K;refine wpAnyIn_ready (rs:=[5]) qq_6 (by simp) ?_;refine AllReadyIn.cons rfl (fun K hK=>?_) ?_
       ·go_simp;refine hK _ _ ?_;clear hK K;refine wpAnyIn_ready (rs:=[6]) qq_6 (by simp) ?_;refine AllReadyIn.cons rfl (fun K hK=>?_) AllReadyIn.nil;refine Qnn (s:=.tmp 8) (x:=.tmp 13) (t:=56) (by rfl) rfl rfl rfl hrun ?_;go_simp;refine hK _ _ ?_;clear hK K;refine wpAnyIn_ready (rs:=[7]) qq_6 (by simp) ?_;refine AllReadyIn.cons rfl (fun K hK=>?_) AllReadyIn.nil;go_simp;refine hK _ _ ?_;clear hK K;refine wpAnyIn_done qq_6 ?_ _;refine⟨(hKo.trans (KeepsOthers.setCell _ _ _)).from _,⟨by rw[hsc];exact hMid.1,fun k h1 h2=>?_⟩,⟨_,Qdi HV1.out 0 _,?_⟩,Qio hBw1 (Nat.le_refl _),by rw[hsc];exact hzw⟩
        ·rw[Below.heap_setCell _ _ _ k (by show k≠w.heap.size;omega)];exact hMid.2 k h1 h2
        ·have h:=Kd.R_set a.out HV1.out (by decide) 0 (.slice A1 (pre.length+1) c1);simp only[List.length_map,List.length_append,List.length_cons,List.length_nil,Nat.zero_add]at h;exact h
       exact AllReadyIn.nil
      exact AllReadyIn.nil
     exact AllReadyIn.nil
    exact AllReadyIn.nil
   exact AllReadyIn.nil
  refine AllReadyIn.cons rfl (fun K hK=>?_) ?_
  ·go_simp;refine hK _ _ ?_;clear hK K;refine wpAnyIn_ready (rs:=[0,2]) qq_6 (by simp) ?_;refine AllReadyIn.cons rfl (fun K hK=>?_) ?_
   ·go_simp;refine hK _ _ ?_;clear hK K;refine wpAnyIn_ready (rs:=[2]) qq_6 (by simp) ?_;refine AllReadyIn.cons rfl (fun K hK=>?_) ?_
    ·go_simp;refine hK _ _ ?_;clear hK K;refine wpAnyIn_ready (rs:=[3]) qq_6 (by simp) ?_;refine AllReadyIn.cons rfl (fun K hK=>?_) ?_
     ·go_simp;refine hK _ _ ?_;clear hK K;refine wpAnyIn_ready (rs:=[4]) qq_6 (by simp) ?_;refine AllReadyIn.cons rfl (fun K hK=>?_) ?_
      ·go_simp;refine hK _ _ ?_;clear hK K;refine wpAnyIn_ready (rs:=[5]) qq_6 (by simp) ?_;refine AllReadyIn.cons rfl (fun K hK=>?_) ?_
       ·go_simp;refine hK _ _ ?_;clear hK K;refine wpAnyIn_ready (rs:=[6]) qq_6 (by simp) ?_;refine AllReadyIn.cons rfl (fun K hK=>?_) AllReadyIn.nil;refine Qnn (s:=.tmp 8) (x:=.tmp 13) (t:=56) (by rfl) rfl rfl rfl hrun ?_;go_simp;refine hK _ _ ?_;clear hK K;refine wpAnyIn_ready (rs:=[7]) qq_6 (by simp) ?_;refine AllReadyIn.cons rfl (fun K hK=>?_) AllReadyIn.nil;go_simp;refine hK _ _ ?_;clear hK K;refine wpAnyIn_done qq_6 ?_ _;refine⟨(hKo.trans (KeepsOthers.setCell _ _ _)).from _,⟨by rw[hsc];exact hMid.1,fun k h1 h2=>?_⟩,⟨_,Qdi HV1.out 0 _,?_⟩,Qio hBw1 (Nat.le_refl _),by rw[hsc];exact hzw⟩
        ·rw[Below.heap_setCell _ _ _ k (by show k≠w.heap.size;omega)];exact hMid.2 k h1 h2
        ·have h:=Kd.R_set a.out HV1.out (by decide) 0 (.slice A1 (pre.length+1) c1);simp only[List.length_map,List.length_append,List.length_cons,List.length_nil,Nat.zero_add]at h;exact h
       exact AllReadyIn.nil
      exact AllReadyIn.nil
     exact AllReadyIn.nil
    exact AllReadyIn.nil
   refine AllReadyIn.cons rfl (fun K hK=>?_) ?_
   ·go_simp;refine hK _ _ ?_;clear hK K;refine wpAnyIn_ready (rs:=[0,3]) qq_6 (by simp) ?_;refine AllReadyIn.cons rfl (fun K hK=>?_) ?_
    ·go_simp;refine hK _ _ ?_;clear hK K;refine wpAnyIn_ready (rs:=[3]) qq_6 (by simp) ?_;refine AllReadyIn.cons rfl (fun K hK=>?_) ?_
     ·go_simp;refine hK _ _ ?_;clear hK K;refine wpAnyIn_ready (rs:=[4]) qq_6 (by simp) ?_;refine AllReadyIn.cons rfl (fun K hK=>?_) ?_
      ·go_simp;refine hK _ _ ?_;clear hK K;refine wpAnyIn_ready (rs:=[5]) qq_6 (by simp) ?_;refine AllReadyIn.cons rfl (fun K hK=>?_) ?_
       ·go_simp;refine hK _ _ ?_;clear hK K;refine wpAnyIn_ready (rs:=[6]) qq_6 (by simp) ?_;refine AllReadyIn.cons rfl (fun K hK=>?_) AllReadyIn.nil;refine Qnn (s:=.tmp 8) (x:=.tmp 13) (t:=56) (by rfl) rfl rfl rfl hrun ?_;go_simp;refine hK _ _ ?_;clear hK K;refine wpAnyIn_ready (rs:=[7]) qq_6 (by simp) ?_;refine AllReadyIn.cons rfl (fun K hK=>?_) AllReadyIn.nil;go_simp;refine hK _ _ ?_;clear hK K;refine wpAnyIn_done qq_6 ?_ _;refine⟨(hKo.trans (KeepsOthers.setCell _ _ _)).from _,⟨by rw[hsc];exact hMid.1,fun k h1 h2=>?_⟩,⟨_,Qdi HV1.out 0 _,?_⟩,Qio hBw1 (Nat.le_refl _),by rw[hsc];exact hzw⟩
        ·rw[Below.heap_setCell _ _ _ k (by show k≠w.heap.size;omega)];exact hMid.2 k h1 h2
        ·have h:=Kd.R_set a.out HV1.out (by decide) 0 (.slice A1 (pre.length+1) c1);simp only[List.length_map,List.length_append,List.length_cons,List.length_nil,Nat.zero_add]at h;exact h
       exact AllReadyIn.nil
      exact AllReadyIn.nil
     exact AllReadyIn.nil
    refine AllReadyIn.cons rfl (fun K hK=>?_) ?_
    ·go_simp;refine hK _ _ ?_;clear hK K;refine wpAnyIn_ready (rs:=[0,4]) qq_6 (by simp) ?_;refine AllReadyIn.cons rfl (fun K hK=>?_) ?_
     ·go_simp;refine hK _ _ ?_;clear hK K;refine wpAnyIn_ready (rs:=[4]) qq_6 (by simp) ?_;refine AllReadyIn.cons rfl (fun K hK=>?_) ?_
      ·go_simp;refine hK _ _ ?_;clear hK K;refine wpAnyIn_ready (rs:=[5]) qq_6 (by simp) ?_;refine AllReadyIn.cons rfl (fun K hK=>?_) ?_
       ·go_simp;refine hK _ _ ?_;clear hK K;refine wpAnyIn_ready (rs:=[6]) qq_6 (by simp) ?_;refine AllReadyIn.cons rfl (fun K hK=>?_) AllReadyIn.nil;refine Qnn (s:=.tmp 8) (x:=.tmp 13) (t:=56) (by rfl) rfl rfl rfl hrun ?_;go_simp;refine hK _ _ ?_;clear hK K;refine wpAnyIn_ready (rs:=[7]) qq_6 (by simp) ?_;refine AllReadyIn.cons rfl (fun K hK=>?_) AllReadyIn.nil;go_simp;refine hK _ _ ?_;clear hK K;refine wpAnyIn_done qq_6 ?_ _;refine⟨(hKo.trans (KeepsOthers.setCell _ _ _)).from _,⟨by rw[hsc];exact hMid.1,fun k h1 h2=>?_⟩,⟨_,Qdi HV1.out 0 _,?_⟩,Qio hBw1 (Nat.le_refl _),by rw[hsc];exact hzw⟩
        ·rw[Below.heap_setCell _ _ _ k (by show k≠w.heap.size;omega)];exact hMid.2 k h1 h2
        ·have h:=Kd.R_set a.out HV1.out (by decide) 0 (.slice A1 (pre.length+1) c1);simp only[List.length_map,List.length_append,List.length_cons,List.length_nil,Nat.zero_add]at h;exact h
       exact AllReadyIn.nil
      exact AllReadyIn.nil
     refine AllReadyIn.cons rfl (fun K hK=>?_) ?_
     ·go_simp;refine hK _ _ ?_;clear hK K;refine wpAnyIn_ready (rs:=[0,5]) qq_6 (by simp) ?_;refine AllReadyIn.cons rfl (fun K hK=>?_) ?_
      ·go_simp;refine hK _ _ ?_;clear hK K;refine wpAnyIn_ready (rs:=[5]) qq_6 (by simp) ?_;refine AllReadyIn.cons rfl (fun K hK=>?_) ?_
       ·go_simp;refine hK _ _ ?_;clear hK K;refine wpAnyIn_ready (rs:=[6]) qq_6 (by simp) ?_;refine AllReadyIn.cons rfl (fun K hK=>?_) AllReadyIn.nil;refine Qnn (s:=.tmp 8) (x:=.tmp 13) (t:=56) (by rfl) rfl rfl rfl hrun ?_;go_simp;refine hK _ _ ?_;clear hK K;refine wpAnyIn_ready (rs:=[7]) qq_6 (by simp) ?_;refine AllReadyIn.cons rfl (fun K hK=>?_) AllReadyIn.nil;go_simp;refine hK _ _ ?_;clear hK K;refine wpAnyIn_done qq_6 ?_ _;refine⟨(hKo.trans (KeepsOthers.setCell _ _ _)).from _,⟨by rw[hsc];exact hMid.1,fun k h1 h2=>?_⟩,⟨_,Qdi HV1.out 0 _,?_⟩,Qio hBw1 (Nat.le_refl _),by rw[hsc];exact hzw⟩
        ·rw[Below.heap_setCell _ _ _ k (by show k≠w.heap.size;omega)];exact hMid.2 k h1 h2
        ·have h:=Kd.R_set a.out HV1.out (by decide) 0 (.slice A1 (pre.length+1) c1);simp only[List.length_map,List.length_append,List.length_cons,List.length_nil,Nat.zero_add]at h;exact h
       exact AllReadyIn.nil
      refine AllReadyIn.cons rfl (fun K hK=>?_) ?_
      ·go_simp;refine hK _ _ ?_;clear hK K;refine wpAnyIn_ready (rs:=[0]) qq_6 (by simp) ?_;refine AllReadyIn.cons rfl (fun K hK=>?_) ?_
       ·go_simp;refine hK _ _ ?_;clear hK K;refine wpAnyIn_ready (rs:=[6]) qq_6 (by simp) ?_;refine AllReadyIn.cons rfl (fun K hK=>?_) AllReadyIn.nil;refine Qnn (s:=.tmp 8) (x:=.tmp 13) (t:=56) (by rfl) rfl rfl rfl hrun ?_;go_simp;refine hK _ _ ?_;clear hK K;refine wpAnyIn_ready (rs:=[7]) qq_6 (by simp) ?_;refine AllReadyIn.cons rfl (fun K hK=>?_) AllReadyIn.nil;go_simp;refine hK _ _ ?_;clear hK K;refine wpAnyIn_done qq_6 ?_ _;refine⟨(hKo.trans (KeepsOthers.setCell _ _ _)).from _,⟨by rw[hsc];exact hMid.1,fun k h1 h2=>?_⟩,⟨_,Qdi HV1.out 0 _,?_⟩,Qio hBw1 (Nat.le_refl _),by rw[hsc];exact hzw⟩
        ·rw[Below.heap_setCell _ _ _ k (by show k≠w.heap.size;omega)];exact hMid.2 k h1 h2
        ·have h:=Kd.R_set a.out HV1.out (by decide) 0 (.slice A1 (pre.length+1) c1);simp only[List.length_map,List.length_append,List.length_cons,List.length_nil,Nat.zero_add]at h;exact h
       exact AllReadyIn.nil
      exact AllReadyIn.nil
     exact AllReadyIn.nil
    exact AllReadyIn.nil
   exact AllReadyIn.nil
  exact AllReadyIn.nil
 case done =>
  rintro D ys W hD rfl ⟨⟨v,hv,hR⟩,hB,hz⟩ hK;obtain⟨A,c,rfl⟩:=Kd.R_slice hR;have j0:W.cell? ⟨w.heap.size,0,none⟩=_:=(Qdl hv 0).trans rfl
  gi_wp2
  refine⟨by simp,.inl ⟨_,_,rfl,run_takeDeferred hK,?_⟩⟩;have hlen:(List.map (fun k=>Qno l (k%chN l.length)) (List.range (chN m))).length=chN m:=by simp
  rw[hlen]at hR;have hfl:List.map (fun k=>Qno l (k%chN l.length)) (List.range (chN m))=Qnp l:=by
   rw[HMM.out];unfold Qnp;apply List.map_congr_left;intro k hk;rw[Nat.mod_eq_of_lt (List.mem_range.1 hk)]
  rw[hfl]at hR;refine⟨.slice A (chN m) c,by simp[results,Tryz.f145,go_sem],⟨_,rfl,?_⟩,hB.trans (belowK_b (w:=w) (Nat.le_refl _) _ D _ _ (by omega) hK rfl rfl)⟩;refine Kd.R_lower (ru_put hR hK rfl) hB0.size
 case stop =>
  rintro D c pre W hD hpre hf;exact hf.elim
theorem Qns(ad:Addr)(c0 m:Nat)(l:List Ent)(w:World)(hmm:m=l.length)(hr0:Kd.C k177 w (some ad) m l)(hc:m≤c0)(hm:m≤1099511627776) :
  Calls Tryz.prog 145 #[.slice (some ad) m c0] w fun e w'=>(∃v,e=.returned v∧RU w' w.heap.size v (Qnp l))∧Below w.heap.size w w' :=
 (callsIn_wide (n:=3)).1 (Qnr Fence.wide 3 trivial trivial trivial rfl (by omega) ad c0 m l w hmm hr0 hc hm)
end Go.Proofs.YtepkfjmjidjedaaGreat.C
end
section
namespace Go.Proofs.YtepkfjmjidjedaaGreat.C
open Go.RowKit Go.Proofs.YtepkfjmjidjedaaGreatW.PrintWords Go.Proofs.YtepkfjmjidjedaaGreatW.PrintLast Go.Proofs.YtepkfjmjidjedaaGreatW.PrintMore
attribute [local go_sem] Qhj Qhk Qhl Qhm
theorem IsCur.blk{W W':World}{b g:Nat}{bs:List Int}{i:Int}(h:IsCur W b g bs i)(hm:∀(k:Nat) (cs:Array Value) (t:TypeId),W.heap[k]? = some (.cells cs t (0,0))→(t=5∨t=315)→W'.heap[k]? = W.heap[k]?):IsCur W' b g bs i:=by
 obtain⟨v,hv,hR⟩:=h;refine⟨v,(hm _ _ _ hv (.inr rfl)).trans hv,?_⟩;refine Kd.R_mono (Kd.R_step (Kd.R_bound hR) (fun k hk _=>?_)) (fun _ _=>trivial);obtain⟨_,_,_,qq,hq,cells,hc⟩:=hk;exact hm k _ _ hc (by revert hq;revert qq;intro qq hc hq;rcases List.mem_cons.1 hq with rfl|hq;exact .inl rfl;cases hq)
theorem IsCur.grown{α:Type}{d:Kd α}{q base:Nat}{v:Value}{xs:List α}{ok:Nat→Prop}{W W':World}{b g:Nat}{bs:List Int}{i:Int}(h:IsCur W b g bs i)(hR:d.R q W base ok v xs)(hq:q≠5∧q≠315)(hg:W.grownBy W' v.ownBlock):IsCur W' b g bs i :=
 h.blk (fun k cs t hc ht=>(Qdn hc hg (Kd.R_ne hR hc (by rcases ht with rfl|rfl;exact hq.1;exact hq.2))).trans hc.symm)
theorem Qnt(b g:Nat)(bs:List Int)(i x:Int)(hx:x=CodecP.leI ((bs.drop i.toNat).take 4))(hb:CodecP.Bytes bs)(hi:0≤i)(hl:bs.length≤140737488355328)(hs:i+4≤(bs.length:Int))(hbg:b≤g)(w:World)(hbw:b≤w.heap.size)(hI:IsCur w b g bs i) :
  Calls Tryz.prog 221 #[.pointer (some ⟨g,0,none⟩)] w fun e w'=>e=.returned (.int .u32 x)∧IsCur w' b g bs (i+4)∧Bw b g w w'∧K8 w w':=by
 have HI:=QA hI;have hlen:((bs.drop i.toNat).take 4).length=4:=by rw[List.length_take,List.length_drop];omega
 have hr:=CodecP.leI_range ((hb.drop i.toNat).take 4);have HK:=QA (CodecP.num_key ((bs.drop i.toNat).take 4) ((hb.drop _).take _) (by omega));rw[hlen,← hx]at hr;have hw:IntKind.u32.wrap x=x:=IntWalk.u32_in _ (by have:=hr.2;omega);rw[← hx]at HK;have HL:Aside0 (((bs.drop i.toNat).take 4).length≤8):=⟨by omega⟩;clear hI hlen hr hx hb
 go_enter Tryz.func221,Tryz.ntmps221
 go_wp2_with (go_at_call 273;refine(Qlh _ b g bs _ i 4 x rfl (by decide) hi hl hs hbg HL.out HK.out _ hbw HI.out).mono ?_;rintro ee w1 ⟨rfl,hI1,hB1,hK1⟩)
 go_ret
 exact⟨rfl,hI1,hB1,hK1⟩
theorem Qnu(b g:Nat)(bs:List Int)(i x:Int)(hx:x=CodecP.leI ((bs.drop i.toNat).take 4))(hb:CodecP.Bytes bs)(hi:0≤i)(hl:bs.length≤140737488355328)(hs:i+4≤(bs.length:Int))(hbg:b≤g)(w:World)(hbw:b≤w.heap.size)(hI:IsCur w b g bs i) :
  Calls Tryz.prog 221 #[.pointer (some ⟨g,0,none⟩)] w fun e w'=>e=.returned (.int .u32 x)∧IsCur w' b g bs (i+4)∧Bw b g w w':=(Qnt b g bs i x hx hb hi hl hs hbg w hbw hI).mono (by rintro e w' ⟨h1,h2,h3,_⟩;exact⟨h1,h2,h3⟩)
end Go.Proofs.YtepkfjmjidjedaaGreat.C
end
