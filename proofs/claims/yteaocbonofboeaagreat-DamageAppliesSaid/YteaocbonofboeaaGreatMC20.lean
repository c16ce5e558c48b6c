/- Merged texts. -/
import Derived.Test.YteaocbonofboeaaGreatMC02
import Derived.WalkLawsBesides
import Derived.Recover
import Derived.Defers
import Derived.Test.YteaocbonofboeaaGreatMC13
import Derived.Test.YteaocbonofboeaaGreatMC07
import Derived.Test.YteaocbonofboeaaGreatMC09
import Derived.Test.YteaocbonofboeaaGreatMC18
import Derived.Test.YteaocbonofboeaaGreatMC10
import Derived.Test.YteaocbonofboeaaGreatMC19
import Derived.Test.YteaocbonofboeaaGreatMC12
import Derived.Test.YteaocbonofboeaaGreatMC17
import Derived.Deep.RegionLaw
import Derived.Shelf.SlSortCmp.NoneTotal
import Derived.Shelf.SlicesQ.IndexFunc
import Derived.Shelf.SlicesE.Clone
import Derived.Ground.SlsfProg
import Derived.Ground.SlgfProg
import Derived.Ground.SlgnProg
import Derived.Shelf.SlGeneric
import Derived.Test.YteaocbonofboeaaGreatProg
import Derived.Test.YteaocbonofboeaaGreatMC03
set_option linter.unusedVariables false
set_option linter.unusedSimpArgs false
set_option maxHeartbeats 8000000
set_option maxRecDepth 100000
section
namespace Go.Proofs.YteaocbonofboeaaGreat.C
open Go.RowKit Go.Proofs.YteaocbonofboeaaGreatW.PrintWords Go.Proofs.YteaocbonofboeaaGreatW.PrintLast Go.Proofs.YteaocbonofboeaaGreatW.PrintMore
noncomputable def Qch.f(l0:List Int):Option (Bool × Int × ByteArray × ByteArray × Int) :=
 @ite _ (CodecP.Bytes l0∧l0.length≤140737488355328) (Classical.propDecidable _) (match recL l0 with
  | .ok ((d,q,a,b),_)=>some (d,q,a,b,0)
  | .error (er,_)=>some (false,0,(⟨#[]⟩:ByteArray),(⟨#[]⟩:ByteArray),er)) none
theorem Qpp(bs:List Int):∀(f:Nat) (j i x:Int) (er i1:Int),Qpa bs f j i x=.error (er,i1)→er≠0
 | 0,_,_,_,_,_=>fun h=>by cases h
 | f+1,j,i,x,er,i1=>fun h=>by
  unfold Qpa at h
  repeat' split at h
  all_goals first |(cases h;decide)|exact Qpp bs f _ _ _ _ _ h|cases h
theorem Qpq{bs:List Int}{least most i er i1:Int}(h:Qpd bs least most i=.error (er,i1)):er≠0:=by
 unfold Qpd at h
 cases hv:Qpa bs 10 0 i 0 with
 | error p=>rw[hv]at h;cases h;exact Qpp bs 10 0 i 0 er i1 hv
 | ok p =>
  rw[hv]at h;dsimp only at h
  repeat' split at h
  all_goals first |(cases h;decide)|cases h
theorem Qpr{bs:List Int}{er i:Int}(h:recL bs=.error (er,i)):er≠0:=by
 unfold recL at h;split at h
 ·split at h
  ·cases h;decide
  ·cases hv:Qpa bs 10 0 (0+1) 0 with
   | error p=>rw[hv]at h;cases h;exact Qpp bs 10 0 _ 0 er i hv
   | ok p =>
    rw[hv]at h;dsimp only at h
    cases ht:Qpd bs 1 4096 p.2 with
    | error p=>rw[ht]at h;cases h;exact Qpq ht
    | ok p2 =>
     rw[ht]at h;dsimp only at h;split at h
     ·split at h
      ·cases h;decide
      ·cases h
     ·cases hu:Qpd bs 0 1048576 p2.2 with
      | error p=>rw[hu]at h;cases h;exact Qpq hu
      | ok p3 =>
       rw[hu]at h;dsimp only at h;split at h
       ·cases h;decide
       ·cases h
 ·cases h;decide
theorem Qps(as_:Array Value)(W:World):(callFunc 172 as_).run Tryz.prog W=.ok (.enter 172 as_) W:=by
 simp[callFunc,Tryz.func172,Tryz.f172]
theorem Qpt{W:World}{rb lo g:Nat}{bs:List Int}(hI:IsCur W lo g bs 0)(hk:W.heap[rb]? = some (.cells #[.bool false,.int .u64 0,.string (⟨#[]⟩:ByteArray),.string (⟨#[]⟩:ByteArray)] 37 (0,0)))(hlt:rb<lo)(hg:lo≤g):RS W W rb lo g bs 0 false 0 (⟨#[]⟩:ByteArray) (⟨#[]⟩:ByteArray) :=
 ⟨hI,hk,Below.refl _ _,fun k cs t _ h _ _=>h,Nat.le_of_lt (Nat.lt_of_le_of_lt hg hI.lt),hlt⟩
theorem rec_run(A0:Option Addr)(c0:Nat)(l0:List Int)(rb:Nat)(w:World)(hb:CodecP.Bytes l0)(hl:l0.length≤140737488355328)(hr0:Kd.C (Kd.int .u8) w A0 l0.length l0)
  (hk:w.heap[rb]? = some (.cells #[.bool false,.int .u64 0,.string (⟨#[]⟩:ByteArray),.string (⟨#[]⟩:ByteArray)] 37 (0,0))) :
  Calls Tryz.prog 169 #[.slice A0 l0.length c0,.func (.func 172) #[] #[.pointer (some ⟨rb,0,none⟩)]] w fun e w'=>∃er i,e=.returned (.tuple #[.int .i64 i,.int .i64 er])∧Below rb w w' ∧
   match recL l0 with
   | .ok ((d,q,a,b),_)=>er=0∧w'.heap[rb]? = some (.cells #[.bool d,.int .u64 q,.string a,.string b] 37 (0,0))
   | .error (e0,_)=>er=e0∧∃cs,w'.heap[rb]? = some (.cells cs 37 (0,0)):=by
 have hlt:=Qdn hk;refine Qot 172 #[.pointer (some ⟨rb,0,none⟩)] A0 c0 l0 w hr0 hl Qps (fun er _ W'=>Below rb w W' ∧
   match recL l0 with
   | .ok ((d,q,a,b),_)=>er=0∧W'.heap[rb]? = some (.cells #[.bool d,.int .u64 q,.string a,.string b] 37 (0,0))
   | .error (e0,_)=>er=e0∧∃cs,W'.heap[rb]? = some (.cells cs 37 (0,0))) ?_ ?_
 ·rintro er i W W' ⟨h1,h2⟩ h3;refine⟨h1.trans (Qjl h3 (Nat.le_of_lt hlt)),?_⟩
  cases hrec:recL l0 with
  | ok p =>
   obtain⟨⟨d,q,a,b⟩,j⟩:=p;rw[hrec]at h2;exact⟨h2.1,(h3.block rb hlt).trans h2.2⟩
  | error p =>
   rw[hrec]at h2;obtain⟨h4,cs,h5⟩:=h2;exact⟨h4,cs,(h3.block rb hlt).trans h5⟩
 ·intro W g hg hB hI;have hk2:=(hB.block rb hlt).trans hk;refine(rec_all rb w.heap.size g l0 hb hl hg W (Qpt hI hk2 hlt hg)).mono ?_;intro e W' h;have hB2:Below rb w W:=Qjl hB (Nat.le_of_lt hlt)
  cases hrec:recL l0 with
  | ok p =>
   obtain⟨⟨d,q,a,b⟩,j⟩:=p;rw[hrec]at h;obtain⟨h1,h2⟩:=h;exact⟨j,h2.1,h2.2.2.2.1,.inl ⟨h1,hB2.trans h2.2.2.1,rfl,h2.2.1⟩⟩
  | error p =>
   obtain⟨e0,j⟩:=p;rw[hrec]at h;obtain⟨h1,d,q,a,b,h2⟩:=h;exact⟨j,h2.1,h2.2.2.2.1,.inr ⟨e0,h1,hB2.trans h2.2.2.1,rfl,_,h2.2.1⟩⟩
theorem Qch.calls(A0:Option Addr)(c0:Nat)(l0:List Int)(r1:Bool)(r2:Int)(r3 r4:ByteArray)(r5:Int)(w:World)(hr0:Kd.C (Kd.int .u8) w A0 l0.length l0)(hc0:l0.length≤c0)(h:Qch.f l0=some (r1,r2,r3,r4,r5)) :
  Calls Tryz.prog 121 #[.slice A0 l0.length c0] w fun e w'=>e=.returned (.tuple #[.agg #[.bool r1,.int .u64 r2,.string r3,.string r4],.int .i64 r5])∧Below w.heap.size w w':=by
 unfold Qch.f at h
 by_cases hg:CodecP.Bytes l0∧l0.length≤140737488355328
 ·rw[if_pos hg]at h;have hu:=Tryz.underlying37;have HG:=QA hg;have c:=QA hr0;obtain⟨z0,hz0⟩:∃z:Obj,z=.cells #[.bool false,.int .u64 0,.string (⟨#[]⟩:ByteArray),.string (⟨#[]⟩:ByteArray)] 37 (0,0):=⟨_,rfl⟩;have b0:Below w.heap.size w ((w.alloc z0).alloc z0):=Qcp (Qcp (Below.refl _ _) _) _;have hsz:((w.alloc z0).alloc z0).heap.size=w.heap.size+2:=by simp[World.size_alloc]
  have k1:=Qea (Qee w z0) z0;have k2:=Qee (w.alloc z0) z0;rw[World.size_alloc]at k2;subst hz0;have RUN:=QA (rec_run A0 c0 l0 (w.heap.size+1) _ hg.1 hg.2 (Kd.C_below hr0 b0) k2);have B0:=QA b0;have K1:=QA k1;clear hg hr0 b0 k1 k2 hsz
  cases hrec:recL l0 with
  | ok p =>
   obtain⟨⟨d,q,a,b⟩,i0⟩:=p;rw[hrec]at h;simp only[Option.some.injEq,Prod.mk.injEq]at h;obtain⟨rfl,rfl,rfl,rfl,rfl⟩:=h;rw[hrec]at RUN;clear hrec
   go_enter Tryz.func121,Tryz.ntmps121
   go_wp2_with (go_at_call 169;refine RUN.out.mono ?_;rintro ee w3 ⟨er,i,rfl,hb3,rfl,hk3⟩;have hr3:=(hb3.block w.heap.size (Nat.lt_succ_self _)).trans K1.out;obtain⟨d0,d1,d2,d3⟩:=box4 hk3;obtain⟨e0,e1,e2,e3⟩:=box4 hr3;have g0:=Qdp hr3 0;have g1:=Qdp hr3 1;have g2:=Qdp hr3 2;have g3:=Qdp hr3 3)
   have hbb:Below w.heap.size w w3:=B0.out.trans (Qjl hb3 (Nat.le_succ _));refine bodyPost_ret (Qef rfl _ _ w.heap.size 37 #[.bool d,.int .u64 q,.string a,.string b] (0,0) _ rfl (Qdl (Qdl (Qdl (Qdl hr3 0 _) 1 _) 2 _) 3 _) hu rfl qq_2) rfl ?_;exact⟨rfl,Qjk (Qjk (Qjk (Qjk hbb (Nat.le_refl _)) (Nat.le_refl _)) (Nat.le_refl _)) (Nat.le_refl _)⟩
  | error p =>
   obtain⟨y0,i0⟩:=p;rw[hrec]at h;simp only[Option.some.injEq,Prod.mk.injEq]at h;obtain⟨rfl,rfl,rfl,rfl,rfl⟩:=h;have hne:(y0 != 0)=true:=bne_iff_ne.2 (Qpr hrec);rw[hrec]at RUN;clear hrec
   go_enter Tryz.func121,Tryz.ntmps121
   go_wp2_with (go_at_call 169;refine RUN.out.mono ?_;rintro ee w3 ⟨er,i,rfl,hb3,rfl,cs,hk3⟩;have hr3:=(hb3.block w.heap.size (Nat.lt_succ_self _)).trans K1.out;obtain⟨e0,e1,e2,e3⟩:=box4 hr3;have g0:=Qdp hr3 0;have g1:=Qdp hr3 1;have g2:=Qdp hr3 2;have g3:=Qdp hr3 3)
   have hbb:Below w.heap.size w w3:=B0.out.trans (Qjl hb3 (Nat.le_succ _));refine bodyPost_ret (Qef rfl _ _ w.heap.size 37 #[.bool false,.int .u64 0,.string (⟨#[]⟩:ByteArray),.string (⟨#[]⟩:ByteArray)] (0,0) _ rfl (Qdl (Qdl (Qdl (Qdl hr3 0 _) 1 _) 2 _) 3 _) hu rfl qq_2) rfl ?_;exact⟨rfl,Qjk (Qjk (Qjk (Qjk hbb (Nat.le_refl _)) (Nat.le_refl _)) (Nat.le_refl _)) (Nat.le_refl _)⟩
 ·rw[if_neg hg]at h;cases h
noncomputable def Qbq.f(k:Nat)(l0:List Int):Option (Bool × Int × ByteArray × ByteArray × Int):=(Qbr.f k l0).bind fun t=>if t.2=0 then Qch.f t.1 else some (false,0,(⟨#[]⟩:ByteArray),(⟨#[]⟩:ByteArray),t.2)
theorem Qbq.calls(k:Nat)(A0:Option Addr)(c0:Nat)(l0:List Int)(r1:Bool)(r2:Int)(r3 r4:ByteArray)(r5:Int)(w:World)(hr0:Kd.C (Kd.int .u8) w A0 l0.length l0)(hc0:l0.length≤c0)(h:Qbq.f k l0=some (r1,r2,r3,r4,r5)) :
  Calls Tryz.prog 69 #[.slice A0 l0.length c0] w fun e w'=>e=.returned (.tuple #[.agg #[.bool r1,.int .u64 r2,.string r3,.string r4],.int .i64 r5])∧Below w.heap.size w w':=by
 unfold Qbq.f at h;obtain⟨⟨out,e0⟩,hU,h⟩:=Option.bind_eq_some_iff.mp h;dsimp only at h;have hu:=Tryz.underlying37;obtain⟨z0,hz0⟩:∃z:Obj,z=.cells #[.bool false,.int .u64 0,.string (⟨#[]⟩:ByteArray),.string (⟨#[]⟩:ByteArray)] 37 (0,0):=⟨_,rfl⟩;have b0:Below w.heap.size w (w.alloc z0):=Qcp (Below.refl _ _) _;have k1:=Qee w z0;subst hz0;have HU:=QA (Qbr.calls k A0 c0 l0 out e0 _ (Kd.C_below hr0 b0) hc0 hU);have B0:=QA b0;have K1:=QA k1;clear hU hr0 b0 k1 hc0
 by_cases he:e0=0
 ·subst he;rw[if_pos rfl]at h;have HH:=QA h;clear h
  go_enter Tryz.func69,Tryz.ntmps69
  go_wp2_with (first
   |(go_at_call 120;refine HU.out.mono ?_;rintro ee w1 ⟨A1,c1,rfl,hC1,hlc1,hb1⟩;have b:=QA hC1;have HLC1:=QA hlc1;clear hC1 hlc1)
   |(go_at_call 121;refine(Qch.calls A1 c1 out r1 r2 r3 r4 r5 _ b.out HLC1.out HH.out).mono ?_;rintro ee w2 ⟨rfl,hb2⟩;have a:=QA (hb1.trans (Qjl hb2 hb1.size));have hr3:=(a.out.block w.heap.size (Qdn K1.out)).trans K1.out;obtain⟨q0,q1,q2,q3⟩:=box4 hr3;have g0:=Qdp hr3 0;have g1:=Qdp hr3 1;have g2:=Qdp hr3 2;have g3:=Qdp hr3 3;clear hb2 hb1))
  have hbb:Below w.heap.size w w2:=B0.out.trans (Qjl a.out B0.out.size);refine bodyPost_ret (Qef rfl _ _ w.heap.size 37 #[.bool r1,.int .u64 r2,.string r3,.string r4] (0,0) _ rfl (Qdl (Qdl (Qdl (Qdl hr3 0 _) 1 _) 2 _) 3 _) hu rfl qq_2) rfl ?_;exact⟨rfl,Qjk (Qjk (Qjk (Qjk hbb (Nat.le_refl _)) (Nat.le_refl _)) (Nat.le_refl _)) (Nat.le_refl _)⟩
 ·rw[if_neg he]at h;simp only[Option.some.injEq,Prod.mk.injEq]at h;obtain⟨rfl,rfl,rfl,rfl,rfl⟩:=h;have hne:(e0 != 0)=true:=bne_iff_ne.2 he
  go_enter Tryz.func69,Tryz.ntmps69
  go_wp2_with (first
   |(go_at_call 120;refine HU.out.mono ?_;rintro ee w1 ⟨A1,c1,rfl,hC1,hlc1,hb1⟩;have a:=QA hb1;have hr3:=(hb1.block w.heap.size (Qdn K1.out)).trans K1.out;obtain⟨q0,q1,q2,q3⟩:=box4 hr3;have g0:=Qdp hr3 0;have g1:=Qdp hr3 1;have g2:=Qdp hr3 2;have g3:=Qdp hr3 3;clear hb1 hC1 hlc1))
  have hbb:Below w.heap.size w w1:=B0.out.trans (Qjl a.out B0.out.size);refine bodyPost_ret (Qef rfl _ _ w.heap.size 37 #[.bool false,.int .u64 0,.string (⟨#[]⟩:ByteArray),.string (⟨#[]⟩:ByteArray)] (0,0) _ rfl (Qdl (Qdl (Qdl (Qdl hr3 0 _) 1 _) 2 _) 3 _) hu rfl qq_2) rfl ?_;exact⟨rfl,Qjk (Qjk (Qjk (Qjk hbb (Nat.le_refl _)) (Nat.le_refl _)) (Nat.le_refl _)) (Nat.le_refl _)⟩
abbrev Fd:=S74
def RF(W:World)(b:Nat)(v:Value)(xs:List Fd):Prop:=(k74).R 74 W b (fun _=>True) v xs
theorem info_fd:(Tryz.prog.info? 74).map (fun i=>(i.zero,i.size,i.bytes))=some (some (.agg #[.bool false,.int .u64 0,.string (⟨#[]⟩:ByteArray),.string (⟨#[]⟩:ByteArray),.int .u64 0,.int .i64 0,.int .i64 0]),7,72):=by kernel_rfl
theorem R8.kt{W W':World}{b:Nat}{v:Value}{xs:List Int}(h:R8 W b v xs)(hT:KT W W'):R8 W' b v xs:=by
 refine Kd.R_mono (Kd.R_step (Kd.R_bound h) (fun k hk _=>?_)) (fun _ _=>trivial);obtain⟨q,hq,cells,hc⟩:=hk.2.2.2;have hq':q=5:=by simpa [Kd.int,Kd.scalar]using hq
 subst hq';rw[hc];exact hT k cells _ hc (by decide) (by decide)
theorem RF.kt{W W':World}{b:Nat}{v:Value}{xs:List Fd}(h:RF W b v xs)(hT:KT W W'):RF W' b v xs:=by
 refine Kd.R_mono (Kd.R_step (Kd.R_bound h) (fun k hk _=>?_)) (fun _ _=>trivial);obtain⟨q,hq,cells,hc⟩:=hk.2.2.2;have ht:∀q,q∈74 :: (k74).E→q=74:=by decide
 obtain rfl:=ht q hq;rw[hc];exact hT k cells _ hc (by decide) (by decide)
def Qpu(kc:Nat)(vh:Value)(ch fo em:Int):Array Value:=#[.pointer (some ⟨kc,0,none⟩),vh,.bool false,.int .i64 ch,.int .i64 fo,.int .i64 em]
structure SSt (w W:World) (b kc sb:Nat) (K:KS) (held:List Int) (ch fo em:Int) (out:List Fd) (vh vo:Value):Prop where
  k:IsK W kc K
  s:W.heap[sb]? = some (.cells (Qpu kc vh ch fo em) 144 (0,0))
  h:R8 W b vh held
  o:RF W b vo out
  low:Below b w W
  bk:b≤kc
  bs:b≤sb
section
variable {w W W':World} {b kc sb:Nat} {K K':KS} {held held':List Int} {ch fo em ch' fo' em':Int} {out out':List Fd} {vh vh' vo vo':Value}
theorem SSt.below(h:SSt w W b kc sb K held ch fo em out vh vo)(hb:Below W.heap.size W W')(hbw:b≤W.heap.size):SSt w W' b kc sb K held ch fo em out vh vo :=
 ⟨Qed h.k hb,Qed h.s hb,Kd.R_below h.h hb,Kd.R_below h.o hb,h.low.trans (Qjl hb hbw),h.bk,h.bs⟩
theorem SSt.cut(h:SSt w W b kc sb K held ch fo em out vh vo)(hk:IsK W' kc K')(hT:KT W W')(hB:Below b W W'):SSt w W' b kc sb K' held ch fo em out vh vo :=
 ⟨hk,hT _ _ _ h.s (by decide) (by decide),h.h.kt hT,h.o.kt hT,h.low.trans hB,h.bk,h.bs⟩
theorem SSt.set(h:SSt w W b kc sb K held ch fo em out vh vo)(j:Nat)(u:Value)(hs:(Qpu kc vh ch fo em).setIfInBounds j u=Qpu kc vh' ch' fo' em')(hh:R8 W b vh' held'):SSt w (W.setCell ⟨sb,j,none⟩ u) b kc sb K held' ch' fo' em' out vh' vo:=by
 have hs':=Qdl h.s j u;rw[hs]at hs';exact⟨Qdm h.k (p:=⟨sb,j,none⟩) (Qdr h.k h.s (by decide)) u,hs',Kd.R_set hh h.s (by decide) j u,Kd.R_set h.o h.s (by decide) j u,Qjk h.low h.bs,h.bk,h.bs⟩
theorem SSt.cells(h:SSt w W b kc sb K held ch fo em out vh vo):(W.cell? ⟨sb,0,none⟩=some (.pointer (some ⟨kc,0,none⟩))∧W.cell? ⟨sb,1,none⟩=some vh∧W.cell? ⟨sb,2,none⟩=some (.bool false)∧W.cell? ⟨sb,3,none⟩=some (.int .i64 ch)∧W.cell? ⟨sb,4,none⟩=some (.int .i64 fo)∧W.cell? ⟨sb,5,none⟩=some (.int .i64 em))∧W.frozen? ⟨sb,1,none⟩=false∧W.frozen? ⟨sb,2,none⟩=false∧W.frozen? ⟨sb,3,none⟩=false∧W.frozen? ⟨sb,4,none⟩=false∧W.frozen? ⟨sb,5,none⟩=false :=
 ⟨⟨(Qdo h.s 0).trans rfl,(Qdo h.s 1).trans rfl,(Qdo h.s 2).trans rfl,(Qdo h.s 3).trans rfl,(Qdo h.s 4).trans rfl,(Qdo h.s 5).trans rfl⟩,Qdp h.s 1,Qdp h.s 2,Qdp h.s 3,Qdp h.s 4,Qdp h.s 5⟩
end
theorem R8.nil{W:World}{b n c:Nat}{A:Option Addr}{xs:List Int}(h:R8 W b (.slice A n c) xs):R8 W b (.slice A 0 c) []:=by
 obtain⟨A',c',hv⟩:=Kd.R_slice h
 cases hv
 exact Kd.R_take h (Nat.zero_le _)
theorem Qpv(b kc sb c:Nat)(K:KS)(held:List Int)(ch fo em:Int)(out:List Fd)(A:Option Addr)(vo:Value)(w0 w:World)(hS:SSt w0 w b kc sb K held ch fo em out (.slice A held.length c) vo) :
  (∀u,CallsD Tryz.prog 78 #[.pointer (some ⟨sb,0,none⟩)] u w fun e u' w'=>u'=u∧(e=.returned (.tuple #[])∧SSt w0 w' b kc sb K [] ch fo em out (.slice A 0 c) vo)) ∧
  Calls Tryz.prog 78 #[.pointer (some ⟨sb,0,none⟩)] w fun e w'=>e=.returned (.tuple #[])∧SSt w0 w' b kc sb K [] ch fo em out (.slice A 0 c) vo:=by
 have hu:=Tryz.underlying144;have t1:=hS.set (vh':=.slice A 0 c) (held':=[]) (ch':=ch) (fo':=fo) (em':=em) 1 (.slice A 0 c) rfl hS.h.nil;have t2:=t1.set (vh':=.slice A 0 c) (held':=[]) (ch':=ch) (fo':=fo) (em':=em) 2 (.bool false) rfl t1.h;obtain⟨⟨c0,c1,c2,c3,c4,c5⟩,f1,f2,f3,f4,f5⟩:=hS.cells;obtain⟨⟨d0,d1,d2,d3,d4,d5⟩,g1,g2,g3,g4,g5⟩:=t1.cells;obtain⟨i0,hii,_,hsz,_⟩:=info_parts Qim;have hlen:=(Kd.R_reads' hS.h).2.1;have T2:=QA t2;have hcut:=Qeo (P:=Tryz.prog) 40 5 .i64 Tryz.underlying40 hii A held.length c 0 (by decide) (by omega) hlen;clear hS t1 t2 hlen hii
 constructor
 ·intro u
  go_enter_d Tryz.func78,Tryz.ntmps78
  go_wp2;go_end0
  exact⟨rfl,T2.out⟩
 ·go_enter Tryz.func78,Tryz.ntmps78
  go_wp2;go_end0
  exact⟨rfl,T2.out⟩
theorem SSt.app8{w W w1:World}{b kc sb:Nat}{K:KS}{held held1:List Int}{ch fo em:Int}{out:List Fd}{vh v1 vo:Value}(h:SSt w W b kc sb K held ch fo em out vh vo)(HR:R8 w1 b v1 held1)(hb:Below b W w1)(hg:W.grownBy w1 vh.ownBlock) :
  w1.heap[sb]? = some (.cells (Qpu kc vh ch fo em) 144 (0,0))∧SSt w (w1.setCell ⟨sb,1,none⟩ v1) b kc sb K held1 ch fo em out v1 vo:=by
 have hs:=Qdq h.s hg (Kd.R_ne h.h h.s (by decide));have hk:IsK w1 kc K:=Qdq h.k hg (Kd.R_ne h.h h.k (by decide));have hs':=Qdl hs 1 v1;exact⟨hs,Qdm hk (p:=⟨sb,1,none⟩) (Qdr hk hs (by decide)) v1,hs',Kd.R_set HR hs (by decide) 1 v1,Kd.R_set (Kd.R_over' h.o (Kd.R_typed h.h) (by decide) hg) hs (by decide) 1 v1,Qjk (h.low.trans hb) h.bs,h.bk,h.bs⟩
theorem Qpw(b kc sb c:Nat)(K:KS)(held:List Int)(ch fo em x:Int)(out:List Fd)(A:Option Addr)(vo:Value)(w0 w:World)(hS:SSt w0 w b kc sb K held ch fo em out (.slice A held.length c) vo)(hbw:b≤w.heap.size)(hl:held.length<1060000) :
  Calls Tryz.prog 76 #[.pointer (some ⟨sb,0,none⟩),.int .u8 x] w fun e w'=>∃vh',e=.returned (.tuple #[])∧SSt w0 w' b kc sb K (held++[x]) ch fo em out vh' vo:=by
 have hu:=Tryz.underlying144;have HS:=QA hS;obtain⟨⟨c0,c1,c2,c3,c4,c5⟩,f1,f2,f3,f4,f5⟩:=hS.cells;have hd:decide ((1060000:Int)≤(held.length:Int))=false:=decide_eq_false (by omega);clear hS
 go_enter Tryz.func76,Tryz.ntmps76
 go_wp2_with (at_builtin;refine Kd.R_append (Kd.int .u8) (w0:=w) b rfl (.tmp 25) (.tmp 27) 40 5 (.int .u8 0) 1 rfl Tryz.underlying40 Qim rfl (by decide) (by omega) (.slice A held.length c) held x [.int .u8 x] (fun _=>True) (fun _=>False) rfl ?ax ?aP (fun _ hk=>hk.elim) ?aF ?aO ?aB ?aS ?aL ?_;(case ax=>rfl);(case aP=>rfl);(case aF=>exact fun _ _=>trivial);(case aO=>exact HS.out.h);(case aB=>exact Below.refl _ _);(case aS=>exact hbw);(case aL=>omega);intro v3 w3 a hb3 d hat3;obtain⟨A3,c3,hv3⟩:=Kd.R_slice a;rw[show(held++[x]).length=held.length+1 from List.length_append]at hv3;subst hv3;have HP:=HS.out.app8 a hb3 d;have HS3:=QA HP.2;have q1:w3.cell? ⟨sb,1,none⟩=some (.slice A held.length c):=(Qdo HP.1 1).trans rfl;have q2:w3.frozen? ⟨sb,1,none⟩=false:=Qdp HP.1 1;clear HP a hb3 d hat3)
 go_end0
 exact⟨_,rfl,HS3.out⟩
theorem Qpx(g:Nat)(K:KS)(w:World)(hK:IsK w g K)(h:0≤K.2.2.2∧K.2.2.2≤K.2.2.1∧K.2.2.1≤1000000000000) :
  Calls Tryz.prog 77 #[.pointer (some ⟨g,0,none⟩)] w fun e w'=>e=.returned (.int .i64 (K.2.2.1-K.2.2.2))∧Below w.heap.size w w':=by
 have hu:=Tryz.underlying207;obtain⟨⟨c0,c1,c2,c3⟩,f1,f2,f3⟩:=hK.cells;have d2:w.drew.cell? ⟨g,2,none⟩=some (.int .i64 K.2.2.1):=c2;have d3:w.drew.cell? ⟨g,3,none⟩=some (.int .i64 K.2.2.2):=c3;have hw:IntKind.i64.wrap (K.2.2.1-K.2.2.2)=K.2.2.1-K.2.2.2:=IntWalk.i64_in _ (by omega)
 go_enter Tryz.func77,Tryz.ntmps77
 go_upto_region 1 with fail
 go_region
 all_goals
  go_wp2;go_ret
  exact⟨rfl,Qcq (Below.refl _ _)⟩
def endO(out:List Fd)(er:Int)(d:Bool)(q:Int)(ka va:ByteArray)(sg fr tt:Int):List Fd:=if er=0 then out++[(⟨⟨d,q,ka,va⟩,sg,fr,tt-fr+1⟩:Fd)]else out
theorem SSt.app97{w W w1:World}{b kc sb:Nat}{K:KS}{held:List Int}{ch fo em:Int}{out out1:List Fd}{vh v1 vo:Value}(h:SSt w W b kc sb K held ch fo em out vh vo)(HR:RF w1 b v1 out1)(hb:Below b W w1)(hg:W.grownBy w1 vo.ownBlock):SSt w w1 b kc sb K held ch fo em out1 vh v1 :=
 ⟨Qdq h.k hg (Kd.R_ne h.o h.k (by decide)),Qdq h.s hg (Kd.R_ne h.o h.s (by decide)),Kd.R_over' h.h (Kd.R_typed h.o) (by decide) hg,HR,h.low.trans hb,h.bk,h.bs⟩
theorem sv_end(k b kc sb c:Nat)(K:KS)(held:List Int)(ch fo em sg fr tt:Int)(out:List Fd)(A:Option Addr)(vo:Value)(d:Bool)(q:Int)(ka va:ByteArray)(er:Int)(w:World)(hS:SSt w w b kc sb K held ch fo em out (.slice A held.length c) vo)(hbw:b≤w.heap.size)
  (hr:Qbq.f k held=some (d,q,ka,va,er)) (hn:(0≤ch∧ch≤1000000000000)∧(0≤fo∧fo≤1000000000000)∧(0≤em∧em≤1000000000000)) (hft:0≤fr∧fr≤tt∧tt≤1000000000000) (hl:out.length≤1000000000) :
  Calls Tryz.prog 75 #[.pointer (some ⟨sb,0,none⟩),.agg #[.int .u64 sg,.int .i64 fr,.int .i64 tt],vo] w fun e w'=>∃vo' vh',e=.returned vo' ∧
   SSt w w' b kc sb K [] (ch+1) (if er=0 then fo+1 else fo) (if fr=tt then em+1 else em) (endO out er d q ka va sg fr tt) vh' vo':=by
 have hu:=Tryz.underlying144;have hu2:=Tryz.underlying147;have hu3:=Tryz.underlying37;have hcc:=(Kd.R_reads' hS.h).2.1;obtain⟨Ao,co,hvo⟩:=Kd.R_slice hS.o;subst hvo;have HR:=QA hr;have hw1:IntKind.i64.wrap (ch+1)=ch+1:=IntWalk.i64_in _ (by omega);have hw2:IntKind.i64.wrap (fo+1)=fo+1:=IntWalk.i64_in _ (by omega);have hw3:IntKind.i64.wrap (em+1)=em+1:=IntWalk.i64_in _ (by omega);have hw4:IntKind.i64.wrap (tt-fr)=tt-fr:=IntWalk.i64_in _ (by omega);have hw5:IntKind.i64.wrap (tt-fr+1)=tt-fr+1:=IntWalk.i64_in _ (by omega);have s0:=hS.below (W':=w.alloc (.cells #[.int .u64 sg,.int .i64 fr,.int .i64 tt] 147 (0,0))) (Qcp (Below.refl _ _) _) hbw;have kz:=Qee w (.cells #[.int .u64 sg,.int .i64 fr,.int .i64 tt] 147 (0,0));have hb0:b≤(w.alloc (.cells #[.int .u64 sg,.int .i64 fr,.int .i64 tt] 147 (0,0))).heap.size:=by rw[World.size_alloc];omega
 have s1:=s0.set (vh':=.slice A held.length c) (held':=held) (ch':=ch+1) (fo':=fo) (em':=em) 3 (.int .i64 (ch+1)) rfl s0.h;have kz1:=Qdm kz (p:=⟨sb,3,none⟩) (Qdr kz s0.s (by decide)) (.int .i64 (ch+1));have s2:=s1.set (vh':=.slice A held.length c) (held':=held) (ch':=ch+1) (fo':=fo) (em':=em+1) 5 (.int .i64 (em+1)) rfl s1.h;have kz2:=Qdm kz1 (p:=⟨sb,5,none⟩) (Qdr kz1 s1.s (by decide)) (.int .i64 (em+1));obtain⟨⟨a0,a1,a2,a3,a4,a5⟩,f1,f2,f3,f4,f5⟩:=s0.cells;obtain⟨⟨b0,b1,b2,b3,b4,b5⟩,g1,g2,g3,g4,g5⟩:=s1.cells;obtain⟨⟨c0,c1,c2,c3,c4,c5⟩,h1,h2,h3,h4,h5⟩:=s2.cells;have x1:=(Qdo kz1 1).trans (rfl:_=some (Value.int .i64 fr));have x2:=(Qdo kz1 2).trans (rfl:_=some (Value.int .i64 tt));obtain⟨em',hem⟩:∃em',em'=(if fr=tt then em+1 else em):=⟨_,rfl⟩;obtain⟨W2,hW2⟩:∃W2,W2=(if fr=tt then((w.alloc (.cells #[.int .u64 sg,.int .i64 fr,.int .i64 tt] 147 (0,0))).setCell ⟨sb,3,none⟩ (.int .i64 (ch+1))).setCell ⟨sb,5,none⟩ (.int .i64 (em+1))else(w.alloc (.cells #[.int .u64 sg,.int .i64 fr,.int .i64 tt] 147 (0,0))).setCell ⟨sb,3,none⟩ (.int .i64 (ch+1))):=⟨_,rfl⟩;have S2:Aside0 (SSt w W2 b kc sb K held (ch+1) fo em' out (.slice A held.length c) (.slice Ao out.length co)):=⟨by rw[hW2,hem];split;exact s2;exact s1⟩;have KZ2:Aside0 (W2.heap[w.heap.size]? = some (.cells #[.int .u64 sg,.int .i64 fr,.int .i64 tt] 147 (0,0))):=⟨by rw[hW2];split;exact kz2;exact kz1⟩;have hb2:b≤W2.heap.size:=by rw[hW2];split<;>simpa [World.setCell]using hb0
 rw[← hem];have HEM:=QA hem;clear hem;have HC:=QA (Kd.R_reads' S2.out.h).2.2;have HCC:=QA hcc;have HBW:=QA hbw;have HL:=QA hl;have HW2:=QA hW2;clear hS s0 s1 s2 kz kz1 kz2 hr hbw hl hW2
 go_enter_defers Tryz.func75,Tryz.ntmps75
 go_upto_if 21 with fail
 go_cut [22] from 9 to 66 (fun j w'=>w'=W2)
 case first =>
  by_cases hq:fr=tt
  ·have hqb:(fr == tt)=true:=beq_iff_eq.2 hq;have HQ:=QA hq;clear hq;go_wp2
   go_meet
   case rel=>rw[HW2.out,if_pos HQ.out]
  ·have hqb:(fr == tt)=false:=beq_eq_false_iff_ne.2 hq;go_wp2
   go_meet
   case rel=>rw[HW2.out,if_neg hq]
 case rest =>
  have hcut':wc=W2:=hcut;subst hcut';clear hcut HW2 a0 a1 a2 a3 a4 a5 f1 f2 f3 f4 f5 b0 b1 b2 b3 b4 b5 g1 g2 g3 g4 g5 c0 c1 c2 c3 c4 c5 h1 h2 h3 h4 h5 x1 x2;obtain⟨⟨c0,c1,c2,c3,c4,c5⟩,h1,h2,h3,h4,h5⟩:=S2.out.cells;have GR:=Qbq.calls k A c held d q ka va er wc HC.out HCC.out HR.out;have HGR:=QA GR;clear GR
  go_upto_if 43 with(go_at_call 69;refine HGR.out.mono ?_;rintro ee w3 ⟨rfl,hb3⟩;have S3:=QA ((S2.out.below hb3 hb2).below (W':=w3.alloc (.cells #[.bool d,.int .u64 q,.string ka,.string va] 37 (0,0))) (Qcp (Below.refl _ _) _) (Nat.le_trans hb2 hb3.size));have KZ3:=QA (Qea (Qed KZ2.out hb3) (.cells #[.bool d,.int .u64 q,.string ka,.string va] 37 (0,0)));have KR3:=QA (Qee w3 (.cells #[.bool d,.int .u64 q,.string ka,.string va] 37 (0,0)));have hb4:b≤(w3.alloc (.cells #[.bool d,.int .u64 q,.string ka,.string va] 37 (0,0))).heap.size:=by rw[World.size_alloc];exact Nat.le_trans hb2 (Nat.le_trans hb3.size (Nat.le_succ _)))
  obtain⟨W4,hW4⟩:∃W4,W4=w3.alloc (.cells #[.bool d,.int .u64 q,.string ka,.string va] 37 (0,0)):=⟨_,rfl⟩;rw[← hW4]at S3 KZ3 KR3 hb4 ⊢;have hsz4:b≤W4.heap.size:=hb4;clear hW4 hb3 c0 c1 c2 c3 c4 c5 h1 h2 h3 h4 h5 hb2 hb4 S2 KZ2;obtain⟨⟨c0,c1,c2,c3,c4,c5⟩,h1,h2,h3,h4,h5⟩:=S3.out.cells
  by_cases he:er=0
  ·subst he;have s5:=S3.out.set (vh':=.slice A held.length c) (held':=held) (ch':=ch+1) (fo':=fo+1) (em':=em') 4 (.int .i64 (fo+1)) rfl S3.out.h;have kz5:=Qdm KZ3.out (p:=⟨sb,4,none⟩) (Qdr KZ3.out S3.out.s (by decide)) (.int .i64 (fo+1));have kr5:=Qdm KR3.out (p:=⟨sb,4,none⟩) (Qdr KR3.out S3.out.s (by decide)) (.int .i64 (fo+1));have S5:=QA s5;have y0:=(Qdo kz5 0).trans (rfl:_=some (Value.int .u64 sg));have y1:=(Qdo kz5 1).trans (rfl:_=some (Value.int .i64 fr));have y2:=(Qdo kz5 2).trans (rfl:_=some (Value.int .i64 tt));have z0:=(Qdo kr5 0).trans (rfl:_=some (Value.bool d));have z1:=(Qdo kr5 1).trans (rfl:_=some (Value.int .u64 q));have z2:=(Qdo kr5 2).trans (rfl:_=some (Value.string ka));have z3:=(Qdo kr5 3).trans (rfl:_=some (Value.string va));have hsz5:b≤(W4.setCell ⟨sb,4,none⟩ (.int .i64 (fo+1))).heap.size:=by simpa [World.setCell]using hsz4
   clear s5 kz5 kr5
   go_wp2_with (at_builtin;refine Kd.R_append k74 (w0:=W4.setCell ⟨sb,4,none⟩ (.int .i64 (fo+1))) b rfl (.tmp 52) (.tmp 65) 52 74 (.agg #[.bool false,.int .u64 0,.string (⟨#[]⟩:ByteArray),.string (⟨#[]⟩:ByteArray),.int .u64 0,.int .i64 0,.int .i64 0]) 72 rfl Tryz.underlying52 info_fd rfl (by decide) (by omega) (.slice Ao out.length co) out (⟨⟨d,q,ka,va⟩,sg,fr,tt-fr+1⟩:Fd) [.bool d,.int .u64 q,.string ka,.string va,.int .u64 sg,.int .i64 fr,.int .i64 (tt-fr+1)] (fun _=>True) (fun _=>False) rfl ?ax ?aP (fun _ hk=>hk.elim) ?aF ?aO ?aB ?aS ?aL ?_;(case ax=>first |(go_simp;done) |(go_simp;rfl));(case aP=>exact k74_mkM _ _ _ (⟨⟨d,q,ka,va⟩,sg,fr,tt-fr+1⟩:Fd));(case aF=>exact fun _ _=>trivial);(case aO=>exact S5.out.o);(case aB=>exact Below.refl _ _);(case aS=>exact hsz5);(case aL=>have:=HL.out;omega);intro v6 w6 a hb6 g hat6;obtain⟨A6,c6,hv6⟩:=Kd.R_slice a;rw[show(out++[(⟨⟨d,q,ka,va⟩,sg,fr,tt-fr+1⟩:Fd)]).length=out.length+1 from List.length_append]at hv6;subst hv6;have S6:=QA (S5.out.app97 a hb6 g);clear a hb6 g hat6)
   refine leaves_cons (f:=78) (args:=#[.pointer (some ⟨sb,0,none⟩)]) (by simp) (by simp[go_sem]) ?_;refine((Qpv b kc sb c K held _ _ _ _ A _ w w6 S6.out).1 _).mono ?_;rintro e u' w'' ⟨rfl,rfl,hD⟩;show Leaves _ _ _ _ [] .returning _;refine⟨_,results_tmp rfl _ _ w'',_,rfl,.slice A 0 c,?_⟩;unfold endO;rw[if_pos rfl];exact hD
  ·have hne:(er != 0)=true:=bne_iff_ne.2 he;go_wp2;refine leaves_cons (f:=78) (args:=#[.pointer (some ⟨sb,0,none⟩)]) (by simp) (by simp[go_sem]) ?_;refine((Qpv b kc sb c K held _ _ _ _ A _ w W4 S3.out).1 _).mono ?_;rintro e u' w'' ⟨rfl,rfl,hD⟩;show Leaves _ _ _ _ [] .returning _;refine⟨_,results_tmp rfl _ _ w'',_,rfl,.slice A 0 c,?_⟩;unfold endO;rw[if_neg he];exact hD
end Go.Proofs.YteaocbonofboeaaGreat.C
end
section
namespace Go.Proofs
open Go.Shelf
def Tryz.sortEnt_ren:Go.Shelf.Ren:=⟨fun|6=>115|15=>164|14=>163|28=>214|29=>215|20=>206|21=>207|22=>208|23=>209|24=>210|25=>211|26=>212|27=>213|46=>229|47=>230|48=>231|49=>232|50=>233|57=>235|n=>n,fun|22=>120|24=>129|25=>197|3=>3|39=>231|0=>0|53=>26|55=>35|4=>4|46=>289|45=>288|50=>293|5=>5|9=>9|66=>309|70=>312|76=>315|77=>316|n=>n,fun|n=>n⟩
theorem Tryz.sortEnt:Go.Proofs.SlLaysF0.n6 Tryz.prog Tryz.sortEnt_ren:={
 mixed:=by kernel_rfl
 f6:=⟨Tryz.f115.name,by decide,Tryz.func115.trans (congrArg some (by kernel_rfl))⟩
 f14:=⟨Tryz.f163.name,by decide,Tryz.func163.trans (congrArg some (by kernel_rfl))⟩
 f15:=Tryz.func164.trans (congrArg some (by kernel_rfl))
 f20:=⟨Tryz.f206.name,by decide,Tryz.func206.trans (congrArg some (by kernel_rfl))⟩
 f21:=⟨Tryz.f207.name,by decide,Tryz.func207.trans (congrArg some (by kernel_rfl))⟩
 f22:=⟨Tryz.f208.name,by decide,Tryz.func208.trans (congrArg some (by kernel_rfl))⟩
 f23:=⟨Tryz.f209.name,by decide,Tryz.func209.trans (congrArg some (by kernel_rfl))⟩
 f24:=⟨Tryz.f210.name,by decide,Tryz.func210.trans (congrArg some (by kernel_rfl))⟩
 f25:=⟨Tryz.f211.name,by decide,Tryz.func211.trans (congrArg some (by kernel_rfl))⟩
 f26:=⟨Tryz.f212.name,by decide,Tryz.func212.trans (congrArg some (by kernel_rfl))⟩
 f27:=⟨Tryz.f213.name,by decide,Tryz.func213.trans (congrArg some (by kernel_rfl))⟩
 f28:=Tryz.func214.trans (congrArg some (by kernel_rfl))
 f29:=Tryz.func215.trans (congrArg some (by kernel_rfl))
 f46:=⟨Tryz.f229.name,by decide,Tryz.func229.trans (congrArg some (by kernel_rfl))⟩
 f47:=Tryz.func230.trans (congrArg some (by kernel_rfl))
 f48:=Tryz.func231.trans (congrArg some (by kernel_rfl))
 f49:=⟨Tryz.f232.name,by decide,Tryz.func232.trans (congrArg some (by kernel_rfl))⟩
 f50:=⟨Tryz.f233.name,by decide,Tryz.func233.trans (congrArg some (by kernel_rfl))⟩
 f57:=⟨Tryz.f235.name,by decide,Tryz.func235.trans (congrArg some (by kernel_rfl))⟩
 t0:=Tryz.underlying0
 a0:=Tryz.isAgg0
 z0:=Tryz.sizeOf0
 v0:=Tryz.zeroValue0
 t3:=Tryz.underlying3
 a3:=Tryz.isAgg3
 z3:=Tryz.sizeOf3
 v3:=Tryz.zeroValue3
 t4:=Tryz.underlying4
 a4:=Tryz.isAgg4
 z4:=Tryz.sizeOf4
 v4:=Tryz.zeroValue4
 t5:=Tryz.underlying5
 a5:=Tryz.isAgg5
 z5:=Tryz.sizeOf5
 v5:=Tryz.zeroValue5
 t9:=Tryz.underlying9
 a9:=Tryz.isAgg9
 z9:=Tryz.sizeOf9
 v9:=Tryz.zeroValue9
 t22:=Tryz.underlying120
 a22:=Tryz.isAgg120
 z22:=Tryz.sizeOf120
 v22:=Tryz.zeroValue120
 t25:=Tryz.underlying197
 a25:=Tryz.isAgg197
 z25:=Tryz.sizeOf197
 v25:=Tryz.zeroValue197
 t39:=Tryz.underlying231
 a39:=Tryz.isAgg231
 z39:=Tryz.sizeOf231
 v39:=Tryz.zeroValue231
 t45:=Tryz.underlying288
 a45:=Tryz.isAgg288
 z45:=Tryz.sizeOf288
 v45:=Tryz.zeroValue288
 t46:=Tryz.underlying289
 a46:=Tryz.isAgg289
 z46:=Tryz.sizeOf289
 v46:=Tryz.zeroValue289
 t50:=Tryz.underlying293
 a50:=Tryz.isAgg293
 z50:=Tryz.sizeOf293
 v50:=Tryz.zeroValue293
 t53:=Tryz.underlying26
 a53:=Tryz.isAgg26
 z53:=Tryz.sizeOf26
 v53:=Tryz.zeroValue26
 t55:=Tryz.underlying35
 a55:=Tryz.isAgg35
 z55:=Tryz.sizeOf35
 v55:=Tryz.zeroValue35
 t66:=Tryz.underlying309
 a66:=Tryz.isAgg309
 z66:=Tryz.sizeOf309
 v66:=Tryz.zeroValue309
 t70:=Tryz.underlying312
 a70:=Tryz.isAgg312
 z70:=Tryz.sizeOf312
 v70:=Tryz.zeroValue312
 t76:=Tryz.underlying315
 a76:=Tryz.isAgg315
 z76:=Tryz.sizeOf315
 v76:=Tryz.zeroValue315
 t77:=Tryz.underlying316
 a77:=Tryz.isAgg316
 z77:=Tryz.sizeOf316
 v77:=Tryz.zeroValue316 }
def Tryz.hasEnt_ren:Go.Shelf.Ren:=⟨fun|8=>161|6=>204|n=>n,fun|22=>120|23=>129|25=>242|4=>4|3=>3|0=>0|n=>n,fun|n=>n⟩
theorem Tryz.hasEnt:Go.Proofs.SlLaysH0.n8 Tryz.prog Tryz.hasEnt_ren:={
 mixed:=by kernel_rfl
 f6:=⟨Tryz.f204.name,by decide,Tryz.func204.trans (congrArg some (by kernel_rfl))⟩
 f8:=⟨Tryz.f161.name,by decide,Tryz.func161.trans (congrArg some (by kernel_rfl))⟩
 t0:=Tryz.underlying0
 a0:=Tryz.isAgg0
 z0:=Tryz.sizeOf0
 v0:=Tryz.zeroValue0
 t3:=Tryz.underlying3
 a3:=Tryz.isAgg3
 z3:=Tryz.sizeOf3
 v3:=Tryz.zeroValue3
 t4:=Tryz.underlying4
 a4:=Tryz.isAgg4
 z4:=Tryz.sizeOf4
 v4:=Tryz.zeroValue4
 t22:=Tryz.underlying120
 a22:=Tryz.isAgg120
 z22:=Tryz.sizeOf120
 v22:=Tryz.zeroValue120
 t25:=Tryz.underlying242
 a25:=Tryz.isAgg242
 z25:=Tryz.sizeOf242
 v25:=Tryz.zeroValue242 }
def Tryz.cloneEnt_ren:Go.Shelf.Ren:=⟨fun|41=>114|n=>n,fun|22=>120|23=>129|4=>4|n=>n,fun|n=>n⟩
theorem Tryz.cloneEnt:Go.Proofs.SlLaysE0.n41 Tryz.prog Tryz.cloneEnt_ren:={
 mixed:=by kernel_rfl
 f41:=⟨Tryz.f114.name,by decide,Tryz.func114.trans (congrArg some (by kernel_rfl))⟩
 t4:=Tryz.underlying4
 a4:=Tryz.isAgg4
 z4:=Tryz.sizeOf4
 v4:=Tryz.zeroValue4
 t22:=Tryz.underlying120
 a22:=Tryz.isAgg120
 z22:=Tryz.sizeOf120
 v22:=Tryz.zeroValue120 }
end Go.Proofs
end
section
namespace Go.Proofs.YteaocbonofboeaaGreat.C
open Go.RowKit Go.Proofs.YteaocbonofboeaaGreatW.PrintWords Go.Proofs.YteaocbonofboeaaGreatW.PrintLast Go.Proofs.YteaocbonofboeaaGreatW.PrintMore
open Go.Sort
abbrev Ent:=S129
def cfE(x y:Ent):Int:=if x.f0<y.f0 then -1 else if y.f0<x.f0 then 1 else if x.f1<y.f1 then -1 else if y.f1<x.f1 then 1 else 0
def ci(a b:Int):Int:=if a<b then -1 else if b<a then 1 else 0
theorem Qpy(a b:Int):Qah.f a b=some (ci a b):=by
 unfold Qah.f Qak.f ci;simp;split
 ·rfl
 ·split<;>rfl
theorem Qpz(a b:Int):Qag.f a b=some (ci a b):=by
 unfold Qag.f Qaj.f ci;simp;split
 ·rfl
 ·split<;>rfl
def orI(a b:Int):Int:=if a=0 then b else a
theorem or_is(a b:Int):Qai.f 4 [a,b]=some (orI a b):=by
 have r0:YteaocbonofboeaaGreatW.PrintWords.rd [a,b] 0=a:=rfl;have r1:YteaocbonofboeaaGreatW.PrintWords.rd [a,b] 1=b:=rfl;simp[Qai.f,Qai.l0,wrap64,r0,r1,orI];split
 ·split<;>simp_all
 ·rfl
theorem Qqa(x y:Ent):orI (ci x.f0 y.f0) (ci x.f1 y.f1)=cfE x y:=by
 unfold orI ci cfE
 by_cases h1:x.f0<y.f0
 ·simp[h1]
 ·by_cases h2:y.f0<x.f0<;>simp[h1,h2]
def Gr(w w':World):Prop:=∃q os,w'=grow (w.drewN q) os
theorem Gr.refl(w:World):Gr w w:=⟨0,#[],by simp;rfl⟩
theorem Gr.drewN{w w':World}(h:Gr w w')(n:Nat):Gr w (w'.drewN n):=by
 obtain⟨q,os,rfl⟩:=h;exact⟨q+n,os,by simp[grow,World.drewN,Nat.add_assoc]⟩
theorem Gr.drew{w w':World}(h:Gr w w'):Gr w w'.drew:=h.drewN 1
theorem Gr.alloc{w w':World}(h:Gr w w')(o:Obj):Gr w (w'.alloc o):=by
 obtain⟨q,os,rfl⟩:=h;exact⟨q,os++#[o],by rw[alloc_eq_grow,grow_grow]⟩
theorem Qqb(a b:Int)(W:World):Calls Tryz.prog 166 #[.int .u64 a,.int .u64 b] W fun e w'=>e=.returned (.int .i64 (ci a b))∧Drawn0 W w':=Qah.calls a b _ W (Qpy a b)
theorem Qqc(a b:Int)(W:World):Calls Tryz.prog 167 #[.int .u32 a,.int .u32 b] W fun e w'=>e=.returned (.int .i64 (ci a b))∧Drawn0 W w':=Qag.calls a b _ W (Qpz a b)
theorem or_at(a b:Int)(W:World):Calls Tryz.prog 165 #[.slice (some ⟨W.heap.size,0,none⟩) 2 2] (W.alloc (.cells #[.int .i64 a,.int .i64 b] 3)) fun e w'=>e=.returned (.int .i64 (orI a b))∧Drawn0 (W.alloc (.cells #[.int .i64 a,.int .i64 b] 3)) w':=by
 have hC:Kd.C (Kd.int .i64) (W.alloc (.cells #[.int .i64 a,.int .i64 b] 3)) (some ⟨W.heap.size,0,none⟩) [a,b].length [a,b] :=
  Kd.C_of_reads (d:=(0:Int)) ⟨rfl,by simp,fun _=>⟨_,rfl,fun j hj=>by
   have hj':j<2:=hj;have hb:=Qdo (Qee W (.cells #[.int .i64 a,.int .i64 b] 3)) j;rw[Qcu,hb];have:j=0∨j=1:=by omega
   rcases this with rfl|rfl<;>rfl⟩⟩
 exact Qai.calls 4 _ 2 [a,b] _ _ hC (by simp) (or_is a b)
theorem cmp_gr(x y:Ent)(w:World):Calls Tryz.prog 116 #[.agg #[.int .u64 x.f0,.int .u32 x.f1],.agg #[.int .u64 y.f0,.int .u32 y.f1]] w fun e w'=>e=.returned (.int .i64 (cfE x y))∧Gr w w':=by
 have hu:=Tryz.underlying129;have b1:=Qee w (.cells #[.int .u64 x.f0,.int .u32 x.f1] 129);have b1':=Qea b1 (.cells #[.int .u64 y.f0,.int .u32 y.f1] 129);have b2:=Qee (w.alloc (.cells #[.int .u64 x.f0,.int .u32 x.f1] 129)) (.cells #[.int .u64 y.f0,.int .u32 y.f1] 129);have hg:Gr w ((w.alloc (.cells #[.int .u64 x.f0,.int .u32 x.f1] 129)).alloc (.cells #[.int .u64 y.f0,.int .u32 y.f1] 129)):=((Gr.refl w).alloc _).alloc _;rw[World.size_alloc]at b2;obtain⟨W,hW⟩:∃W,W=(w.alloc (.cells #[.int .u64 x.f0,.int .u32 x.f1] 129)).alloc (.cells #[.int .u64 y.f0,.int .u32 y.f1] 129):=⟨_,rfl⟩;rw[← hW]at b1' b2 hg;have c0:W.cell? ⟨w.heap.size,0,none⟩=some (.int .u64 x.f0):=(Qdo b1' 0).trans rfl;have c1:W.cell? ⟨w.heap.size,1,none⟩=some (.int .u32 x.f1):=(Qdo b1' 1).trans rfl;have c2:W.cell? ⟨w.heap.size+1,0,none⟩=some (.int .u64 y.f0):=(Qdo b2 0).trans rfl;have c3:W.cell? ⟨w.heap.size+1,1,none⟩=some (.int .u32 y.f1):=(Qdo b2 1).trans rfl;have HW:=QA hW;clear hW b1 b1' b2
 go_enter Tryz.func116,Tryz.ntmps116
 go_wp2_with fail
 rw[← HW.out]
 go_region_held3 (fun w'=>w'.cell? ⟨w.heap.size,0,none⟩=some (.int .u64 x.f0)∧w'.cell? ⟨w.heap.size,1,none⟩=some (.int .u32 x.f1)∧w'.cell? ⟨w.heap.size+1,0,none⟩=some (.int .u64 y.f0)∧w'.cell? ⟨w.heap.size+1,1,none⟩=some (.int .u32 y.f1)) (go_keep) (first
  |(go_at_call 166;refine(Qqb _ _ _).mono ?_;rintro e w7 ⟨rfl,hd⟩;obtain⟨q1,rfl⟩:=hd.out;clear hd)
  |(go_at_call 167;refine(Qqc _ _ _).mono ?_;rintro e w7 ⟨rfl,hd⟩;obtain⟨q2,rfl⟩:=hd.out;clear hd)
  |(go_at_call 165;refine(or_at _ _ _).mono ?_;rintro e w7 ⟨rfl,hd⟩;obtain⟨q3,rfl⟩:=hd.out;clear hd))
 all_goals
  go_wp2;go_ret
  refine⟨by(rw[← Qqa];rfl),?_⟩
  repeat(first|exact hg|apply Gr.drewN|apply Gr.drew|apply Gr.alloc)
end Go.Proofs.YteaocbonofboeaaGreat.C
end
