/- Merged texts. -/
import Derived.Test.YteaocbonofboeaaGreatME02
import Derived.WalkLawsBesides
import Derived.Recover
import Derived.Defers
import Derived.Test.YteaocbonofboeaaGreatME13
import Derived.Test.YteaocbonofboeaaGreatME07
import Derived.Test.YteaocbonofboeaaGreatME08
import Derived.Test.YteaocbonofboeaaGreatME25
import Derived.Test.YteaocbonofboeaaGreatME10
import Derived.Test.YteaocbonofboeaaGreatME26
import Derived.Test.YteaocbonofboeaaGreatME12
import Derived.Deep.RegionLaw
import Derived.Test.YteaocbonofboeaaGreatME09
set_option linter.unusedVariables false
set_option linter.unusedSimpArgs false
set_option maxHeartbeats 8000000
set_option maxRecDepth 100000
section
namespace Go.Proofs.YteaocbonofboeaaGreat.C
open Go.RowKit Go.Proofs.YteaocbonofboeaaGreatW.PrintWords Go.Proofs.YteaocbonofboeaaGreatW.PrintLast Go.Proofs.YteaocbonofboeaaGreatW.PrintMore
noncomputable def Qcj.f(l0:List Int):Option (Bool × Int × ByteArray × ByteArray × Int) :=
 @ite _ (CodecP.Bytes l0∧l0.length≤140737488355328) (Classical.propDecidable _) (match recL l0 with
  | .ok ((d,q,a,b),_)=>some (d,q,a,b,0)
  | .error (er,_)=>some (false,0,(⟨#[]⟩:ByteArray),(⟨#[]⟩:ByteArray),er)) none
theorem Qta(bs:List Int):∀(f:Nat) (j i x:Int) (er i1:Int),Qsl bs f j i x=.error (er,i1)→er≠0
 | 0,_,_,_,_,_=>fun h=>by cases h
 | f+1,j,i,x,er,i1=>fun h=>by
  unfold Qsl at h
  repeat' split at h
  all_goals first |(cases h;decide)|exact Qta bs f _ _ _ _ _ h|cases h
theorem Qtb{bs:List Int}{least most i er i1:Int}(h:Qso bs least most i=.error (er,i1)):er≠0:=by
 unfold Qso at h
 cases hv:Qsl bs 10 0 i 0 with
 | error p=>rw[hv]at h;cases h;exact Qta bs 10 0 i 0 er i1 hv
 | ok p =>
  rw[hv]at h;dsimp only at h
  repeat' split at h
  all_goals first |(cases h;decide)|cases h
theorem Qtc{bs:List Int}{er i:Int}(h:recL bs=.error (er,i)):er≠0:=by
 unfold recL at h;split at h
 ·split at h
  ·cases h;decide
  ·cases hv:Qsl bs 10 0 (0+1) 0 with
   | error p=>rw[hv]at h;cases h;exact Qta bs 10 0 _ 0 er i hv
   | ok p =>
    rw[hv]at h;dsimp only at h
    cases ht:Qso bs 1 4096 p.2 with
    | error p=>rw[ht]at h;cases h;exact Qtb ht
    | ok p2 =>
     rw[ht]at h;dsimp only at h;split at h
     ·split at h
      ·cases h;decide
      ·cases h
     ·cases hu:Qso bs 0 1048576 p2.2 with
      | error p=>rw[hu]at h;cases h;exact Qtb hu
      | ok p3 =>
       rw[hu]at h;dsimp only at h;split at h
       ·cases h;decide
       ·cases h
 ·cases h;decide
theorem Qtd(as_:Array Value)(W:World):(callFunc 172 as_).run Tryz.prog W=.ok (.enter 172 as_) W:=by
 simp[callFunc,Tryz.func172,Tryz.f172]
theorem Qte{W:World}{rb lo g:Nat}{bs:List Int}(hI:IsCur W lo g bs 0)(hk:W.heap[rb]? = some (.cells #[.bool false,.int .u64 0,.string (⟨#[]⟩:ByteArray),.string (⟨#[]⟩:ByteArray)] 37 (0,0)))(hlt:rb<lo)(hg:lo≤g):RS W W rb lo g bs 0 false 0 (⟨#[]⟩:ByteArray) (⟨#[]⟩:ByteArray) :=
 ⟨hI,hk,Below.refl _ _,fun k cs t _ h _ _=>h,Nat.le_of_lt (Nat.lt_of_le_of_lt hg hI.lt),hlt⟩
theorem rec_run(A0:Option Addr)(c0:Nat)(l0:List Int)(rb:Nat)(w:World)(hb:CodecP.Bytes l0)(hl:l0.length≤140737488355328)(hr0:Kd.C (Kd.int .u8) w A0 l0.length l0)
  (hk:w.heap[rb]? = some (.cells #[.bool false,.int .u64 0,.string (⟨#[]⟩:ByteArray),.string (⟨#[]⟩:ByteArray)] 37 (0,0))) :
  Calls Tryz.prog 169 #[.slice A0 l0.length c0,.func (.func 172) #[] #[.pointer (some ⟨rb,0,none⟩)]] w fun e w'=>∃er i,e=.returned (.tuple #[.int .i64 i,.int .i64 er])∧Below rb w w' ∧
   match recL l0 with
   | .ok ((d,q,a,b),_)=>er=0∧w'.heap[rb]? = some (.cells #[.bool d,.int .u64 q,.string a,.string b] 37 (0,0))
   | .error (e0,_)=>er=e0∧∃cs,w'.heap[rb]? = some (.cells cs 37 (0,0)):=by
 have hlt:=Qdq hk;refine Qse 172 #[.pointer (some ⟨rb,0,none⟩)] A0 c0 l0 w hr0 hl Qtd (fun er _ W'=>Below rb w W' ∧
   match recL l0 with
   | .ok ((d,q,a,b),_)=>er=0∧W'.heap[rb]? = some (.cells #[.bool d,.int .u64 q,.string a,.string b] 37 (0,0))
   | .error (e0,_)=>er=e0∧∃cs,W'.heap[rb]? = some (.cells cs 37 (0,0))) ?_ ?_
 ·rintro er i W W' ⟨h1,h2⟩ h3;refine⟨h1.trans (Qju h3 (Nat.le_of_lt hlt)),?_⟩
  cases hrec:recL l0 with
  | ok p =>
   obtain⟨⟨d,q,a,b⟩,j⟩:=p;rw[hrec]at h2;exact⟨h2.1,(h3.block rb hlt).trans h2.2⟩
  | error p =>
   rw[hrec]at h2;obtain⟨h4,cs,h5⟩:=h2;exact⟨h4,cs,(h3.block rb hlt).trans h5⟩
 ·intro W g hg hB hI;have hk2:=(hB.block rb hlt).trans hk;refine(rec_all rb w.heap.size g l0 hb hl hg W (Qte hI hk2 hlt hg)).mono ?_;intro e W' h;have hB2:Below rb w W:=Qju hB (Nat.le_of_lt hlt)
  cases hrec:recL l0 with
  | ok p =>
   obtain⟨⟨d,q,a,b⟩,j⟩:=p;rw[hrec]at h;obtain⟨h1,h2⟩:=h;exact⟨j,h2.1,h2.2.2.2.1,.inl ⟨h1,hB2.trans h2.2.2.1,rfl,h2.2.1⟩⟩
  | error p =>
   obtain⟨e0,j⟩:=p;rw[hrec]at h;obtain⟨h1,d,q,a,b,h2⟩:=h;exact⟨j,h2.1,h2.2.2.2.1,.inr ⟨e0,h1,hB2.trans h2.2.2.1,rfl,_,h2.2.1⟩⟩
theorem Qcj.calls(A0:Option Addr)(c0:Nat)(l0:List Int)(r1:Bool)(r2:Int)(r3 r4:ByteArray)(r5:Int)(w:World)(hr0:Kd.C (Kd.int .u8) w A0 l0.length l0)(hc0:l0.length≤c0)(h:Qcj.f l0=some (r1,r2,r3,r4,r5)) :
  Calls Tryz.prog 121 #[.slice A0 l0.length c0] w fun e w'=>e=.returned (.tuple #[.agg #[.bool r1,.int .u64 r2,.string r3,.string r4],.int .i64 r5])∧Below w.heap.size w w':=by
 unfold Qcj.f at h
 by_cases hg:CodecP.Bytes l0∧l0.length≤140737488355328
 ·rw[if_pos hg]at h;have hu:=Tryz.underlying37;have HG:=QA hg;have c:=QA hr0;obtain⟨z0,hz0⟩:∃z:Obj,z=.cells #[.bool false,.int .u64 0,.string (⟨#[]⟩:ByteArray),.string (⟨#[]⟩:ByteArray)] 37 (0,0):=⟨_,rfl⟩;have b0:Below w.heap.size w ((w.alloc z0).alloc z0):=Qcs (Qcs (Below.refl _ _) _) _;have hsz:((w.alloc z0).alloc z0).heap.size=w.heap.size+2:=by simp[World.size_alloc]
  have k1:=Qed (Qeh w z0) z0;have k2:=Qeh (w.alloc z0) z0;rw[World.size_alloc]at k2;subst hz0;have RUN:=QA (rec_run A0 c0 l0 (w.heap.size+1) _ hg.1 hg.2 (Kd.C_below hr0 b0) k2);have B0:=QA b0;have K1:=QA k1;clear hg hr0 b0 k1 k2 hsz
  cases hrec:recL l0 with
  | ok p =>
   obtain⟨⟨d,q,a,b⟩,i0⟩:=p;rw[hrec]at h;simp only[Option.some.injEq,Prod.mk.injEq]at h;obtain⟨rfl,rfl,rfl,rfl,rfl⟩:=h;rw[hrec]at RUN;clear hrec
   go_enter Tryz.func121,Tryz.ntmps121
   go_wp2_with (go_at_call 169;refine RUN.out.mono ?_;rintro ee w3 ⟨er,i,rfl,hb3,rfl,hk3⟩;have hr3:=(hb3.block w.heap.size (Nat.lt_succ_self _)).trans K1.out;obtain⟨d0,d1,d2,d3⟩:=box4 hk3;obtain⟨e0,e1,e2,e3⟩:=box4 hr3;have g0:=Qds hr3 0;have g1:=Qds hr3 1;have g2:=Qds hr3 2;have g3:=Qds hr3 3)
   have hbb:Below w.heap.size w w3:=B0.out.trans (Qju hb3 (Nat.le_succ _));refine bodyPost_ret (Qei rfl _ _ w.heap.size 37 #[.bool d,.int .u64 q,.string a,.string b] (0,0) _ rfl (Qdo (Qdo (Qdo (Qdo hr3 0 _) 1 _) 2 _) 3 _) hu rfl qq_4) rfl ?_;exact⟨rfl,Qjt (Qjt (Qjt (Qjt hbb (Nat.le_refl _)) (Nat.le_refl _)) (Nat.le_refl _)) (Nat.le_refl _)⟩
  | error p =>
   obtain⟨y0,i0⟩:=p;rw[hrec]at h;simp only[Option.some.injEq,Prod.mk.injEq]at h;obtain⟨rfl,rfl,rfl,rfl,rfl⟩:=h;have hne:(y0 != 0)=true:=bne_iff_ne.2 (Qtc hrec);rw[hrec]at RUN;clear hrec
   go_enter Tryz.func121,Tryz.ntmps121
   go_wp2_with (go_at_call 169;refine RUN.out.mono ?_;rintro ee w3 ⟨er,i,rfl,hb3,rfl,cs,hk3⟩;have hr3:=(hb3.block w.heap.size (Nat.lt_succ_self _)).trans K1.out;obtain⟨e0,e1,e2,e3⟩:=box4 hr3;have g0:=Qds hr3 0;have g1:=Qds hr3 1;have g2:=Qds hr3 2;have g3:=Qds hr3 3)
   have hbb:Below w.heap.size w w3:=B0.out.trans (Qju hb3 (Nat.le_succ _));refine bodyPost_ret (Qei rfl _ _ w.heap.size 37 #[.bool false,.int .u64 0,.string (⟨#[]⟩:ByteArray),.string (⟨#[]⟩:ByteArray)] (0,0) _ rfl (Qdo (Qdo (Qdo (Qdo hr3 0 _) 1 _) 2 _) 3 _) hu rfl qq_4) rfl ?_;exact⟨rfl,Qjt (Qjt (Qjt (Qjt hbb (Nat.le_refl _)) (Nat.le_refl _)) (Nat.le_refl _)) (Nat.le_refl _)⟩
 ·rw[if_neg hg]at h;cases h
noncomputable def Qbr.f(k:Nat)(l0:List Int):Option (Bool × Int × ByteArray × ByteArray × Int):=(Qbs.f k l0).bind fun t=>if t.2=0 then Qcj.f t.1 else some (false,0,(⟨#[]⟩:ByteArray),(⟨#[]⟩:ByteArray),t.2)
theorem Qbr.calls(k:Nat)(A0:Option Addr)(c0:Nat)(l0:List Int)(r1:Bool)(r2:Int)(r3 r4:ByteArray)(r5:Int)(w:World)(hr0:Kd.C (Kd.int .u8) w A0 l0.length l0)(hc0:l0.length≤c0)(h:Qbr.f k l0=some (r1,r2,r3,r4,r5)) :
  Calls Tryz.prog 69 #[.slice A0 l0.length c0] w fun e w'=>e=.returned (.tuple #[.agg #[.bool r1,.int .u64 r2,.string r3,.string r4],.int .i64 r5])∧Below w.heap.size w w':=by
 unfold Qbr.f at h;obtain⟨⟨out,e0⟩,hU,h⟩:=Option.bind_eq_some_iff.mp h;dsimp only at h;have hu:=Tryz.underlying37;obtain⟨z0,hz0⟩:∃z:Obj,z=.cells #[.bool false,.int .u64 0,.string (⟨#[]⟩:ByteArray),.string (⟨#[]⟩:ByteArray)] 37 (0,0):=⟨_,rfl⟩;have b0:Below w.heap.size w (w.alloc z0):=Qcs (Below.refl _ _) _;have k1:=Qeh w z0;subst hz0;have HU:=QA (Qbs.calls k A0 c0 l0 out e0 _ (Kd.C_below hr0 b0) hc0 hU);have B0:=QA b0;have K1:=QA k1;clear hU hr0 b0 k1 hc0
 by_cases he:e0=0
 ·subst he;rw[if_pos rfl]at h;have HH:=QA h;clear h
  go_enter Tryz.func69,Tryz.ntmps69
  go_wp2_with (first
   |(go_at_call 120;refine HU.out.mono ?_;rintro ee w1 ⟨A1,c1,rfl,hC1,hlc1,hb1⟩;have b:=QA hC1;have HLC1:=QA hlc1;clear hC1 hlc1)
   |(go_at_call 121;refine(Qcj.calls A1 c1 out r1 r2 r3 r4 r5 _ b.out HLC1.out HH.out).mono ?_;rintro ee w2 ⟨rfl,hb2⟩;have a:=QA (hb1.trans (Qju hb2 hb1.size));have hr3:=(a.out.block w.heap.size (Qdq K1.out)).trans K1.out;obtain⟨q0,q1,q2,q3⟩:=box4 hr3;have g0:=Qds hr3 0;have g1:=Qds hr3 1;have g2:=Qds hr3 2;have g3:=Qds hr3 3;clear hb2 hb1))
  have hbb:Below w.heap.size w w2:=B0.out.trans (Qju a.out B0.out.size);refine bodyPost_ret (Qei rfl _ _ w.heap.size 37 #[.bool r1,.int .u64 r2,.string r3,.string r4] (0,0) _ rfl (Qdo (Qdo (Qdo (Qdo hr3 0 _) 1 _) 2 _) 3 _) hu rfl qq_4) rfl ?_;exact⟨rfl,Qjt (Qjt (Qjt (Qjt hbb (Nat.le_refl _)) (Nat.le_refl _)) (Nat.le_refl _)) (Nat.le_refl _)⟩
 ·rw[if_neg he]at h;simp only[Option.some.injEq,Prod.mk.injEq]at h;obtain⟨rfl,rfl,rfl,rfl,rfl⟩:=h;have hne:(e0 != 0)=true:=bne_iff_ne.2 he
  go_enter Tryz.func69,Tryz.ntmps69
  go_wp2_with (first
   |(go_at_call 120;refine HU.out.mono ?_;rintro ee w1 ⟨A1,c1,rfl,hC1,hlc1,hb1⟩;have a:=QA hb1;have hr3:=(hb1.block w.heap.size (Qdq K1.out)).trans K1.out;obtain⟨q0,q1,q2,q3⟩:=box4 hr3;have g0:=Qds hr3 0;have g1:=Qds hr3 1;have g2:=Qds hr3 2;have g3:=Qds hr3 3;clear hb1 hC1 hlc1))
  have hbb:Below w.heap.size w w1:=B0.out.trans (Qju a.out B0.out.size);refine bodyPost_ret (Qei rfl _ _ w.heap.size 37 #[.bool false,.int .u64 0,.string (⟨#[]⟩:ByteArray),.string (⟨#[]⟩:ByteArray)] (0,0) _ rfl (Qdo (Qdo (Qdo (Qdo hr3 0 _) 1 _) 2 _) 3 _) hu rfl qq_4) rfl ?_;exact⟨rfl,Qjt (Qjt (Qjt (Qjt hbb (Nat.le_refl _)) (Nat.le_refl _)) (Nat.le_refl _)) (Nat.le_refl _)⟩
abbrev Fd:=S74
def RF(W:World)(b:Nat)(v:Value)(xs:List Fd):Prop:=(k74).R 74 W b (fun _=>True) v xs
theorem info_fd:(Tryz.prog.info? 74).map (fun i=>(i.zero,i.size,i.bytes))=some (some (.agg #[.bool false,.int .u64 0,.string (⟨#[]⟩:ByteArray),.string (⟨#[]⟩:ByteArray),.int .u64 0,.int .i64 0,.int .i64 0]),7,72):=by kernel_rfl
theorem R8.kt{W W':World}{b:Nat}{v:Value}{xs:List Int}(h:R8 W b v xs)(hT:KT W W'):R8 W' b v xs:=by
 refine Kd.R_mono (Kd.R_step (Kd.R_bound h) (fun k hk _=>?_)) (fun _ _=>trivial);obtain⟨q,hq,cells,hc⟩:=hk.2.2.2;have hq':q=5:=by simpa [Kd.int,Kd.scalar]using hq
 subst hq';rw[hc];exact hT k cells _ hc (by decide) (by decide)
theorem RF.kt{W W':World}{b:Nat}{v:Value}{xs:List Fd}(h:RF W b v xs)(hT:KT W W'):RF W' b v xs:=by
 refine Kd.R_mono (Kd.R_step (Kd.R_bound h) (fun k hk _=>?_)) (fun _ _=>trivial);obtain⟨q,hq,cells,hc⟩:=hk.2.2.2;have ht:∀q,q∈74 :: (k74).E→q=74:=by decide
 obtain rfl:=ht q hq;rw[hc];exact hT k cells _ hc (by decide) (by decide)
def Qtf(kc:Nat)(vh:Value)(ch fo em:Int):Array Value:=#[.pointer (some ⟨kc,0,none⟩),vh,.bool false,.int .i64 ch,.int .i64 fo,.int .i64 em]
structure SSt (w W:World) (b kc sb:Nat) (K:KS) (held:List Int) (ch fo em:Int) (out:List Fd) (vh vo:Value):Prop where
  k:IsK W kc K
  s:W.heap[sb]? = some (.cells (Qtf kc vh ch fo em) 144 (0,0))
  h:R8 W b vh held
  o:RF W b vo out
  low:Below b w W
  bk:b≤kc
  bs:b≤sb
section
variable {w W W':World} {b kc sb:Nat} {K K':KS} {held held':List Int} {ch fo em ch' fo' em':Int} {out out':List Fd} {vh vh' vo vo':Value}
theorem SSt.below(h:SSt w W b kc sb K held ch fo em out vh vo)(hb:Below W.heap.size W W')(hbw:b≤W.heap.size):SSt w W' b kc sb K held ch fo em out vh vo :=
 ⟨Qeg h.k hb,Qeg h.s hb,Kd.R_below h.h hb,Kd.R_below h.o hb,h.low.trans (Qju hb hbw),h.bk,h.bs⟩
theorem SSt.cut(h:SSt w W b kc sb K held ch fo em out vh vo)(hk:IsK W' kc K')(hT:KT W W')(hB:Below b W W'):SSt w W' b kc sb K' held ch fo em out vh vo :=
 ⟨hk,hT _ _ _ h.s (by decide) (by decide),h.h.kt hT,h.o.kt hT,h.low.trans hB,h.bk,h.bs⟩
theorem SSt.set(h:SSt w W b kc sb K held ch fo em out vh vo)(j:Nat)(u:Value)(hs:(Qtf kc vh ch fo em).setIfInBounds j u=Qtf kc vh' ch' fo' em')(hh:R8 W b vh' held'):SSt w (W.setCell ⟨sb,j,none⟩ u) b kc sb K held' ch' fo' em' out vh' vo:=by
 have hs':=Qdo h.s j u;rw[hs]at hs';exact⟨Qdp h.k (p:=⟨sb,j,none⟩) (Qdu h.k h.s (by decide)) u,hs',Kd.R_set hh h.s (by decide) j u,Kd.R_set h.o h.s (by decide) j u,Qjt h.low h.bs,h.bk,h.bs⟩
theorem SSt.cells(h:SSt w W b kc sb K held ch fo em out vh vo):(W.cell? ⟨sb,0,none⟩=some (.pointer (some ⟨kc,0,none⟩))∧W.cell? ⟨sb,1,none⟩=some vh∧W.cell? ⟨sb,2,none⟩=some (.bool false)∧W.cell? ⟨sb,3,none⟩=some (.int .i64 ch)∧W.cell? ⟨sb,4,none⟩=some (.int .i64 fo)∧W.cell? ⟨sb,5,none⟩=some (.int .i64 em))∧W.frozen? ⟨sb,1,none⟩=false∧W.frozen? ⟨sb,2,none⟩=false∧W.frozen? ⟨sb,3,none⟩=false∧W.frozen? ⟨sb,4,none⟩=false∧W.frozen? ⟨sb,5,none⟩=false :=
 ⟨⟨(Qdr h.s 0).trans rfl,(Qdr h.s 1).trans rfl,(Qdr h.s 2).trans rfl,(Qdr h.s 3).trans rfl,(Qdr h.s 4).trans rfl,(Qdr h.s 5).trans rfl⟩,Qds h.s 1,Qds h.s 2,Qds h.s 3,Qds h.s 4,Qds h.s 5⟩
end
theorem R8.nil{W:World}{b n c:Nat}{A:Option Addr}{xs:List Int}(h:R8 W b (.slice A n c) xs):R8 W b (.slice A 0 c) []:=by
 obtain⟨A',c',hv⟩:=Kd.R_slice h
 cases hv
 exact Kd.R_take h (Nat.zero_le _)
theorem Qtg(b kc sb c:Nat)(K:KS)(held:List Int)(ch fo em:Int)(out:List Fd)(A:Option Addr)(vo:Value)(w0 w:World)(hS:SSt w0 w b kc sb K held ch fo em out (.slice A held.length c) vo) :
  (∀u,CallsD Tryz.prog 78 #[.pointer (some ⟨sb,0,none⟩)] u w fun e u' w'=>u'=u∧(e=.returned (.tuple #[])∧SSt w0 w' b kc sb K [] ch fo em out (.slice A 0 c) vo)) ∧
  Calls Tryz.prog 78 #[.pointer (some ⟨sb,0,none⟩)] w fun e w'=>e=.returned (.tuple #[])∧SSt w0 w' b kc sb K [] ch fo em out (.slice A 0 c) vo:=by
 have hu:=Tryz.underlying144;have t1:=hS.set (vh':=.slice A 0 c) (held':=[]) (ch':=ch) (fo':=fo) (em':=em) 1 (.slice A 0 c) rfl hS.h.nil;have t2:=t1.set (vh':=.slice A 0 c) (held':=[]) (ch':=ch) (fo':=fo) (em':=em) 2 (.bool false) rfl t1.h;obtain⟨⟨c0,c1,c2,c3,c4,c5⟩,f1,f2,f3,f4,f5⟩:=hS.cells;obtain⟨⟨d0,d1,d2,d3,d4,d5⟩,g1,g2,g3,g4,g5⟩:=t1.cells;obtain⟨i0,hii,_,hsz,_⟩:=info_parts Qit;have hlen:=(Kd.R_reads' hS.h).2.1;have T2:=QA t2;have hcut:=Qet (P:=Tryz.prog) 40 5 .i64 Tryz.underlying40 hii A held.length c 0 (by decide) (by omega) hlen;clear hS t1 t2 hlen hii
 constructor
 ·intro u
  go_enter_d Tryz.func78,Tryz.ntmps78
  go_wp2;go_end0
  exact⟨rfl,T2.out⟩
 ·go_enter Tryz.func78,Tryz.ntmps78
  go_wp2;go_end0
  exact⟨rfl,T2.out⟩
theorem SSt.app8{w W w1:World}{b kc sb:Nat}{K:KS}{held held1:List Int}{ch fo em:Int}{out:List Fd}{vh v1 vo:Value}(h:SSt w W b kc sb K held ch fo em out vh vo)(HR:R8 w1 b v1 held1)(hb:Below b W w1)(hg:W.grownBy w1 vh.ownBlock) :
  w1.heap[sb]? = some (.cells (Qtf kc vh ch fo em) 144 (0,0))∧SSt w (w1.setCell ⟨sb,1,none⟩ v1) b kc sb K held1 ch fo em out v1 vo:=by
 have hs:=Qdt h.s hg (Kd.R_ne h.h h.s (by decide));have hk:IsK w1 kc K:=Qdt h.k hg (Kd.R_ne h.h h.k (by decide));have hs':=Qdo hs 1 v1;exact⟨hs,Qdp hk (p:=⟨sb,1,none⟩) (Qdu hk hs (by decide)) v1,hs',Kd.R_set HR hs (by decide) 1 v1,Kd.R_set (Kd.R_over' h.o (Kd.R_typed h.h) (by decide) hg) hs (by decide) 1 v1,Qjt (h.low.trans hb) h.bs,h.bk,h.bs⟩
theorem Qth(b kc sb c:Nat)(K:KS)(held:List Int)(ch fo em x:Int)(out:List Fd)(A:Option Addr)(vo:Value)(w0 w:World)(hS:SSt w0 w b kc sb K held ch fo em out (.slice A held.length c) vo)(hbw:b≤w.heap.size)(hl:held.length<1060000) :
  Calls Tryz.prog 76 #[.pointer (some ⟨sb,0,none⟩),.int .u8 x] w fun e w'=>∃vh',e=.returned (.tuple #[])∧SSt w0 w' b kc sb K (held++[x]) ch fo em out vh' vo:=by
 have hu:=Tryz.underlying144;have HS:=QA hS;obtain⟨⟨c0,c1,c2,c3,c4,c5⟩,f1,f2,f3,f4,f5⟩:=hS.cells;have hd:decide ((1060000:Int)≤(held.length:Int))=false:=decide_eq_false (by omega);clear hS
 go_enter Tryz.func76,Tryz.ntmps76
 go_wp2_with (at_builtin;refine Kd.R_append (Kd.int .u8) (w0:=w) b rfl (.tmp 25) (.tmp 27) 40 5 (.int .u8 0) 1 rfl Tryz.underlying40 Qit rfl (by decide) (by omega) (.slice A held.length c) held x [.int .u8 x] (fun _=>True) (fun _=>False) rfl ?ax ?aP (fun _ hk=>hk.elim) ?aF ?aO ?aB ?aS ?aL ?_;(case ax=>rfl);(case aP=>rfl);(case aF=>exact fun _ _=>trivial);(case aO=>exact HS.out.h);(case aB=>exact Below.refl _ _);(case aS=>exact hbw);(case aL=>omega);intro v3 w3 a hb3 d hat3;obtain⟨A3,c3,hv3⟩:=Kd.R_slice a;rw[show(held++[x]).length=held.length+1 from List.length_append]at hv3;subst hv3;have HP:=HS.out.app8 a hb3 d;have HS3:=QA HP.2;have q1:w3.cell? ⟨sb,1,none⟩=some (.slice A held.length c):=(Qdr HP.1 1).trans rfl;have q2:w3.frozen? ⟨sb,1,none⟩=false:=Qds HP.1 1;clear HP a hb3 d hat3)
 go_end0
 exact⟨_,rfl,HS3.out⟩
theorem Qti(g:Nat)(K:KS)(w:World)(hK:IsK w g K)(h:0≤K.2.2.2∧K.2.2.2≤K.2.2.1∧K.2.2.1≤1000000000000) :
  Calls Tryz.prog 77 #[.pointer (some ⟨g,0,none⟩)] w fun e w'=>e=.returned (.int .i64 (K.2.2.1-K.2.2.2))∧Below w.heap.size w w':=by
 have hu:=Tryz.underlying207;obtain⟨⟨c0,c1,c2,c3⟩,f1,f2,f3⟩:=hK.cells;have d2:w.drew.cell? ⟨g,2,none⟩=some (.int .i64 K.2.2.1):=c2;have d3:w.drew.cell? ⟨g,3,none⟩=some (.int .i64 K.2.2.2):=c3;have hw:IntKind.i64.wrap (K.2.2.1-K.2.2.2)=K.2.2.1-K.2.2.2:=IntWalk.i64_in _ (by omega)
 go_enter Tryz.func77,Tryz.ntmps77
 go_upto_region 1 with fail
 go_region
 all_goals
  go_wp2;go_ret
  exact⟨rfl,Qct (Below.refl _ _)⟩
def endO(out:List Fd)(er:Int)(d:Bool)(q:Int)(ka va:ByteArray)(sg fr tt:Int):List Fd:=if er=0 then out++[(⟨⟨d,q,ka,va⟩,sg,fr,tt-fr+1⟩:Fd)]else out
theorem SSt.app97{w W w1:World}{b kc sb:Nat}{K:KS}{held:List Int}{ch fo em:Int}{out out1:List Fd}{vh v1 vo:Value}(h:SSt w W b kc sb K held ch fo em out vh vo)(HR:RF w1 b v1 out1)(hb:Below b W w1)(hg:W.grownBy w1 vo.ownBlock):SSt w w1 b kc sb K held ch fo em out1 vh v1 :=
 ⟨Qdt h.k hg (Kd.R_ne h.o h.k (by decide)),Qdt h.s hg (Kd.R_ne h.o h.s (by decide)),Kd.R_over' h.h (Kd.R_typed h.o) (by decide) hg,HR,h.low.trans hb,h.bk,h.bs⟩
theorem sv_end(k b kc sb c:Nat)(K:KS)(held:List Int)(ch fo em sg fr tt:Int)(out:List Fd)(A:Option Addr)(vo:Value)(d:Bool)(q:Int)(ka va:ByteArray)(er:Int)(w:World)(hS:SSt w w b kc sb K held ch fo em out (.slice A held.length c) vo)(hbw:b≤w.heap.size)
  (hr:Qbr.f k held=some (d,q,ka,va,er)) (hn:(0≤ch∧ch≤1000000000000)∧(0≤fo∧fo≤1000000000000)∧(0≤em∧em≤1000000000000)) (hft:0≤fr∧fr≤tt∧tt≤1000000000000) (hl:out.length≤1000000000) :
  Calls Tryz.prog 75 #[.pointer (some ⟨sb,0,none⟩),.agg #[.int .u64 sg,.int .i64 fr,.int .i64 tt],vo] w fun e w'=>∃vo' vh',e=.returned vo' ∧
   SSt w w' b kc sb K [] (ch+1) (if er=0 then fo+1 else fo) (if fr=tt then em+1 else em) (endO out er d q ka va sg fr tt) vh' vo':=by
 have hu:=Tryz.underlying144;have hu2:=Tryz.underlying147;have hu3:=Tryz.underlying37;have hcc:=(Kd.R_reads' hS.h).2.1;obtain⟨Ao,co,hvo⟩:=Kd.R_slice hS.o;subst hvo;have HR:=QA hr;have hw1:IntKind.i64.wrap (ch+1)=ch+1:=IntWalk.i64_in _ (by omega);have hw2:IntKind.i64.wrap (fo+1)=fo+1:=IntWalk.i64_in _ (by omega);have hw3:IntKind.i64.wrap (em+1)=em+1:=IntWalk.i64_in _ (by omega);have hw4:IntKind.i64.wrap (tt-fr)=tt-fr:=IntWalk.i64_in _ (by omega);have hw5:IntKind.i64.wrap (tt-fr+1)=tt-fr+1:=IntWalk.i64_in _ (by omega);have s0:=hS.below (W':=w.alloc (.cells #[.int .u64 sg,.int .i64 fr,.int .i64 tt] 147 (0,0))) (Qcs (Below.refl _ _) _) hbw;have kz:=Qeh w (.cells #[.int .u64 sg,.int .i64 fr,.int .i64 tt] 147 (0,0));have hb0:b≤(w.alloc (.cells #[.int .u64 sg,.int .i64 fr,.int .i64 tt] 147 (0,0))).heap.size:=by rw[World.size_alloc];omega
 have s1:=s0.set (vh':=.slice A held.length c) (held':=held) (ch':=ch+1) (fo':=fo) (em':=em) 3 (.int .i64 (ch+1)) rfl s0.h;have kz1:=Qdp kz (p:=⟨sb,3,none⟩) (Qdu kz s0.s (by decide)) (.int .i64 (ch+1));have s2:=s1.set (vh':=.slice A held.length c) (held':=held) (ch':=ch+1) (fo':=fo) (em':=em+1) 5 (.int .i64 (em+1)) rfl s1.h;have kz2:=Qdp kz1 (p:=⟨sb,5,none⟩) (Qdu kz1 s1.s (by decide)) (.int .i64 (em+1));obtain⟨⟨a0,a1,a2,a3,a4,a5⟩,f1,f2,f3,f4,f5⟩:=s0.cells;obtain⟨⟨b0,b1,b2,b3,b4,b5⟩,g1,g2,g3,g4,g5⟩:=s1.cells;obtain⟨⟨c0,c1,c2,c3,c4,c5⟩,h1,h2,h3,h4,h5⟩:=s2.cells;have x1:=(Qdr kz1 1).trans (rfl:_=some (Value.int .i64 fr));have x2:=(Qdr kz1 2).trans (rfl:_=some (Value.int .i64 tt));obtain⟨em',hem⟩:∃em',em'=(if fr=tt then em+1 else em):=⟨_,rfl⟩;obtain⟨W2,hW2⟩:∃W2,W2=(if fr=tt then((w.alloc (.cells #[.int .u64 sg,.int .i64 fr,.int .i64 tt] 147 (0,0))).setCell ⟨sb,3,none⟩ (.int .i64 (ch+1))).setCell ⟨sb,5,none⟩ (.int .i64 (em+1))else(w.alloc (.cells #[.int .u64 sg,.int .i64 fr,.int .i64 tt] 147 (0,0))).setCell ⟨sb,3,none⟩ (.int .i64 (ch+1))):=⟨_,rfl⟩;have S2:Aside0 (SSt w W2 b kc sb K held (ch+1) fo em' out (.slice A held.length c) (.slice Ao out.length co)):=⟨by rw[hW2,hem];split;exact s2;exact s1⟩;have KZ2:Aside0 (W2.heap[w.heap.size]? = some (.cells #[.int .u64 sg,.int .i64 fr,.int .i64 tt] 147 (0,0))):=⟨by rw[hW2];split;exact kz2;exact kz1⟩;have hb2:b≤W2.heap.size:=by rw[hW2];split<;>simpa [World.setCell]using hb0
 rw[← hem];have HEM:=QA hem;clear hem;have HC:=QA (Kd.R_reads' S2.out.h).2.2;have HCC:=QA hcc;have HBW:=QA hbw;have HL:=QA hl;have HW2:=QA hW2;clear hS s0 s1 s2 kz kz1 kz2 hr hbw hl hW2
 go_enter_defers Tryz.func75,Tryz.ntmps75
 go_upto_if 21 with fail
 go_cut [22] from 9 to 66 (fun j w'=>w'=W2)
 case first =>
  by_cases hq:fr=tt
  ·have hqb:(fr == tt)=true:=beq_iff_eq.2 hq;have HQ:=QA hq;clear hq;go_wp2
   go_meet
   case rel=>rw[HW2.out,if_pos HQ.out]
  ·have hqb:(fr == tt)=false:=beq_eq_false_iff_ne.2 hq;go_wp2
   go_meet
   case rel=>rw[HW2.out,if_neg hq]
 case rest =>
  have hcut':wc=W2:=hcut;subst hcut';clear hcut HW2 a0 a1 a2 a3 a4 a5 f1 f2 f3 f4 f5 b0 b1 b2 b3 b4 b5 g1 g2 g3 g4 g5 c0 c1 c2 c3 c4 c5 h1 h2 h3 h4 h5 x1 x2;obtain⟨⟨c0,c1,c2,c3,c4,c5⟩,h1,h2,h3,h4,h5⟩:=S2.out.cells;have GR:=Qbr.calls k A c held d q ka va er wc HC.out HCC.out HR.out;have HGR:=QA GR;clear GR
  go_upto_if 43 with(go_at_call 69;refine HGR.out.mono ?_;rintro ee w3 ⟨rfl,hb3⟩;have S3:=QA ((S2.out.below hb3 hb2).below (W':=w3.alloc (.cells #[.bool d,.int .u64 q,.string ka,.string va] 37 (0,0))) (Qcs (Below.refl _ _) _) (Nat.le_trans hb2 hb3.size));have KZ3:=QA (Qed (Qeg KZ2.out hb3) (.cells #[.bool d,.int .u64 q,.string ka,.string va] 37 (0,0)));have KR3:=QA (Qeh w3 (.cells #[.bool d,.int .u64 q,.string ka,.string va] 37 (0,0)));have hb4:b≤(w3.alloc (.cells #[.bool d,.int .u64 q,.string ka,.string va] 37 (0,0))).heap.size:=by rw[World.size_alloc];exact Nat.le_trans hb2 (Nat.le_trans hb3.size (Nat.le_succ _)))
  obtain⟨W4,hW4⟩:∃W4,W4=w3.alloc (.cells #[.bool d,.int .u64 q,.string ka,.string va] 37 (0,0)):=⟨_,rfl⟩;rw[← hW4]at S3 KZ3 KR3 hb4 ⊢;have hsz4:b≤W4.heap.size:=hb4;clear hW4 hb3 c0 c1 c2 c3 c4 c5 h1 h2 h3 h4 h5 hb2 hb4 S2 KZ2;obtain⟨⟨c0,c1,c2,c3,c4,c5⟩,h1,h2,h3,h4,h5⟩:=S3.out.cells
  by_cases he:er=0
  ·subst he;have s5:=S3.out.set (vh':=.slice A held.length c) (held':=held) (ch':=ch+1) (fo':=fo+1) (em':=em') 4 (.int .i64 (fo+1)) rfl S3.out.h;have kz5:=Qdp KZ3.out (p:=⟨sb,4,none⟩) (Qdu KZ3.out S3.out.s (by decide)) (.int .i64 (fo+1));have kr5:=Qdp KR3.out (p:=⟨sb,4,none⟩) (Qdu KR3.out S3.out.s (by decide)) (.int .i64 (fo+1));have S5:=QA s5;have y0:=(Qdr kz5 0).trans (rfl:_=some (Value.int .u64 sg));have y1:=(Qdr kz5 1).trans (rfl:_=some (Value.int .i64 fr));have y2:=(Qdr kz5 2).trans (rfl:_=some (Value.int .i64 tt));have z0:=(Qdr kr5 0).trans (rfl:_=some (Value.bool d));have z1:=(Qdr kr5 1).trans (rfl:_=some (Value.int .u64 q));have z2:=(Qdr kr5 2).trans (rfl:_=some (Value.string ka));have z3:=(Qdr kr5 3).trans (rfl:_=some (Value.string va));have hsz5:b≤(W4.setCell ⟨sb,4,none⟩ (.int .i64 (fo+1))).heap.size:=by simpa [World.setCell]using hsz4
   clear s5 kz5 kr5
   go_wp2_with (at_builtin;refine Kd.R_append k74 (w0:=W4.setCell ⟨sb,4,none⟩ (.int .i64 (fo+1))) b rfl (.tmp 52) (.tmp 65) 52 74 (.agg #[.bool false,.int .u64 0,.string (⟨#[]⟩:ByteArray),.string (⟨#[]⟩:ByteArray),.int .u64 0,.int .i64 0,.int .i64 0]) 72 rfl Tryz.underlying52 info_fd rfl (by decide) (by omega) (.slice Ao out.length co) out (⟨⟨d,q,ka,va⟩,sg,fr,tt-fr+1⟩:Fd) [.bool d,.int .u64 q,.string ka,.string va,.int .u64 sg,.int .i64 fr,.int .i64 (tt-fr+1)] (fun _=>True) (fun _=>False) rfl ?ax ?aP (fun _ hk=>hk.elim) ?aF ?aO ?aB ?aS ?aL ?_;(case ax=>first |(go_simp;done) |(go_simp;rfl));(case aP=>exact k74_mkM _ _ _ (⟨⟨d,q,ka,va⟩,sg,fr,tt-fr+1⟩:Fd));(case aF=>exact fun _ _=>trivial);(case aO=>exact S5.out.o);(case aB=>exact Below.refl _ _);(case aS=>exact hsz5);(case aL=>have:=HL.out;omega);intro v6 w6 a hb6 g hat6;obtain⟨A6,c6,hv6⟩:=Kd.R_slice a;rw[show(out++[(⟨⟨d,q,ka,va⟩,sg,fr,tt-fr+1⟩:Fd)]).length=out.length+1 from List.length_append]at hv6;subst hv6;have S6:=QA (S5.out.app97 a hb6 g);clear a hb6 g hat6)
   refine leaves_cons (f:=78) (args:=#[.pointer (some ⟨sb,0,none⟩)]) (by simp) (by simp[go_sem]) ?_;refine((Qtg b kc sb c K held _ _ _ _ A _ w w6 S6.out).1 _).mono ?_;rintro e u' w'' ⟨rfl,rfl,hD⟩;show Leaves _ _ _ _ [] .returning _;refine⟨_,results_tmp rfl _ _ w'',_,rfl,.slice A 0 c,?_⟩;unfold endO;rw[if_pos rfl];exact hD
  ·have hne:(er != 0)=true:=bne_iff_ne.2 he;go_wp2;refine leaves_cons (f:=78) (args:=#[.pointer (some ⟨sb,0,none⟩)]) (by simp) (by simp[go_sem]) ?_;refine((Qtg b kc sb c K held _ _ _ _ A _ w W4 S3.out).1 _).mono ?_;rintro e u' w'' ⟨rfl,rfl,hD⟩;show Leaves _ _ _ _ [] .returning _;refine⟨_,results_tmp rfl _ _ w'',_,rfl,.slice A 0 c,?_⟩;unfold endO;rw[if_neg he];exact hD
end Go.Proofs.YteaocbonofboeaaGreat.C
end
