/- Merged texts. -/
import Derived.Test.YteaocbonofboeaaGreatMD02
import Derived.WalkLawsBesides
import Derived.Recover
import Derived.Defers
import Derived.Test.YteaocbonofboeaaGreatMD10
import Derived.Test.YteaocbonofboeaaGreatMD06
import Derived.Test.YteaocbonofboeaaGreatMD08
import Derived.Test.YteaocbonofboeaaGreatMD20
import Derived.Test.YteaocbonofboeaaGreatMD09
import Derived.Test.YteaocbonofboeaaGreatMD21
import Derived.Test.YteaocbonofboeaaGreatMD19
import Derived.Test.YteaocbonofboeaaGreatMD18
import Derived.Test.YteaocbonofboeaaGreatMD03
import Derived.Test.YteaocbonofboeaaGreatMD05
import Derived.Test.YteaocbonofboeaaGreatMD15
import Derived.Test.YteaocbonofboeaaGreatMD16
set_option linter.unusedVariables false
set_option linter.unusedSimpArgs false
set_option maxHeartbeats 8000000
set_option maxRecDepth 100000
section
namespace Go.Proofs.YteaocbonofboeaaGreat.C
open Go.RowKit Go.Proofs.YteaocbonofboeaaGreatW.PrintWords Go.Proofs.YteaocbonofboeaaGreatW.PrintLast Go.Proofs.YteaocbonofboeaaGreatW.PrintMore
noncomputable def Qbu.f(l0:List Int):Option (Bool × Int × ByteArray × ByteArray × Int) :=
 @ite _ (CodecP.Bytes l0∧l0.length≤140737488355328) (Classical.propDecidable _) (match recL l0 with
  | .ok ((d,q,a,b),_)=>some (d,q,a,b,0)
  | .error (er,_)=>some (false,0,(⟨#[]⟩:ByteArray),(⟨#[]⟩:ByteArray),er)) none
theorem Qpw(bs:List Int):∀(f:Nat) (j i x:Int) (er i1:Int),Qph bs f j i x=.error (er,i1)→er≠0
 | 0,_,_,_,_,_=>fun h=>by cases h
 | f+1,j,i,x,er,i1=>fun h=>by
  unfold Qph at h
  repeat' split at h
  all_goals first |(cases h;decide)|exact Qpw bs f _ _ _ _ _ h|cases h
theorem Qpx{bs:List Int}{least most i er i1:Int}(h:Qpk bs least most i=.error (er,i1)):er≠0:=by
 unfold Qpk at h
 cases hv:Qph bs 10 0 i 0 with
 | error p=>rw[hv]at h;cases h;exact Qpw bs 10 0 i 0 er i1 hv
 | ok p =>
  rw[hv]at h;dsimp only at h
  repeat' split at h
  all_goals first |(cases h;decide)|cases h
theorem Qpy{bs:List Int}{er i:Int}(h:recL bs=.error (er,i)):er≠0:=by
 unfold recL at h;split at h
 ·split at h
  ·cases h;decide
  ·cases hv:Qph bs 10 0 (0+1) 0 with
   | error p=>rw[hv]at h;cases h;exact Qpw bs 10 0 _ 0 er i hv
   | ok p =>
    rw[hv]at h;dsimp only at h
    cases ht:Qpk bs 1 4096 p.2 with
    | error p=>rw[ht]at h;cases h;exact Qpx ht
    | ok p2 =>
     rw[ht]at h;dsimp only at h;split at h
     ·split at h
      ·cases h;decide
      ·cases h
     ·cases hu:Qpk bs 0 1048576 p2.2 with
      | error p=>rw[hu]at h;cases h;exact Qpx hu
      | ok p3 =>
       rw[hu]at h;dsimp only at h;split at h
       ·cases h;decide
       ·cases h
 ·cases h;decide
theorem Qpz(as_:Array Value)(W:World):(callFunc 172 as_).run Tryz.prog W=.ok (.enter 172 as_) W:=by
 simp[callFunc,Tryz.func172,Tryz.f172]
theorem Qqa{W:World}{rb lo g:Nat}{bs:List Int}(hI:IsCur W lo g bs 0)(hk:W.heap[rb]? = some (.cells #[.bool false,.int .u64 0,.string (⟨#[]⟩:ByteArray),.string (⟨#[]⟩:ByteArray)] 37 (0,0)))(hlt:rb<lo)(hg:lo≤g):RS W W rb lo g bs 0 false 0 (⟨#[]⟩:ByteArray) (⟨#[]⟩:ByteArray) :=
 ⟨hI,hk,Below.refl _ _,fun k cs t _ h _ _=>h,Nat.le_of_lt (Nat.lt_of_le_of_lt hg hI.lt),hlt⟩
theorem rec_run(A0:Option Addr)(c0:Nat)(l0:List Int)(rb:Nat)(w:World)(hb:CodecP.Bytes l0)(hl:l0.length≤140737488355328)(hr0:Kd.C (Kd.int .u8) w A0 l0.length l0)
  (hk:w.heap[rb]? = some (.cells #[.bool false,.int .u64 0,.string (⟨#[]⟩:ByteArray),.string (⟨#[]⟩:ByteArray)] 37 (0,0))) :
  Calls Tryz.prog 169 #[.slice A0 l0.length c0,.func (.func 172) #[] #[.pointer (some ⟨rb,0,none⟩)]] w fun e w'=>∃er i,e=.returned (.tuple #[.int .i64 i,.int .i64 er])∧Below rb w w' ∧
   match recL l0 with
   | .ok ((d,q,a,b),_)=>er=0∧w'.heap[rb]? = some (.cells #[.bool d,.int .u64 q,.string a,.string b] 37 (0,0))
   | .error (e0,_)=>er=e0∧∃cs,w'.heap[rb]? = some (.cells cs 37 (0,0)):=by
 have hlt:=Qda hk;refine Qpa 172 #[.pointer (some ⟨rb,0,none⟩)] A0 c0 l0 w hr0 hl Qpz (fun er _ W'=>Below rb w W' ∧
   match recL l0 with
   | .ok ((d,q,a,b),_)=>er=0∧W'.heap[rb]? = some (.cells #[.bool d,.int .u64 q,.string a,.string b] 37 (0,0))
   | .error (e0,_)=>er=e0∧∃cs,W'.heap[rb]? = some (.cells cs 37 (0,0))) ?_ ?_
 ·rintro er i W W' ⟨h1,h2⟩ h3;refine⟨h1.trans (Qis h3 (Nat.le_of_lt hlt)),?_⟩
  cases hrec:recL l0 with
  | ok p =>
   obtain⟨⟨d,q,a,b⟩,j⟩:=p;rw[hrec]at h2;exact⟨h2.1,(h3.block rb hlt).trans h2.2⟩
  | error p =>
   rw[hrec]at h2;obtain⟨h4,cs,h5⟩:=h2;exact⟨h4,cs,(h3.block rb hlt).trans h5⟩
 ·intro W g hg hB hI;have hk2:=(hB.block rb hlt).trans hk;refine(rec_all rb w.heap.size g l0 hb hl hg W (Qqa hI hk2 hlt hg)).mono ?_;intro e W' h;have hB2:Below rb w W:=Qis hB (Nat.le_of_lt hlt)
  cases hrec:recL l0 with
  | ok p =>
   obtain⟨⟨d,q,a,b⟩,j⟩:=p;rw[hrec]at h;obtain⟨h1,h2⟩:=h;exact⟨j,h2.1,h2.2.2.2.1,.inl ⟨h1,hB2.trans h2.2.2.1,rfl,h2.2.1⟩⟩
  | error p =>
   obtain⟨e0,j⟩:=p;rw[hrec]at h;obtain⟨h1,d,q,a,b,h2⟩:=h;exact⟨j,h2.1,h2.2.2.2.1,.inr ⟨e0,h1,hB2.trans h2.2.2.1,rfl,_,h2.2.1⟩⟩
theorem Qbu.calls(A0:Option Addr)(c0:Nat)(l0:List Int)(r1:Bool)(r2:Int)(r3 r4:ByteArray)(r5:Int)(w:World)(hr0:Kd.C (Kd.int .u8) w A0 l0.length l0)(hc0:l0.length≤c0)(h:Qbu.f l0=some (r1,r2,r3,r4,r5)) :
  Calls Tryz.prog 121 #[.slice A0 l0.length c0] w fun e w'=>e=.returned (.tuple #[.agg #[.bool r1,.int .u64 r2,.string r3,.string r4],.int .i64 r5])∧Below w.heap.size w w':=by
 unfold Qbu.f at h
 by_cases hg:CodecP.Bytes l0∧l0.length≤140737488355328
 ·rw[if_pos hg]at h;have hu:=Tryz.underlying37;have HG:=QA hg;have c:=QA hr0;obtain⟨z0,hz0⟩:∃z:Obj,z=.cells #[.bool false,.int .u64 0,.string (⟨#[]⟩:ByteArray),.string (⟨#[]⟩:ByteArray)] 37 (0,0):=⟨_,rfl⟩;have b0:Below w.heap.size w ((w.alloc z0).alloc z0):=Qce (Qce (Below.refl _ _) _) _;have hsz:((w.alloc z0).alloc z0).heap.size=w.heap.size+2:=by simp[World.size_alloc]
  have k1:=Qdl (Qdp w z0) z0;have k2:=Qdp (w.alloc z0) z0;rw[World.size_alloc]at k2;subst hz0;have RUN:=QA (rec_run A0 c0 l0 (w.heap.size+1) _ hg.1 hg.2 (Kd.C_below hr0 b0) k2);have B0:=QA b0;have K1:=QA k1;clear hg hr0 b0 k1 k2 hsz
  cases hrec:recL l0 with
  | ok p =>
   obtain⟨⟨d,q,a,b⟩,i0⟩:=p;rw[hrec]at h;simp only[Option.some.injEq,Prod.mk.injEq]at h;obtain⟨rfl,rfl,rfl,rfl,rfl⟩:=h;rw[hrec]at RUN;clear hrec
   go_enter Tryz.func121,Tryz.ntmps121
   go_wp2_with (go_at_call 169;refine RUN.out.mono ?_;rintro ee w3 ⟨er,i,rfl,hb3,rfl,hk3⟩;have hr3:=(hb3.block w.heap.size (Nat.lt_succ_self _)).trans K1.out;obtain⟨d0,d1,d2,d3⟩:=box4 hk3;obtain⟨e0,e1,e2,e3⟩:=box4 hr3;have g0:=Qdc hr3 0;have g1:=Qdc hr3 1;have g2:=Qdc hr3 2;have g3:=Qdc hr3 3)
   have hbb:Below w.heap.size w w3:=B0.out.trans (Qis hb3 (Nat.le_succ _));refine bodyPost_ret (Qdq rfl _ _ w.heap.size 37 #[.bool d,.int .u64 q,.string a,.string b] (0,0) _ rfl (Qcy (Qcy (Qcy (Qcy hr3 0 _) 1 _) 2 _) 3 _) hu rfl qq_4) rfl ?_;exact⟨rfl,Qir (Qir (Qir (Qir hbb (Nat.le_refl _)) (Nat.le_refl _)) (Nat.le_refl _)) (Nat.le_refl _)⟩
  | error p =>
   obtain⟨y0,i0⟩:=p;rw[hrec]at h;simp only[Option.some.injEq,Prod.mk.injEq]at h;obtain⟨rfl,rfl,rfl,rfl,rfl⟩:=h;have hne:(y0 != 0)=true:=bne_iff_ne.2 (Qpy hrec);rw[hrec]at RUN;clear hrec
   go_enter Tryz.func121,Tryz.ntmps121
   go_wp2_with (go_at_call 169;refine RUN.out.mono ?_;rintro ee w3 ⟨er,i,rfl,hb3,rfl,cs,hk3⟩;have hr3:=(hb3.block w.heap.size (Nat.lt_succ_self _)).trans K1.out;obtain⟨e0,e1,e2,e3⟩:=box4 hr3;have g0:=Qdc hr3 0;have g1:=Qdc hr3 1;have g2:=Qdc hr3 2;have g3:=Qdc hr3 3)
   have hbb:Below w.heap.size w w3:=B0.out.trans (Qis hb3 (Nat.le_succ _));refine bodyPost_ret (Qdq rfl _ _ w.heap.size 37 #[.bool false,.int .u64 0,.string (⟨#[]⟩:ByteArray),.string (⟨#[]⟩:ByteArray)] (0,0) _ rfl (Qcy (Qcy (Qcy (Qcy hr3 0 _) 1 _) 2 _) 3 _) hu rfl qq_4) rfl ?_;exact⟨rfl,Qir (Qir (Qir (Qir hbb (Nat.le_refl _)) (Nat.le_refl _)) (Nat.le_refl _)) (Nat.le_refl _)⟩
 ·rw[if_neg hg]at h;cases h
noncomputable def Qbd.f(k:Nat)(l0:List Int):Option (Bool × Int × ByteArray × ByteArray × Int):=(Qbe.f k l0).bind fun t=>if t.2=0 then Qbu.f t.1 else some (false,0,(⟨#[]⟩:ByteArray),(⟨#[]⟩:ByteArray),t.2)
theorem Qbd.calls(k:Nat)(A0:Option Addr)(c0:Nat)(l0:List Int)(r1:Bool)(r2:Int)(r3 r4:ByteArray)(r5:Int)(w:World)(hr0:Kd.C (Kd.int .u8) w A0 l0.length l0)(hc0:l0.length≤c0)(h:Qbd.f k l0=some (r1,r2,r3,r4,r5)) :
  Calls Tryz.prog 69 #[.slice A0 l0.length c0] w fun e w'=>e=.returned (.tuple #[.agg #[.bool r1,.int .u64 r2,.string r3,.string r4],.int .i64 r5])∧Below w.heap.size w w':=by
 unfold Qbd.f at h;obtain⟨⟨out,e0⟩,hU,h⟩:=Option.bind_eq_some_iff.mp h;dsimp only at h;have hu:=Tryz.underlying37;obtain⟨z0,hz0⟩:∃z:Obj,z=.cells #[.bool false,.int .u64 0,.string (⟨#[]⟩:ByteArray),.string (⟨#[]⟩:ByteArray)] 37 (0,0):=⟨_,rfl⟩;have b0:Below w.heap.size w (w.alloc z0):=Qce (Below.refl _ _) _;have k1:=Qdp w z0;subst hz0;have HU:=QA (Qbe.calls k A0 c0 l0 out e0 _ (Kd.C_below hr0 b0) hc0 hU);have B0:=QA b0;have K1:=QA k1;clear hU hr0 b0 k1 hc0
 by_cases he:e0=0
 ·subst he;rw[if_pos rfl]at h;have HH:=QA h;clear h
  go_enter Tryz.func69,Tryz.ntmps69
  go_wp2_with (first
   |(go_at_call 120;refine HU.out.mono ?_;rintro ee w1 ⟨A1,c1,rfl,hC1,hlc1,hb1⟩;have b:=QA hC1;have HLC1:=QA hlc1;clear hC1 hlc1)
   |(go_at_call 121;refine(Qbu.calls A1 c1 out r1 r2 r3 r4 r5 _ b.out HLC1.out HH.out).mono ?_;rintro ee w2 ⟨rfl,hb2⟩;have a:=QA (hb1.trans (Qis hb2 hb1.size));have hr3:=(a.out.block w.heap.size (Qda K1.out)).trans K1.out;obtain⟨q0,q1,q2,q3⟩:=box4 hr3;have g0:=Qdc hr3 0;have g1:=Qdc hr3 1;have g2:=Qdc hr3 2;have g3:=Qdc hr3 3;clear hb2 hb1))
  have hbb:Below w.heap.size w w2:=B0.out.trans (Qis a.out B0.out.size);refine bodyPost_ret (Qdq rfl _ _ w.heap.size 37 #[.bool r1,.int .u64 r2,.string r3,.string r4] (0,0) _ rfl (Qcy (Qcy (Qcy (Qcy hr3 0 _) 1 _) 2 _) 3 _) hu rfl qq_4) rfl ?_;exact⟨rfl,Qir (Qir (Qir (Qir hbb (Nat.le_refl _)) (Nat.le_refl _)) (Nat.le_refl _)) (Nat.le_refl _)⟩
 ·rw[if_neg he]at h;simp only[Option.some.injEq,Prod.mk.injEq]at h;obtain⟨rfl,rfl,rfl,rfl,rfl⟩:=h;have hne:(e0 != 0)=true:=bne_iff_ne.2 he
  go_enter Tryz.func69,Tryz.ntmps69
  go_wp2_with (first
   |(go_at_call 120;refine HU.out.mono ?_;rintro ee w1 ⟨A1,c1,rfl,hC1,hlc1,hb1⟩;have a:=QA hb1;have hr3:=(hb1.block w.heap.size (Qda K1.out)).trans K1.out;obtain⟨q0,q1,q2,q3⟩:=box4 hr3;have g0:=Qdc hr3 0;have g1:=Qdc hr3 1;have g2:=Qdc hr3 2;have g3:=Qdc hr3 3;clear hb1 hC1 hlc1))
  have hbb:Below w.heap.size w w1:=B0.out.trans (Qis a.out B0.out.size);refine bodyPost_ret (Qdq rfl _ _ w.heap.size 37 #[.bool false,.int .u64 0,.string (⟨#[]⟩:ByteArray),.string (⟨#[]⟩:ByteArray)] (0,0) _ rfl (Qcy (Qcy (Qcy (Qcy hr3 0 _) 1 _) 2 _) 3 _) hu rfl qq_4) rfl ?_;exact⟨rfl,Qir (Qir (Qir (Qir hbb (Nat.le_refl _)) (Nat.le_refl _)) (Nat.le_refl _)) (Nat.le_refl _)⟩
theorem IsCur.farT{W:World}{b g rb j:Nat}{bs:List Int}{i:Int}{u:Value}{cs:Array Value}{t:TypeId}(h:IsCur W b g bs i)(hr:W.heap[rb]? = some (.cells cs t (0,0)))(ht:t≠5∧t≠300):IsCur (W.setCell ⟨rb,j,none⟩ u) b g bs i:=by
 obtain⟨v,h1,h2⟩:=h;exact⟨v,Qcz h1 (p:=⟨rb,j,none⟩) (Qde h1 hr (fun e=>ht.2 e.symm)) u,h2.set hr (fun e=>ht.1 e.symm) j u⟩
def FS(w W:World)(fb xb lo g:Nat)(bs:List Int)(i:Int)(u:Int)(tv fv:Value):Prop :=
 IsCur W lo g bs i∧W.heap[fb]? = some (.cells #[.int .u32 u,tv] 134 (0,0))∧W.heap[xb]? = some (.cells #[fv] 93 (0,0))∧Below fb w W∧Tl lo g w W∧lo≤W.heap.size∧fb<xb∧xb<lo
section
variable {w W W':World} {fb xb lo g:Nat} {bs:List Int} {i j u:Int} {tv fv:Value}
theorem FS.le(h:FS w W fb xb lo g bs i u tv fv):lo≤W.heap.size:=h.2.2.2.2.2.1
theorem FS.cur(h:FS w W fb xb lo g bs i u tv fv)(hI:IsCur W' lo g bs j)(hb:Bw lo g W W'):FS w W' fb xb lo g bs j u tv fv:=by
 obtain⟨h1,h2,h3,h4,h5,h6,h7,h8⟩:=h;exact⟨hI,(hb.1.block fb (by omega)).trans h2,(hb.1.block xb h8).trans h3,h4.trans (Qis hb.1 (by omega)),fun k cs t q1 q2 q3 q4=>hb.2 _ _ _ (h5 _ _ _ q1 q2 q3 q4) q3 q4,Nat.le_trans h6 hb.size,h7,h8⟩
theorem FS.tl(h:FS w W fb xb lo g bs i u tv fv)(b n:Nat)(hb:b<lo)(x:Value):Tl lo g w (W.setCell ⟨b,n,none⟩ x):=fun k cs t h1 h2 h3 h4=>Qcz (h.2.2.2.2.1 _ _ _ h1 h2 h3 h4) (p:=⟨b,n,none⟩) (by show k≠b;omega) x
theorem FS.size(h:FS w W fb xb lo g bs i u tv fv)(b n:Nat)(x:Value):lo≤(W.setCell ⟨b,n,none⟩ x).heap.size:=by simpa [World.setCell]using h.le
theorem FS.su(h:FS w W fb xb lo g bs i u tv fv)(x:Int):FS w (W.setCell ⟨fb,0,none⟩ (.int .u32 x)) fb xb lo g bs i x tv fv :=
 ⟨h.1.farT h.2.1 (by decide),Qcy h.2.1 0 _,Qcz h.2.2.1 (p:=⟨fb,0,none⟩) (by have:=h.2.2.2.2.2.2.1;show xb≠fb;omega) _,Qir h.2.2.2.1 (Nat.le_refl _),h.tl fb 0 (by have:=h.2.2.2.2.2.2;omega) _,h.size _ _ _,h.2.2.2.2.2.2⟩
theorem FS.st(h:FS w W fb xb lo g bs i u tv fv)(x:Value):FS w (W.setCell ⟨fb,1,none⟩ x) fb xb lo g bs i u x fv :=
 ⟨h.1.farT h.2.1 (by decide),Qcy h.2.1 1 _,Qcz h.2.2.1 (p:=⟨fb,1,none⟩) (by have:=h.2.2.2.2.2.2.1;show xb≠fb;omega) _,Qir h.2.2.2.1 (Nat.le_refl _),h.tl fb 1 (by have:=h.2.2.2.2.2.2;omega) _,h.size _ _ _,h.2.2.2.2.2.2⟩
theorem FS.sf(h:FS w W fb xb lo g bs i u tv fv)(x:Value):FS w (W.setCell ⟨xb,0,none⟩ x) fb xb lo g bs i u tv x :=
 ⟨h.1.farT h.2.2.1 (by decide),Qcz h.2.1 (p:=⟨xb,0,none⟩) (by have:=h.2.2.2.2.2.2.1;show fb≠xb;omega) _,Qcy h.2.2.1 0 _,Qir h.2.2.2.1 (by have:=h.2.2.2.2.2.2.1;show fb≤xb;omega),h.tl xb 0 h.2.2.2.2.2.2.2 _,h.size _ _ _,h.2.2.2.2.2.2⟩
theorem FS.cells(h:FS w W fb xb lo g bs i u tv fv):(W.cell? ⟨fb,0,none⟩=some (.int .u32 u)∧W.cell? ⟨fb,1,none⟩=some tv∧W.cell? ⟨xb,0,none⟩=some fv)∧W.frozen? ⟨fb,0,none⟩=false∧W.frozen? ⟨fb,1,none⟩=false∧W.frozen? ⟨xb,0,none⟩=false :=
 ⟨⟨(Qdb h.2.1 0).trans rfl,(Qdb h.2.1 1).trans rfl,(Qdb h.2.2.1 0).trans rfl⟩,Qdc h.2.1 0,Qdc h.2.1 1,Qdc h.2.2.1 0⟩
end
theorem Qqt(n:Nat)(h:n≤4611686018427387903):Qbb.f (n:Int)=some (((n+15)/16:Nat):Int):=by
 have e:mx 0 (n:Int)=(n:Int):=by unfold mx;split<;>omega
 unfold Qbb.f;rw[e];have e1:wrap64 ((n:Int)+16)=(n:Int)+16:=by unfold wrap64;omega
 have e2:wrap64 ((n:Int)+16-1)=((n+15:Nat):Int):=by unfold wrap64;omega
 have e3:Int.tdiv ((n+15:Nat):Int) 16=(((n+15)/16:Nat):Int):=rfl;rw[e1,e2,e3]
 congr 1
 unfold wrap64;omega
theorem fg_none(k fb xb lo g:Nat)(bs:List Int)(hb:CodecP.Bytes bs)(hl:bs.length≤100000000000)(hlg:lo≤g)(w:World)(hS:FS w w fb xb lo g bs 0 0 (.slice none 0 0) (.slice none 0 0))(h1:¬1≤bs.length) :
  Calls Tryz.prog 178 #[.pointer (some ⟨g,0,none⟩),.pointer (some ⟨fb,0,none⟩),.pointer (some ⟨xb,0,none⟩)] w fun e W'=>∃er,er≠0∧e=.panicked [Qlq g er]∧∃i u tv fv,FS w W' fb xb lo g bs i u tv fv:=by
 have HS:=QA hS;have HB:=QA hb;have hl2:bs.length≤140737488355328:=by omega
 have hft:=Tryz.underlying134;clear hS hb
 go_enter Tryz.func178,Tryz.ntmps178
 go_wp2_with (first
  |(go_at_call 173;refine(Qoo lo g bs 0 ⟨Int.le_refl _,by omega⟩ hl2 (by omega) _ HS.out.le HS.out.1).mono ?_;rintro ee w1 ⟨rfl,hI1,hB1⟩))
 exact⟨rfl,2,by decide,rfl,_,_,_,_,HS.out.cur hI1 hB1⟩
theorem fg_kind(k fb xb lo g:Nat)(bs:List Int)(hb:CodecP.Bytes bs)(hl:bs.length≤100000000000)(hlg:lo≤g)(w:World)(hS:FS w w fb xb lo g bs 0 0 (.slice none 0 0) (.slice none 0 0))(h1:1≤bs.length)(y:Int)(hy:y=YteaocbonofboeaaGreatW.PrintWords.rd bs 0)(h4:y≠4) :
  Calls Tryz.prog 178 #[.pointer (some ⟨g,0,none⟩),.pointer (some ⟨fb,0,none⟩),.pointer (some ⟨xb,0,none⟩)] w fun e W'=>∃er,er≠0∧e=.panicked [Qlq g er]∧∃i u tv fv,FS w W' fb xb lo g bs i u tv fv:=by
 have HS:=QA hS;have HB:=QA hb;have hl2:bs.length≤140737488355328:=by omega
 have hft:=Tryz.underlying134;have HY:=QA hy;have h4b:(y != 4)=true:=bne_iff_ne.2 h4;clear hS hb hy
 go_enter Tryz.func178,Tryz.ntmps178
 go_wp2_with (first
  |(go_at_call 174;refine(Qls lo g bs 1 4 (by decide) _ S1.out.1).mono ?_;rintro ee w9 ⟨rfl,rfl⟩)
  |(go_at_call 173;refine(Qpg lo g bs 0 y HY.out HB.out (Int.le_refl _) hl2 (by omega) hlg _ HS.out.le HS.out.1).mono ?_;rintro ee w1 ⟨rfl,hI1,hB1⟩;have S1:=QA (HS.out.cur (j:=1) hI1 hB1);clear hI1 hB1))
 exact⟨rfl,4,by decide,rfl,_,_,_,_,S1.out⟩
theorem fg_n(k fb xb lo g:Nat)(bs:List Int)(hb:CodecP.Bytes bs)(hl:bs.length≤100000000000)(hlg:lo≤g)(w:World)(hS:FS w w fb xb lo g bs 0 0 (.slice none 0 0) (.slice none 0 0))(h1:1≤bs.length)(y:Int)(hy:y=YteaocbonofboeaaGreatW.PrintWords.rd bs 0)(h4:y=4)(h2:¬5≤bs.length) :
  Calls Tryz.prog 178 #[.pointer (some ⟨g,0,none⟩),.pointer (some ⟨fb,0,none⟩),.pointer (some ⟨xb,0,none⟩)] w fun e W'=>∃er,er≠0∧e=.panicked [Qlq g er]∧∃i u tv fv,FS w W' fb xb lo g bs i u tv fv:=by
 have HS:=QA hS;have HB:=QA hb;have hl2:bs.length≤140737488355328:=by omega
 have hft:=Tryz.underlying134;have HY:=QA hy;have h4b:(y != 4)=false:=bne_eq_false_iff_eq.2 h4;clear hS hb hy
 go_enter Tryz.func178,Tryz.ntmps178
 go_wp2_with (first
  |(go_at_call 179;refine(Qqi lo g bs 1 ⟨by decide,by omega⟩ hl2 (by omega) _ S1.out.le S1.out.1).mono ?_;rintro ee w2 ⟨rfl,hI2,hB2⟩)
  |(go_at_call 173;refine(Qpg lo g bs 0 y HY.out HB.out (Int.le_refl _) hl2 (by omega) hlg _ HS.out.le HS.out.1).mono ?_;rintro ee w1 ⟨rfl,hI1,hB1⟩;have S1:=QA (HS.out.cur (j:=1) hI1 hB1);clear hI1 hB1))
 exact⟨rfl,2,by decide,rfl,_,_,_,_,S1.out.cur hI2 hB2⟩
theorem fg_big(k fb xb lo g:Nat)(bs:List Int)(hb:CodecP.Bytes bs)(hl:bs.length≤100000000000)(hlg:lo≤g)(w:World)(hS:FS w w fb xb lo g bs 0 0 (.slice none 0 0) (.slice none 0 0))(h1:1≤bs.length)(y:Int)(hy:y=YteaocbonofboeaaGreatW.PrintWords.rd bs 0)(h4:y=4)(h2:5≤bs.length)(n:Nat)(hn:(n:Int)=CodecP.leI ((bs.drop 1).take 4))(a:¬n≤1048576) :
  Calls Tryz.prog 178 #[.pointer (some ⟨g,0,none⟩),.pointer (some ⟨fb,0,none⟩),.pointer (some ⟨xb,0,none⟩)] w fun e W'=>∃er,er≠0∧e=.panicked [Qlq g er]∧∃i u tv fv,FS w W' fb xb lo g bs i u tv fv:=by
 have HS:=QA hS;have HB:=QA hb;have hl2:bs.length≤140737488355328:=by omega
 have hft:=Tryz.underlying134;have HY:=QA hy;have b:(y != 4)=false:=bne_eq_false_iff_eq.2 h4;obtain⟨N,hN⟩:∃N:Int,N=(n:Int):=⟨_,rfl⟩;have HNN:=QA hN;have HN:Aside0 (N=CodecP.leI ((bs.drop (1:Int).toNat).take 4)):=⟨by rw[hN];exact hn⟩;have hnb:decide (1048576<N)=true:=decide_eq_true (by omega);clear hS hb hy hn hN
 go_enter Tryz.func178,Tryz.ntmps178
 go_wp2_with (first
  |(go_at_call 174;refine(Qls lo g bs 5 3 (by decide) _ S2.out.1).mono ?_;rintro ee w9 ⟨rfl,rfl⟩)
  |(go_at_call 179;refine(Qqh lo g bs 1 N HN.out HB.out (by decide) hl2 (by omega) hlg _ S1.out.le S1.out.1).mono ?_;rintro ee w2 ⟨rfl,hI2,hB2⟩;have S2:=QA (S1.out.cur (j:=5) hI2 hB2);clear hI2 hB2)
  |(go_at_call 173;refine(Qpg lo g bs 0 y HY.out HB.out (Int.le_refl _) hl2 (by omega) hlg _ HS.out.le HS.out.1).mono ?_;rintro ee w1 ⟨rfl,hI1,hB1⟩;have S1:=QA (HS.out.cur (j:=1) hI1 hB1);clear hI1 hB1))
 exact⟨rfl,3,by decide,rfl,_,_,_,_,S2.out⟩
theorem fg_u(k fb xb lo g:Nat)(bs:List Int)(hb:CodecP.Bytes bs)(hl:bs.length≤100000000000)(hlg:lo≤g)(w:World)(hS:FS w w fb xb lo g bs 0 0 (.slice none 0 0) (.slice none 0 0))(h1:1≤bs.length)(y:Int)(hy:y=YteaocbonofboeaaGreatW.PrintWords.rd bs 0)(h4:y=4)(h2:5≤bs.length)(n:Nat)(hn:(n:Int)=CodecP.leI ((bs.drop 1).take 4))(a:n≤1048576)(h3:¬9≤bs.length) :
  Calls Tryz.prog 178 #[.pointer (some ⟨g,0,none⟩),.pointer (some ⟨fb,0,none⟩),.pointer (some ⟨xb,0,none⟩)] w fun e W'=>∃er,er≠0∧e=.panicked [Qlq g er]∧∃i u tv fv,FS w W' fb xb lo g bs i u tv fv:=by
 have HS:=QA hS;have HB:=QA hb;have hl2:bs.length≤140737488355328:=by omega
 have hft:=Tryz.underlying134;have HY:=QA hy;have b:(y != 4)=false:=bne_eq_false_iff_eq.2 h4;obtain⟨N,hN⟩:∃N:Int,N=(n:Int):=⟨_,rfl⟩;have HNN:=QA hN;have HN:Aside0 (N=CodecP.leI ((bs.drop (1:Int).toNat).take 4)):=⟨by rw[hN];exact hn⟩;have hnb:decide (1048576<N)=false:=decide_eq_false (by omega);have hnw:IntKind.i64.wrap N=N:=IntWalk.i64_in _ (by omega);clear hS hb hy hn hN
 go_enter Tryz.func178,Tryz.ntmps178
 go_wp2_with (first
  |(go_at_call 179;refine(Qqi lo g bs 5 ⟨by decide,by omega⟩ hl2 (by omega) _ S2.out.le S2.out.1).mono ?_;rintro ee w3 ⟨rfl,hI3,hB3⟩)
  |(go_at_call 179;refine(Qqh lo g bs 1 N HN.out HB.out (by decide) hl2 (by omega) hlg _ S1.out.le S1.out.1).mono ?_;rintro ee w2 ⟨rfl,hI2,hB2⟩;have S2:=QA (S1.out.cur (j:=5) hI2 hB2);clear hI2 hB2)
  |(go_at_call 173;refine(Qpg lo g bs 0 y HY.out HB.out (Int.le_refl _) hl2 (by omega) hlg _ HS.out.le HS.out.1).mono ?_;rintro ee w1 ⟨rfl,hI1,hB1⟩;have S1:=QA (HS.out.cur (j:=1) hI1 hB1);clear hI1 hB1))
 exact⟨rfl,2,by decide,rfl,_,_,_,_,S2.out.cur hI3 hB3⟩
theorem fg_tab(k fb xb lo g:Nat)(bs:List Int)(hb:CodecP.Bytes bs)(hl:bs.length≤100000000000)(hlg:lo≤g)(w:World)(hS:FS w w fb xb lo g bs 0 0 (.slice none 0 0) (.slice none 0 0))(h1:1≤bs.length)(y:Int)(hy:y=YteaocbonofboeaaGreatW.PrintWords.rd bs 0)(h4:y=4)(h2:5≤bs.length)(n:Nat)(hn:(n:Int)=CodecP.leI ((bs.drop 1).take 4))(a:n≤1048576)(h3:9≤bs.length)(u:Int)(hu:u=CodecP.leI ((bs.drop 5).take 4))(h5:¬9+12*n≤bs.length) :
  Calls Tryz.prog 178 #[.pointer (some ⟨g,0,none⟩),.pointer (some ⟨fb,0,none⟩),.pointer (some ⟨xb,0,none⟩)] w fun e W'=>∃er,er≠0∧e=.panicked [Qlq g er]∧∃i u tv fv,FS w W' fb xb lo g bs i u tv fv:=by
 have HS:=QA hS;have HB:=QA hb;have hl2:bs.length≤140737488355328:=by omega
 have hft:=Tryz.underlying134;have HY:=QA hy;have b:(y != 4)=false:=bne_eq_false_iff_eq.2 h4;obtain⟨N,hN⟩:∃N:Int,N=(n:Int):=⟨_,rfl⟩;have HNN:=QA hN;have HN:Aside0 (N=CodecP.leI ((bs.drop (1:Int).toNat).take 4)):=⟨by rw[hN];exact hn⟩;have hnb:decide (1048576<N)=false:=decide_eq_false (by omega);have hnw:IntKind.i64.wrap N=N:=IntWalk.i64_in _ (by omega);have HU:Aside0 (u=CodecP.leI ((bs.drop (5:Int).toNat).take 4)):=⟨hu⟩;have HH5:=QA h5;clear hS hb hy hn hu hN
 go_enter Tryz.func178,Tryz.ntmps178
 go_wp2_with (first
  |(go_at_call 180;refine(Qqr lo g bs 9 N ⟨by decide,by omega⟩ hl2 (by have:=HNN.out;omega) (by have:=HNN.out;have:=HH5.out;omega) _ T3.out.le T3.out.1).mono ?_;rintro ee w4 ⟨rfl,hI4,hB4⟩)
  |(go_at_call 179;refine(Qqh lo g bs 5 u HU.out HB.out (by decide) hl2 (by omega) hlg _ S2.out.le S2.out.1).mono ?_;rintro ee w3 ⟨rfl,hI3,hB3⟩;have S3:=QA (S2.out.cur (j:=9) hI3 hB3);obtain⟨⟨c,d,h⟩,f30,f31,f32⟩:=S3.out.cells;have T3:=QA (S3.out.su u);clear hI3 hB3)
  |(go_at_call 179;refine(Qqh lo g bs 1 N HN.out HB.out (by decide) hl2 (by omega) hlg _ S1.out.le S1.out.1).mono ?_;rintro ee w2 ⟨rfl,hI2,hB2⟩;have S2:=QA (S1.out.cur (j:=5) hI2 hB2);clear hI2 hB2)
  |(go_at_call 173;refine(Qpg lo g bs 0 y HY.out HB.out (Int.le_refl _) hl2 (by omega) hlg _ HS.out.le HS.out.1).mono ?_;rintro ee w1 ⟨rfl,hI1,hB1⟩;have S1:=QA (HS.out.cur (j:=1) hI1 hB1);clear hI1 hB1))
 exact⟨rfl,2,by decide,rfl,_,_,_,_,T3.out.cur hI4 hB4⟩
theorem fg_ris(k fb xb lo g:Nat)(bs:List Int)(hb:CodecP.Bytes bs)(hl:bs.length≤100000000000)(hlg:lo≤g)(w:World)(hS:FS w w fb xb lo g bs 0 0 (.slice none 0 0) (.slice none 0 0))(h1:1≤bs.length)(y:Int)(hy:y=YteaocbonofboeaaGreatW.PrintWords.rd bs 0)(h4:y=4)(h2:5≤bs.length)(n:Nat)(hn:(n:Int)=CodecP.leI ((bs.drop 1).take 4))(a:n≤1048576)(h3:9≤bs.length)(u:Int)(hu:u=CodecP.leI ((bs.drop 5).take 4))(h5:9+12*n≤bs.length)(hr:Qcb.f k (Qqo bs 9 n)=some false) :
  Calls Tryz.prog 178 #[.pointer (some ⟨g,0,none⟩),.pointer (some ⟨fb,0,none⟩),.pointer (some ⟨xb,0,none⟩)] w fun e W'=>∃er,er≠0∧e=.panicked [Qlq g er]∧∃i u tv fv,FS w W' fb xb lo g bs i u tv fv:=by
 have HS:=QA hS;have HB:=QA hb;have hl2:bs.length≤140737488355328:=by omega
 have hft:=Tryz.underlying134;have HY:=QA hy;have b:(y != 4)=false:=bne_eq_false_iff_eq.2 h4;obtain⟨N,hN⟩:∃N:Int,N=(n:Int):=⟨_,rfl⟩;have HNN:=QA hN;have HN:Aside0 (N=CodecP.leI ((bs.drop (1:Int).toNat).take 4)):=⟨by rw[hN];exact hn⟩;have hnb:decide (1048576<N)=false:=decide_eq_false (by omega);have hnw:IntKind.i64.wrap N=N:=IntWalk.i64_in _ (by omega);have HU:Aside0 (u=CodecP.leI ((bs.drop (5:Int).toNat).take 4)):=⟨hu⟩;have HH5:=QA h5;have HR:=QA hr;clear hS hb hy hn hu hr hN
 go_enter Tryz.func178,Tryz.ntmps178
 go_wp2_with (first
  |(go_at_call 180;refine(Qqs k lo g bs 9 n N HNN.out false HB.out hl HH5.out HR.out hlg _ T3.out.le T3.out.1).mono ?_;rintro ee w4 ⟨hI4,hB4,⟨hf,_⟩ |⟨_,rfl⟩⟩;(exact absurd hf (by decide)))
  |(go_at_call 179;refine(Qqh lo g bs 5 u HU.out HB.out (by decide) hl2 (by omega) hlg _ S2.out.le S2.out.1).mono ?_;rintro ee w3 ⟨rfl,hI3,hB3⟩;have S3:=QA (S2.out.cur (j:=9) hI3 hB3);obtain⟨⟨c,d,h⟩,f30,f31,f32⟩:=S3.out.cells;have T3:=QA (S3.out.su u);clear hI3 hB3)
  |(go_at_call 179;refine(Qqh lo g bs 1 N HN.out HB.out (by decide) hl2 (by omega) hlg _ S1.out.le S1.out.1).mono ?_;rintro ee w2 ⟨rfl,hI2,hB2⟩;have S2:=QA (S1.out.cur (j:=5) hI2 hB2);clear hI2 hB2)
  |(go_at_call 173;refine(Qpg lo g bs 0 y HY.out HB.out (Int.le_refl _) hl2 (by omega) hlg _ HS.out.le HS.out.1).mono ?_;rintro ee w1 ⟨rfl,hI1,hB1⟩;have S1:=QA (HS.out.cur (j:=1) hI1 hB1);clear hI1 hB1))
 exact⟨rfl,8,by decide,rfl,_,_,_,_,T3.out.cur hI4 hB4⟩
theorem fg_fen(k fb xb lo g:Nat)(bs:List Int)(hb:CodecP.Bytes bs)(hl:bs.length≤100000000000)(hlg:lo≤g)(w:World)(hS:FS w w fb xb lo g bs 0 0 (.slice none 0 0) (.slice none 0 0))(h1:1≤bs.length)(y:Int)(hy:y=YteaocbonofboeaaGreatW.PrintWords.rd bs 0)(h4:y=4)(h2:5≤bs.length)(n:Nat)(hn:(n:Int)=CodecP.leI ((bs.drop 1).take 4))(a:n≤1048576)(h3:9≤bs.length)(u:Int)(hu:u=CodecP.leI ((bs.drop 5).take 4))(h5:9+12*n≤bs.length)(hr:Qcb.f k (Qqo bs 9 n)=some true)(m:Nat)(hm:m=(n+15)/16)(h6:¬9+12*n+8*m≤bs.length) :
  Calls Tryz.prog 178 #[.pointer (some ⟨g,0,none⟩),.pointer (some ⟨fb,0,none⟩),.pointer (some ⟨xb,0,none⟩)] w fun e W'=>∃er,er≠0∧e=.panicked [Qlq g er]∧∃i u tv fv,FS w W' fb xb lo g bs i u tv fv:=by
 have HS:=QA hS;have HB:=QA hb;have hl2:bs.length≤140737488355328:=by omega
 have hft:=Tryz.underlying134;have HY:=QA hy;have b:(y != 4)=false:=bne_eq_false_iff_eq.2 h4;obtain⟨N,hN⟩:∃N:Int,N=(n:Int):=⟨_,rfl⟩;have HNN:=QA hN;have HN:Aside0 (N=CodecP.leI ((bs.drop (1:Int).toNat).take 4)):=⟨by rw[hN];exact hn⟩;have hnb:decide (1048576<N)=false:=decide_eq_false (by omega);have hnw:IntKind.i64.wrap N=N:=IntWalk.i64_in _ (by omega);have HU:Aside0 (u=CodecP.leI ((bs.drop (5:Int).toNat).take 4)):=⟨hu⟩;have HH5:=QA h5;have HR:=QA hr;obtain⟨M,hM⟩:∃M:Int,M=(m:Int):=⟨_,rfl⟩;have HM:=QA hM;have HC:Aside0 (Qbb.f N=some M):=⟨by rw[hM,hm,hN];exact Qqt n (by omega)⟩;have HH6:=QA h6;clear hS hb hy hn hu hr hm hM hN
 go_enter Tryz.func178,Tryz.ntmps178
 go_wp2_with (first
  |(go_at_call 181;refine(Qqm lo g bs ((9+12*n:Nat):Int) M ⟨by omega,by have:=HH5.out;omega⟩ hl2 (by have:=HM.out;omega) (by have:=HM.out;have:=HH5.out;have:=HH6.out;omega) _ T4B.out.le T4B.out.1).mono ?_;rintro ee w5 ⟨rfl,hI5,hB5⟩)
  |(go_at_call 182;refine(Qbb.calls N M _ HC.out).mono ?_;rintro ee c ⟨rfl,hb4b⟩;have T4B:=QA (T4.out.cur (T4.out.1.kept hb4b) (Bw.below hb4b T4.out.le));have R4B:=QA (Kd.R_below R4.out hb4b);clear hb4b)
  |(go_at_call 180;refine(Qqs k lo g bs 9 n N HNN.out true HB.out hl HH5.out HR.out hlg _ T3.out.le T3.out.1).mono ?_;rintro ee w4 ⟨hI4,hB4,⟨_,tv,rfl,hR4⟩ |⟨hf,_⟩⟩;rotate_left;(exact absurd hf (by decide));obtain⟨A4,c4,hv4⟩:=Kd.R_slice hR4;subst hv4;have S4:=QA (T3.out.cur hI4 hB4);obtain⟨⟨d,h,l⟩,f40,f41,f42⟩:=S4.out.cells;have T4:=QA (S4.out.st (.slice A4 (Qqo bs 9 n).length c4));have R4:=QA (Kd.R_set hR4 S4.out.2.1 (by decide) 1 (.slice A4 (Qqo bs 9 n).length c4));clear hI4 hB4 hR4)
  |(go_at_call 179;refine(Qqh lo g bs 5 u HU.out HB.out (by decide) hl2 (by omega) hlg _ S2.out.le S2.out.1).mono ?_;rintro ee w3 ⟨rfl,hI3,hB3⟩;have S3:=QA (S2.out.cur (j:=9) hI3 hB3);obtain⟨⟨o,p,q⟩,f30,f31,f32⟩:=S3.out.cells;have T3:=QA (S3.out.su u);clear hI3 hB3)
  |(go_at_call 179;refine(Qqh lo g bs 1 N HN.out HB.out (by decide) hl2 (by omega) hlg _ S1.out.le S1.out.1).mono ?_;rintro ee w2 ⟨rfl,hI2,hB2⟩;have S2:=QA (S1.out.cur (j:=5) hI2 hB2);clear hI2 hB2)
  |(go_at_call 173;refine(Qpg lo g bs 0 y HY.out HB.out (Int.le_refl _) hl2 (by omega) hlg _ HS.out.le HS.out.1).mono ?_;rintro ee w1 ⟨rfl,hI1,hB1⟩;have S1:=QA (HS.out.cur (j:=1) hI1 hB1);clear hI1 hB1))
 exact⟨rfl,2,by decide,rfl,_,_,_,_,T4B.out.cur hI5 hB5⟩
theorem fg_srt(k fb xb lo g:Nat)(bs:List Int)(hb:CodecP.Bytes bs)(hl:bs.length≤100000000000)(hlg:lo≤g)(w:World)(hS:FS w w fb xb lo g bs 0 0 (.slice none 0 0) (.slice none 0 0))(h1:1≤bs.length)(y:Int)(hy:y=YteaocbonofboeaaGreatW.PrintWords.rd bs 0)(h4:y=4)(h2:5≤bs.length)(n:Nat)(hn:(n:Int)=CodecP.leI ((bs.drop 1).take 4))(a:n≤1048576)(h3:9≤bs.length)(u:Int)(hu:u=CodecP.leI ((bs.drop 5).take 4))(h5:9+12*n≤bs.length)(hr:Qcb.f k (Qqo bs 9 n)=some true)(m:Nat)(hm:m=(n+15)/16)(h6:9+12*n+8*m≤bs.length)(hs:Qby.f k (Qqj bs (9+12*n) m)=some false) :
  Calls Tryz.prog 178 #[.pointer (some ⟨g,0,none⟩),.pointer (some ⟨fb,0,none⟩),.pointer (some ⟨xb,0,none⟩)] w fun e W'=>∃er,er≠0∧e=.panicked [Qlq g er]∧∃i u tv fv,FS w W' fb xb lo g bs i u tv fv:=by
 have HS:=QA hS;have HB:=QA hb;have hl2:bs.length≤140737488355328:=by omega
 have hft:=Tryz.underlying134;have HY:=QA hy;have b:(y != 4)=false:=bne_eq_false_iff_eq.2 h4;obtain⟨N,hN⟩:∃N:Int,N=(n:Int):=⟨_,rfl⟩;have HNN:=QA hN;have HN:Aside0 (N=CodecP.leI ((bs.drop (1:Int).toNat).take 4)):=⟨by rw[hN];exact hn⟩;have hnb:decide (1048576<N)=false:=decide_eq_false (by omega);have hnw:IntKind.i64.wrap N=N:=IntWalk.i64_in _ (by omega);have HU:Aside0 (u=CodecP.leI ((bs.drop (5:Int).toNat).take 4)):=⟨hu⟩;have HH5:=QA h5;have HR:=QA hr;obtain⟨M,hM⟩:∃M:Int,M=(m:Int):=⟨_,rfl⟩;have HM:=QA hM;have HC:Aside0 (Qbb.f N=some M):=⟨by rw[hM,hm,hN];exact Qqt n (by omega)⟩;have HH6:=QA h6;have HSO:=QA hs;clear hS hb hy hn hu hr hm hs hM hN
 go_enter Tryz.func178,Tryz.ntmps178
 go_wp2_with (first
  |(go_at_call 181;refine(Qqn k lo g bs (9+12*n) m M HM.out false HB.out hl2 HH6.out HSO.out hlg _ T4B.out.le T4B.out.1).mono ?_;rintro ee w5 ⟨hI5,hB5,⟨hf,_⟩ |⟨_,rfl⟩⟩;(exact absurd hf (by decide)))
  |(go_at_call 182;refine(Qbb.calls N M _ HC.out).mono ?_;rintro ee c ⟨rfl,hb4b⟩;have T4B:=QA (T4.out.cur (T4.out.1.kept hb4b) (Bw.below hb4b T4.out.le));have R4B:=QA (Kd.R_below R4.out hb4b);clear hb4b)
  |(go_at_call 180;refine(Qqs k lo g bs 9 n N HNN.out true HB.out hl HH5.out HR.out hlg _ T3.out.le T3.out.1).mono ?_;rintro ee w4 ⟨hI4,hB4,⟨_,tv,rfl,hR4⟩ |⟨hf,_⟩⟩;rotate_left;(exact absurd hf (by decide));obtain⟨A4,c4,hv4⟩:=Kd.R_slice hR4;subst hv4;have S4:=QA (T3.out.cur hI4 hB4);obtain⟨⟨d,h,l⟩,f40,f41,f42⟩:=S4.out.cells;have T4:=QA (S4.out.st (.slice A4 (Qqo bs 9 n).length c4));have R4:=QA (Kd.R_set hR4 S4.out.2.1 (by decide) 1 (.slice A4 (Qqo bs 9 n).length c4));clear hI4 hB4 hR4)
  |(go_at_call 179;refine(Qqh lo g bs 5 u HU.out HB.out (by decide) hl2 (by omega) hlg _ S2.out.le S2.out.1).mono ?_;rintro ee w3 ⟨rfl,hI3,hB3⟩;have S3:=QA (S2.out.cur (j:=9) hI3 hB3);obtain⟨⟨o,p,q⟩,f30,f31,f32⟩:=S3.out.cells;have T3:=QA (S3.out.su u);clear hI3 hB3)
  |(go_at_call 179;refine(Qqh lo g bs 1 N HN.out HB.out (by decide) hl2 (by omega) hlg _ S1.out.le S1.out.1).mono ?_;rintro ee w2 ⟨rfl,hI2,hB2⟩;have S2:=QA (S1.out.cur (j:=5) hI2 hB2);clear hI2 hB2)
  |(go_at_call 173;refine(Qpg lo g bs 0 y HY.out HB.out (Int.le_refl _) hl2 (by omega) hlg _ HS.out.le HS.out.1).mono ?_;rintro ee w1 ⟨rfl,hI1,hB1⟩;have S1:=QA (HS.out.cur (j:=1) hI1 hB1);clear hI1 hB1))
 exact⟨rfl,8,by decide,rfl,_,_,_,_,T4B.out.cur hI5 hB5⟩
theorem fg_long(k fb xb lo g:Nat)(bs:List Int)(hb:CodecP.Bytes bs)(hl:bs.length≤100000000000)(hlg:lo≤g)(w:World)(hS:FS w w fb xb lo g bs 0 0 (.slice none 0 0) (.slice none 0 0))(h1:1≤bs.length)(y:Int)(hy:y=YteaocbonofboeaaGreatW.PrintWords.rd bs 0)(h4:y=4)(h2:5≤bs.length)(n:Nat)(hn:(n:Int)=CodecP.leI ((bs.drop 1).take 4))(a:n≤1048576)(h3:9≤bs.length)(u:Int)(hu:u=CodecP.leI ((bs.drop 5).take 4))(h5:9+12*n≤bs.length)(hr:Qcb.f k (Qqo bs 9 n)=some true)(m:Nat)(hm:m=(n+15)/16)(h6:9+12*n+8*m≤bs.length)(hs:Qby.f k (Qqj bs (9+12*n) m)=some true)(h7:9+12*n+8*m<bs.length) :
  Calls Tryz.prog 178 #[.pointer (some ⟨g,0,none⟩),.pointer (some ⟨fb,0,none⟩),.pointer (some ⟨xb,0,none⟩)] w fun e W'=>∃er,er≠0∧e=.panicked [Qlq g er]∧∃i u tv fv,FS w W' fb xb lo g bs i u tv fv:=by
 have HS:=QA hS;have HB:=QA hb;have hl2:bs.length≤140737488355328:=by omega
 have hft:=Tryz.underlying134;have HY:=QA hy;have b:(y != 4)=false:=bne_eq_false_iff_eq.2 h4;obtain⟨N,hN⟩:∃N:Int,N=(n:Int):=⟨_,rfl⟩;have HNN:=QA hN;have HN:Aside0 (N=CodecP.leI ((bs.drop (1:Int).toNat).take 4)):=⟨by rw[hN];exact hn⟩;have hnb:decide (1048576<N)=false:=decide_eq_false (by omega);have hnw:IntKind.i64.wrap N=N:=IntWalk.i64_in _ (by omega);have HU:Aside0 (u=CodecP.leI ((bs.drop (5:Int).toNat).take 4)):=⟨hu⟩;have HH5:=QA h5;have HR:=QA hr;obtain⟨M,hM⟩:∃M:Int,M=(m:Int):=⟨_,rfl⟩;have HM:=QA hM;have HC:Aside0 (Qbb.f N=some M):=⟨by rw[hM,hm,hN];exact Qqt n (by omega)⟩;have HH6:=QA h6;have HSO:=QA hs;clear hS hb hy hn hu hr hm hs hM hN
 go_enter Tryz.func178,Tryz.ntmps178
 go_wp2_with (first
  |(go_at_call 177;refine(Qos lo g bs ((9+12*n+8*m:Nat):Int) ⟨by omega,by omega⟩ hl2 (by omega) _ T5.out.le T5.out.1).mono ?_;rintro ee w6 ⟨rfl,hI6,hB6⟩)
  |(go_at_call 181;refine(Qqn k lo g bs (9+12*n) m M HM.out true HB.out hl2 HH6.out HSO.out hlg _ T4B.out.le T4B.out.1).mono ?_;rintro ee w5 ⟨hI5,hB5,⟨_,fv,rfl,hR5⟩ |⟨hf,_⟩⟩;rotate_left;(exact absurd hf (by decide));obtain⟨A5,c5,hv5⟩:=Kd.R_slice hR5;subst hv5;have S5:=QA (T4B.out.cur hI5 hB5);obtain⟨⟨c,d,h⟩,f50,f51,f52⟩:=S5.out.cells;have T5:=QA (S5.out.sf (.slice A5 (Qqj bs (9+12*n) m).length c5));have R5:=QA (Kd.R_set (RE.cur R4B.out T4B.out.1 hB5) S5.out.2.2.1 (by decide) 0 (.slice A5 (Qqj bs (9+12*n) m).length c5));have X5:=QA (Kd.R_set hR5 S5.out.2.2.1 (by decide) 0 (.slice A5 (Qqj bs (9+12*n) m).length c5));clear hI5 hB5 hR5)
  |(go_at_call 182;refine(Qbb.calls N M _ HC.out).mono ?_;rintro ee l ⟨rfl,hb4b⟩;have T4B:=QA (T4.out.cur (T4.out.1.kept hb4b) (Bw.below hb4b T4.out.le));have R4B:=QA (Kd.R_below R4.out hb4b);clear hb4b)
  |(go_at_call 180;refine(Qqs k lo g bs 9 n N HNN.out true HB.out hl HH5.out HR.out hlg _ T3.out.le T3.out.1).mono ?_;rintro ee w4 ⟨hI4,hB4,⟨_,tv,rfl,hR4⟩ |⟨hf,_⟩⟩;rotate_left;(exact absurd hf (by decide));obtain⟨A4,c4,hv4⟩:=Kd.R_slice hR4;subst hv4;have S4:=QA (T3.out.cur hI4 hB4);obtain⟨⟨o,p,q⟩,f40,f41,f42⟩:=S4.out.cells;have T4:=QA (S4.out.st (.slice A4 (Qqo bs 9 n).length c4));have R4:=QA (Kd.R_set hR4 S4.out.2.1 (by decide) 1 (.slice A4 (Qqo bs 9 n).length c4));clear hI4 hB4 hR4)
  |(go_at_call 179;refine(Qqh lo g bs 5 u HU.out HB.out (by decide) hl2 (by omega) hlg _ S2.out.le S2.out.1).mono ?_;rintro ee w3 ⟨rfl,hI3,hB3⟩;have S3:=QA (S2.out.cur (j:=9) hI3 hB3);obtain⟨⟨r,s,t⟩,f30,f31,f32⟩:=S3.out.cells;have T3:=QA (S3.out.su u);clear hI3 hB3)
  |(go_at_call 179;refine(Qqh lo g bs 1 N HN.out HB.out (by decide) hl2 (by omega) hlg _ S1.out.le S1.out.1).mono ?_;rintro ee w2 ⟨rfl,hI2,hB2⟩;have S2:=QA (S1.out.cur (j:=5) hI2 hB2);clear hI2 hB2)
  |(go_at_call 173;refine(Qpg lo g bs 0 y HY.out HB.out (Int.le_refl _) hl2 (by omega) hlg _ HS.out.le HS.out.1).mono ?_;rintro ee w1 ⟨rfl,hI1,hB1⟩;have S1:=QA (HS.out.cur (j:=1) hI1 hB1);clear hI1 hB1))
 exact⟨rfl,3,by decide,rfl,_,_,_,_,T5.out.cur hI6 hB6⟩
theorem fg_ok(k fb xb lo g:Nat)(bs:List Int)(hb:CodecP.Bytes bs)(hl:bs.length≤100000000000)(hlg:lo≤g)(w:World)(hS:FS w w fb xb lo g bs 0 0 (.slice none 0 0) (.slice none 0 0))(h1:1≤bs.length)(y:Int)(hy:y=YteaocbonofboeaaGreatW.PrintWords.rd bs 0)(h4:y=4)(h2:5≤bs.length)(n:Nat)(hn:(n:Int)=CodecP.leI ((bs.drop 1).take 4))(a:n≤1048576)(h3:9≤bs.length)(u:Int)(hu:u=CodecP.leI ((bs.drop 5).take 4))(h5:9+12*n≤bs.length)(hr:Qcb.f k (Qqo bs 9 n)=some true)(m:Nat)(hm:m=(n+15)/16)(h6:9+12*n+8*m≤bs.length)(hs:Qby.f k (Qqj bs (9+12*n) m)=some true)(h7:bs.length=9+12*n+8*m) :
  Calls Tryz.prog 178 #[.pointer (some ⟨g,0,none⟩),.pointer (some ⟨fb,0,none⟩),.pointer (some ⟨xb,0,none⟩)] w fun e W'=>e=.returned (.tuple #[])∧∃i tv fv,FS w W' fb xb lo g bs i u tv fv∧RE W' 0 tv (Qqo bs 9 n)∧RU W' 0 fv (Qqj bs (9+12*n) m):=by
 have HS:=QA hS;have HB:=QA hb;have hl2:bs.length≤140737488355328:=by omega
 have hft:=Tryz.underlying134;have HY:=QA hy;have b:(y != 4)=false:=bne_eq_false_iff_eq.2 h4;obtain⟨N,hN⟩:∃N:Int,N=(n:Int):=⟨_,rfl⟩;have HNN:=QA hN;have HN:Aside0 (N=CodecP.leI ((bs.drop (1:Int).toNat).take 4)):=⟨by rw[hN];exact hn⟩;have hnb:decide (1048576<N)=false:=decide_eq_false (by omega);have hnw:IntKind.i64.wrap N=N:=IntWalk.i64_in _ (by omega);have HU:Aside0 (u=CodecP.leI ((bs.drop (5:Int).toNat).take 4)):=⟨hu⟩;have HH5:=QA h5;have HR:=QA hr;obtain⟨M,hM⟩:∃M:Int,M=(m:Int):=⟨_,rfl⟩;have HM:=QA hM;have HC:Aside0 (Qbb.f N=some M):=⟨by rw[hM,hm,hN];exact Qqt n (by omega)⟩;have HH6:=QA h6;have HSO:=QA hs;clear hS hb hy hn hu hr hm hs hM hN
 go_enter Tryz.func178,Tryz.ntmps178
 go_wp2_with (first
  |(go_at_call 177;refine(Qor lo g bs ((9+12*n+8*m:Nat):Int) ⟨by omega,by omega⟩ hl2 (by omega) _ T5.out.le T5.out.1).mono ?_;rintro ee w6 ⟨rfl,hI6,hB6⟩;have R6:=QA (RE.cur R5.out T5.out.1 hB6);have X6:=QA (RU.cur X5.out T5.out.1 hB6))
  |(go_at_call 181;refine(Qqn k lo g bs (9+12*n) m M HM.out true HB.out hl2 HH6.out HSO.out hlg _ T4B.out.le T4B.out.1).mono ?_;rintro ee w5 ⟨hI5,hB5,⟨_,fv,rfl,hR5⟩ |⟨hf,_⟩⟩;rotate_left;(exact absurd hf (by decide));obtain⟨A5,c5,hv5⟩:=Kd.R_slice hR5;subst hv5;have S5:=QA (T4B.out.cur hI5 hB5);obtain⟨⟨c,d,h⟩,f50,f51,f52⟩:=S5.out.cells;have T5:=QA (S5.out.sf (.slice A5 (Qqj bs (9+12*n) m).length c5));have R5:=QA (Kd.R_set (RE.cur R4B.out T4B.out.1 hB5) S5.out.2.2.1 (by decide) 0 (.slice A5 (Qqj bs (9+12*n) m).length c5));have X5:=QA (Kd.R_set hR5 S5.out.2.2.1 (by decide) 0 (.slice A5 (Qqj bs (9+12*n) m).length c5));clear hI5 hB5 hR5)
  |(go_at_call 182;refine(Qbb.calls N M _ HC.out).mono ?_;rintro ee l ⟨rfl,hb4b⟩;have T4B:=QA (T4.out.cur (T4.out.1.kept hb4b) (Bw.below hb4b T4.out.le));have R4B:=QA (Kd.R_below R4.out hb4b);clear hb4b)
  |(go_at_call 180;refine(Qqs k lo g bs 9 n N HNN.out true HB.out hl HH5.out HR.out hlg _ T3.out.le T3.out.1).mono ?_;rintro ee w4 ⟨hI4,hB4,⟨_,tv,rfl,hR4⟩ |⟨hf,_⟩⟩;rotate_left;(exact absurd hf (by decide));obtain⟨A4,c4,hv4⟩:=Kd.R_slice hR4;subst hv4;have S4:=QA (T3.out.cur hI4 hB4);obtain⟨⟨o,p,q⟩,f40,f41,f42⟩:=S4.out.cells;have T4:=QA (S4.out.st (.slice A4 (Qqo bs 9 n).length c4));have R4:=QA (Kd.R_set hR4 S4.out.2.1 (by decide) 1 (.slice A4 (Qqo bs 9 n).length c4));clear hI4 hB4 hR4)
  |(go_at_call 179;refine(Qqh lo g bs 5 u HU.out HB.out (by decide) hl2 (by omega) hlg _ S2.out.le S2.out.1).mono ?_;rintro ee w3 ⟨rfl,hI3,hB3⟩;have S3:=QA (S2.out.cur (j:=9) hI3 hB3);obtain⟨⟨r,s,t⟩,f30,f31,f32⟩:=S3.out.cells;have T3:=QA (S3.out.su u);clear hI3 hB3)
  |(go_at_call 179;refine(Qqh lo g bs 1 N HN.out HB.out (by decide) hl2 (by omega) hlg _ S1.out.le S1.out.1).mono ?_;rintro ee w2 ⟨rfl,hI2,hB2⟩;have S2:=QA (S1.out.cur (j:=5) hI2 hB2);clear hI2 hB2)
  |(go_at_call 173;refine(Qpg lo g bs 0 y HY.out HB.out (Int.le_refl _) hl2 (by omega) hlg _ HS.out.le HS.out.1).mono ?_;rintro ee w1 ⟨rfl,hI1,hB1⟩;have S1:=QA (HS.out.cur (j:=1) hI1 hB1);clear hI1 hB1))
 go_end0
 exact⟨rfl,_,_,_,T5.out.cur hI6 hB6,Kd.R_lower R6.out (Nat.zero_le _),Kd.R_lower X6.out (Nat.zero_le _)⟩
end Go.Proofs.YteaocbonofboeaaGreat.C
end
