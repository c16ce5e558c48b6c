/- Merged texts. -/
import Derived.Test.YteaocbonofboeaaGreatMB02
import Derived.WalkLawsBesides
import Derived.Recover
import Derived.Defers
import Derived.Test.YteaocbonofboeaaGreatMB25
import Derived.Test.YteaocbonofboeaaGreatMB19
import Derived.Test.YteaocbonofboeaaGreatMB07
import Derived.Test.YteaocbonofboeaaGreatMB09
import Derived.Test.YteaocbonofboeaaGreatMB10
import Derived.Test.YteaocbonofboeaaGreatMB11
import Derived.Test.YteaocbonofboeaaGreatMB14
import Derived.Test.YteaocbonofboeaaGreatMB08
import Derived.Test.YteaocbonofboeaaGreatMB06
import Derived.Test.YteaocbonofboeaaGreatMB13
set_option linter.unusedVariables false
set_option linter.unusedSimpArgs false
set_option maxHeartbeats 8000000
set_option maxRecDepth 100000
section
namespace Go.Proofs.YteaocbonofboeaaGreat.C
open Go.RowKit Go.Proofs.YteaocbonofboeaaGreatW.PrintWords Go.Proofs.YteaocbonofboeaaGreatW.PrintLast Go.Proofs.YteaocbonofboeaaGreatW.PrintMore
theorem f_of_C{W:World}{A:Option Addr}{n:Nat}{xs:List Int}(h:Kd.C (Kd.int .u8) W A n xs):Kd.F (Kd.int .u8) W (fun _=>True) A n xs:=by
 intro W' hW;obtain⟨g,hg⟩:∃g,g=W.heap.size+(match A with|some ad=>ad.block+1|none=>0):=⟨_,rfl⟩;refine Kd.C_keep (g:=g) (0:Int) h ⟨?_,fun i hi _ _=>hW i trivial hi⟩ ?_
 ·rcases Nat.eq_zero_or_pos W.heap.size with h0|h0
  ·omega
  ·have:=Qib (hW (W.heap.size-1) trivial (by omega)) (by omega);omega
 ·rintro ad rfl _;rw[hg];dsimp only;omega
theorem Qss{w W:World}{tb:Nat}{x:Int}(hk:W.heap[tb]? = some (.cells #[.int .u64 x] 35 (0,0))):W.frozen? ⟨tb,0,none⟩=false∧W.cell? ⟨tb,0,none⟩=some (.int .u64 x):=⟨Qdx hk 0,(Qdw hk 0).trans rfl⟩
theorem Qst(as_:Array Value)(W:World):(callFunc 170 as_).run Tryz.prog W=.ok (.enter 170 as_) W:=by
 simp[callFunc,Tryz.func170,Tryz.f170]
theorem IsCur.far64{W:World}{b g tb j:Nat}{bs:List Int}{i:Int}{u:Value}{cs:Array Value}(h:IsCur W b g bs i)(hr:W.heap[tb]? = some (.cells cs 35 (0,0))):IsCur (W.setCell ⟨tb,j,none⟩ u) b g bs i:=by
 obtain⟨v,h1,h2⟩:=h;exact⟨v,Qdu h1 (p:=⟨tb,j,none⟩) (Qdz h1 hr (by decide)) u,h2.set hr (by decide) j u⟩
theorem Qsu(tb lo g:Nat)(bs:List Int)(x y:Int)(hb:CodecP.Bytes bs)(hl8:bs.length=8)(hlg:lo≤g)(htb:tb<lo)(hx:CodecP.leI bs=x)(w:World)(hI:IsCur w lo g bs 0)
  (hk:w.heap[tb]? = some (.cells #[.int .u64 y] 35 (0,0))) :
  Calls Tryz.prog 170 #[.pointer (some ⟨g,0,none⟩),.pointer (some ⟨tb,0,none⟩)] w fun e W'=>e=.returned (.tuple #[])∧IsCur W' lo g bs (0+8)∧Tl lo g w W'∧Below tb w W'∧W'.heap[tb]? = some (.cells #[.int .u64 x] 35 (0,0)):=by
 have HI:=QA hI;have HK:=QA hk;have hlw:lo≤w.heap.size:=Nat.le_of_lt (Nat.lt_of_le_of_lt hlg hI.lt);have HE:=QA (Qsg (bs.length+1) lo g bs bs 0 x (by rw[Int.toNat_zero,List.drop_zero,← hl8,List.take_length]) (Int.le_refl _) (by omega) (by omega) hlg (by rw[CodecP.num_key bs hb (by omega),hx]) w hlw hI);clear hI hk
 go_enter Tryz.func170,Tryz.ntmps170
 go_wp2_with (go_at_call 171;refine HE.out.mono ?_;rintro ee w1 ⟨rfl,hI1,hB1⟩;have k1:=(hB1.1.block tb htb).trans HK.out;obtain⟨t0,t1⟩:=Qss (w:=w) k1)
 go_end0
 obtain⟨h1,h2⟩:=hB1;exact⟨rfl,hI1.far64 k1,fun k cs t q1 q2 q3 q4=>Qdu (h2 _ _ _ q2 q3 q4) (p:=⟨tb,0,none⟩) (by show k≠tb;omega) _,Qkf (Qkg h1 (Nat.le_of_lt htb)) (Nat.le_refl _),Qdt k1 0 _⟩
theorem Qsv(A0:Option Addr)(c0:Nat)(l0:List Int)(x:Int)(tb:Nat)(w:World)(hb:CodecP.Bytes l0)(hl:l0.length=8)(hx:CodecP.leI l0=x)(hr0:Kd.C (Kd.int .u8) w A0 l0.length l0)
  (hk:w.heap[tb]? = some (.cells #[.int .u64 0] 35 (0,0))) :
  Calls Tryz.prog 169 #[.slice A0 l0.length c0,.func (.func 170) #[] #[.pointer (some ⟨tb,0,none⟩)]] w fun e w'=>∃er i,e=.returned (.tuple #[.int .i64 i,.int .i64 er])∧Below tb w w' ∧
   w'.heap[tb]? = some (.cells #[.int .u64 x] 35 (0,0)):=by
 have hlt:=Qdv hk;refine Qsr 170 #[.pointer (some ⟨tb,0,none⟩)] A0 c0 l0 w hr0 (by omega) Qst (fun er _ W'=>Below tb w W'∧W'.heap[tb]? = some (.cells #[.int .u64 x] 35 (0,0))) ?_ ?_
 ·rintro er i W W' ⟨h1,h2⟩ h3;exact⟨h1.trans (Qkg h3 (Nat.le_of_lt hlt)),(h3.block tb hlt).trans h2⟩
 ·intro W g hg hB hI;refine(Qsu tb w.heap.size g l0 x 0 hb hl hg hlt hx W hI ((hB.block tb hlt).trans hk)).mono ?_;rintro e W' ⟨h1,h2,h3,h4,h5⟩;exact⟨_,h2,h3,.inl ⟨h1,(Qkg hB (Nat.le_of_lt hlt)).trans h4,h5⟩⟩
theorem Qsw{P:Program}(t e:TypeId)(k:IntKind){i:TypeInfo}(ht:P.underlying t=some (.slice e))(hi:P.info? e=some i)(A:Option Addr)(n c:Nat)(j:Int)(h0:0≤j)(hm:j≤n)(hc:n≤c) :
  ∀W:World,(Instr.slice t (.slice A n c) none (some (.int k j)) (some (.int k j))).run P W=.ok (.slice A j.toNat j.toNat) W:=by
 intro W;have hel:P.elem t=e:=by simp[Program.elem,ht]
 have hu:P.underlying t=some (.slice (P.elem t)):=by rw[hel];exact ht
 have ha:(A.map fun x=>x.add 0)=A:=by cases A<;>simp[Addr.add]
 rw[run_slice_hm W t A n c hu k k j j h0 (Int.le_refl _) (by omega),hel];simp[sizeOf,typeInfo,hi,sliced,Result.andThen,ha]
def openS(t:List Int):List Int × Int:=if t.length<8 then([],2)else if CodecP.leI (t.drop (t.length-8))=Qmr 0 (t.take (t.length-8))then(t.take (t.length-8),0)else([],5)
noncomputable def Qbw.f(k:Nat)(l0:List Int):Option (List Int × Int):=(Qao.f k l0).bind fun t=>if t.2=0 then @ite _ (CodecP.Bytes t.1∧t.1.length≤35184372088824) (Classical.propDecidable _) (some (openS t.1)) none else some ([],t.2)
theorem Qbw.calls(k:Nat)(A0:Option Addr)(c0:Nat)(l0:List Int)(r1:List Int)(r2:Int)(w:World)(hr0:Kd.C (Kd.int .u8) w A0 l0.length l0)(hc0:l0.length≤c0)(h:Qbw.f k l0=some (r1,r2)) :
  Calls Tryz.prog 120 #[.slice A0 l0.length c0] w fun e w'=>∃A c,e=.returned (.tuple #[.slice A r1.length c,.int .i64 r2])∧Kd.C (Kd.int .u8) w' A r1.length r1∧r1.length≤c∧Below w.heap.size w w':=by
 unfold Qbw.f at h;obtain⟨⟨out,e0⟩,hU,h⟩:=Option.bind_eq_some_iff.mp h;dsimp only at h;have HU:=QA (Qao.calls k (fun _=>True) A0 c0 l0 out e0 w (Kd.V_mk hc0 (f_of_C hr0)) hU);clear hU hr0 hc0
 by_cases he:e0=0
 ·subst he;rw[if_pos rfl]at h
  by_cases hg:CodecP.Bytes out∧out.length≤35184372088824
  ·rw [if_pos hg]at h;have h2:=Option.some.inj h;unfold openS at h2;clear h
   by_cases h8:out.length<8
   ·rw[if_pos h8]at h2;obtain⟨rfl,rfl⟩:=Prod.mk.inj h2;have hw1:IntKind.i64.wrap ((out.length:Int)-8)=(out.length:Int)-8:=IntWalk.i64_in _ (by omega);have hb1:decide ((out.length:Int)-8<0)=true:=decide_eq_true (by omega);clear h2
    go_enter Tryz.func120,Tryz.ntmps120
    go_wp2_with (go_at_call 168;refine HU.out.mono ?_;rintro ee w1 ⟨v1,rfl,hR1,hb1⟩;obtain⟨A1,c1,rfl⟩:=Kd.R_slice hR1)
    refine bodyPost_ret (results_tmp2 rfl _ _ _) rfl ?_;exact⟨none,0,rfl,Kd.C_nil _ _,Nat.le_refl _,hb1⟩
   ·rw[if_neg h8]at h2;obtain⟨m,hm⟩:∃m,m=out.length-8:=⟨_,rfl⟩;rw[← hm]at h2;obtain⟨xs,hxs⟩:∃xs,xs=out.drop m:=⟨_,rfl⟩;rw[← hxs]at h2;have hxl:xs.length=8:=by rw[hxs,List.length_drop];omega
    obtain⟨ys,hys⟩:∃ys,ys=out.take m:=⟨_,rfl⟩;rw[← hys]at h2;have hyl:ys.length=m:=by rw[hys,List.length_take];omega
    obtain⟨j,hj⟩:∃j:Int,j=(out.length:Int)-8:=⟨_,rfl⟩;have hw1:IntKind.i64.wrap ((out.length:Int)-8)=j:=by rw[hj];exact IntWalk.i64_in _ (by omega)
    have hj0:0≤j:=by omega
    have hjm:j.toNat=m:=by omega
    have hb1:decide (j<0)=false:=decide_eq_false (by omega);have HXB:Aside0 (CodecP.Bytes xs):=⟨by rw[hxs];exact hg.1.drop _⟩;have HF:=QA (And.intro hm (And.intro hxs (And.intro hys hj)));have HG:=QA hg;obtain⟨i0,hii,_,hsz,_⟩:=info_parts Qjb;have hlen64:IntKind.i64.wrap (out.length:Int)=(out.length:Int):=IntWalk.i64_in _ (by omega);obtain⟨x,hx⟩:∃x,x=CodecP.leI xs:=⟨_,rfl⟩;rw[← hx]at h2;have HX:=QA hx.symm;have HJL:Aside0 (j≤(out.length:Int)):=⟨by omega⟩;clear hx hm hxs hys hj hg;have UP:∀(P:Ending→World→Prop),(∀ee w1 A1 c1,ee=.returned (.tuple #[.slice A1 out.length c1,.int .i64 0])→R8 w1 w.heap.size (.slice A1 out.length c1) out→Below w.heap.size w w1 →
      (∀W:World,(Instr.slice 40 (.slice A1 out.length c1) none (some (.int .i64 j)) none).run Tryz.prog W=.ok (.slice A1 ys.length c1) W) →
      (∀W:World,(Instr.slice 40 (.slice A1 out.length c1) none (some (.int .i64 j)) (some (.int .i64 j))).run Tryz.prog W=.ok (.slice A1 ys.length ys.length) W) →
      (∃A2 c2,(∀W:World,(Instr.slice 40 (.slice A1 out.length c1) (some (.int .i64 j)) none none).run Tryz.prog W=.ok (.slice A2 xs.length c2) W)∧Kd.C (Kd.int .u8) w1 A2 xs.length xs)→Kd.C (Kd.int .u8) w1 A1 ys.length ys→P ee w1) →
      Calls Tryz.prog 168 #[.slice A0 l0.length c0] w P:=by
     intro P hP;refine HU.out.mono ?_;rintro ee w1 ⟨v1,rfl,hR1,hb1⟩;obtain⟨A1,c1,rfl⟩:=Kd.R_slice hR1;obtain⟨_,hlc,hC1⟩:=Kd.R_reads' hR1;have e1:=Qey (P:=Tryz.prog) 40 5 .i64 Tryz.underlying40 hii A1 out.length c1 j hj0 HJL.out hlc;have e2:=Qsw (P:=Tryz.prog) 40 5 .i64 Tryz.underlying40 hii A1 out.length c1 j hj0 HJL.out hlc;have e3:=Qez (P:=Tryz.prog) 40 5 .i64 Tryz.underlying40 hii 1 hsz A1 out.length c1 j hj0 HJL.out;have hml:m≤out.length:=by have:=HJL.out;omega
     have hC2:=Kd.C_drop (m:=m) hC1 hml hlc;have hC3:=Kd.C_take (m:=m) hC1 hml;rw[hjm,← hyl]at e1 e2;rw[← HF.out.2.2.1]at hC3;rw[← HF.out.2.1]at hC2;rw[hjm,show out.length-m=xs.length by rw[HF.out.2.1,List.length_drop]]at e3;exact hP _ w1 A1 c1 rfl (Kd.R_mono hR1 (fun _ _=>trivial)) hb1 e1 e2 ⟨_,_,e3,hC2⟩ hC3
    have UPA:=QA UP;have hyl2:ys.length≤140737488355328:=by have:=HG.out.2;have:=HJL.out;omega
    have HL:=QA (And.intro hyl (And.intro hjm (And.intro hxl hyl2)));have H2:=QA h2;clear UP HU HG HF hlen64 hyl hjm hxl hyl2 hii hsz h2;have stp:∀(P:Ending→World→Prop),(∀w' A c,Below w.heap.size w w'→Kd.C (Kd.int .u8) w' A ys.length ys→ys.length≤c→x=Qmr 0 ys→P (.returned (.tuple #[.slice A ys.length c,.int .i64 0])) w') →
      (∀w',Below w.heap.size w w'→x≠Qmr 0 ys→P (.returned (.tuple #[.slice none 0 0,.int .i64 5])) w')→Calls Tryz.prog 120 #[.slice A0 l0.length c0] w P:=by
     intro P hP1 hP2
     by_cases hh:x=Qmr 0 ys
     ·have hne:(x != Qmr 0 ys)=false:=bne_eq_false_iff_eq.2 hh
      go_enter Tryz.func120,Tryz.ntmps120
      go_upto_region 7 with(go_at_call 168;refine UPA.out _ ?_;rintro ee w1 A1 c1 rfl hR1 hb1 e1 e2 ⟨A2,c2,e3,hC2⟩ hC3;have n:=QA hR1;have a:=QA hb1;have d:=QA hC2;have b:=QA hC3;clear hR1 hb1 hC2 hC3)
      have kt:=Qem w1 (.cells #[.int .u64 0] 35 (0,0));have RUN:=QA (Qsv A2 c2 xs x w1.heap.size _ HXB.out HL.out.2.2.1 HX.out (Kd.C_below d.out (Qcx (Below.refl _ _) _)) kt)
      go_upto_region 9 with(go_at_call 169;refine RUN.out.mono ?_;rintro ee w3 ⟨er,i,rfl,hb3,hk3⟩)
      have t3:=(Qss (w:=w) hk3).2;have g:=(Qss (w:=w) (show w3.drew.heap[w1.heap.size]? = some (.cells #[.int .u64 x] 35 (0,0)) from hk3)).2;have b13:Below w1.heap.size w1 w3:=(Qcx (Below.refl _ _) _).trans hb3;have l:=QA (Kd.C_below b.out (b13.trans (Qkg (Qcy (Below.refl _ _)) b13.size)));have B13:=QA (b13.trans (Qkg (Qcy (Below.refl w3.heap.size w3)) b13.size))
      go_region_held3 (fun w'=>w'.cell? ⟨w1.heap.size,0,none⟩=some (.int .u64 x)) (first|exact g|exact t4) (first |(go_at_call 107;refine(Qmt 0 A1 c1 ys _ l.out HL.out.2.2.2).mono ?_;rintro e w4 ⟨rfl,hb4⟩;have B14:=QA (B13.out.trans (Qkg hb4 B13.out.size));have t4:=(Qss (w:=w) ((hb4.block w1.heap.size (Qdv (show w3.drew.heap[w1.heap.size]? = some (.cells #[.int .u64 x] 35 (0,0)) from hk3))).trans (show w3.drew.heap[w1.heap.size]? = some (.cells #[.int .u64 x] 35 (0,0)) from hk3))).2))
      go_wp2_with fail
      have BB:=a.out.trans (Qkg B14.out a.out.size);exact hP1 _ _ _ BB (Kd.C_below b.out B14.out) (Nat.le_refl _) hh
     ·have hne:(x != Qmr 0 ys)=true:=bne_iff_ne.2 hh
      go_enter Tryz.func120,Tryz.ntmps120
      go_upto_region 7 with(go_at_call 168;refine UPA.out _ ?_;rintro ee w1 A1 c1 rfl hR1 hb1 e1 e2 ⟨A2,c2,e3,hC2⟩ hC3;have n:=QA hR1;have a:=QA hb1;have d:=QA hC2;have b:=QA hC3;clear hR1 hb1 hC2 hC3)
      have kt:=Qem w1 (.cells #[.int .u64 0] 35 (0,0));have RUN:=QA (Qsv A2 c2 xs x w1.heap.size _ HXB.out HL.out.2.2.1 HX.out (Kd.C_below d.out (Qcx (Below.refl _ _) _)) kt)
      go_upto_region 9 with(go_at_call 169;refine RUN.out.mono ?_;rintro ee w3 ⟨er,i,rfl,hb3,hk3⟩)
      have t3:=(Qss (w:=w) hk3).2;have g:=(Qss (w:=w) (show w3.drew.heap[w1.heap.size]? = some (.cells #[.int .u64 x] 35 (0,0)) from hk3)).2;have b13:Below w1.heap.size w1 w3:=(Qcx (Below.refl _ _) _).trans hb3;have l:=QA (Kd.C_below b.out (b13.trans (Qkg (Qcy (Below.refl _ _)) b13.size)));have B13:=QA (b13.trans (Qkg (Qcy (Below.refl w3.heap.size w3)) b13.size))
      go_region_held3 (fun w'=>w'.cell? ⟨w1.heap.size,0,none⟩=some (.int .u64 x)) (first|exact g|exact t4) (first |(go_at_call 107;refine(Qmt 0 A1 c1 ys _ l.out HL.out.2.2.2).mono ?_;rintro e w4 ⟨rfl,hb4⟩;have B14:=QA (B13.out.trans (Qkg hb4 B13.out.size));have t4:=(Qss (w:=w) ((hb4.block w1.heap.size (Qdv (show w3.drew.heap[w1.heap.size]? = some (.cells #[.int .u64 x] 35 (0,0)) from hk3))).trans (show w3.drew.heap[w1.heap.size]? = some (.cells #[.int .u64 x] 35 (0,0)) from hk3))).2))
      go_wp2_with fail
      have BB:=a.out.trans (Qkg B14.out a.out.size);exact hP2 _ BB hh
    refine stp _ ?_ ?_
    ·intro w' A c h1 h3 h4 h5;have h6:=H2.out;rw[if_pos h5]at h6;obtain⟨rfl,rfl⟩:=Prod.mk.inj h6;exact⟨A,c,rfl,h3,h4,h1⟩
    ·intro w' h1 h5;have h6:=H2.out;rw[if_neg h5]at h6;obtain⟨rfl,rfl⟩:=Prod.mk.inj h6;exact⟨none,0,rfl,Kd.C_nil _ _,Nat.le_refl _,h1⟩
  ·rw[if_neg hg]at h;cases h
 ·rw[if_neg he]at h;simp only[Option.some.injEq,Prod.mk.injEq]at h;obtain⟨rfl,rfl⟩:=h;have hne:(e0 != 0)=true:=bne_iff_ne.2 he
  go_enter Tryz.func120,Tryz.ntmps120
  go_wp2_with (go_at_call 168;refine HU.out.mono ?_;rintro ee w1 ⟨v1,rfl,hR1,hb1⟩;obtain⟨A1,c1,rfl⟩:=Kd.R_slice hR1)
  refine bodyPost_ret (results_tmp2 rfl _ _ _) rfl ?_;exact⟨none,0,rfl,Kd.C_nil _ _,Nat.le_refl _,hb1⟩
theorem Qsx(b g:Nat)(bs:List Int)(i x:Int)(hx:x=YteaocbonofboeaaGreatW.PrintWords.rd bs i)(hb:CodecP.Bytes bs)(hi:0≤i)(hl:bs.length≤140737488355328)(hs:i<(bs.length:Int))(hbg:b≤g)(w:World)(hbw:b≤w.heap.size)(hI:IsCur w b g bs i) :
  Calls Tryz.prog 173 #[.pointer (some ⟨g,0,none⟩)] w fun e w'=>e=.returned (.int .u8 x)∧IsCur w' b g bs (i+1)∧Bw b g w w':=by
 obtain⟨j,rfl⟩:=Int.eq_ofNat_of_zero_le hi;have hj:j<bs.length:=by omega
 have hr:=CodecP.rd_range hb hj;obtain⟨k,y,h1,h2⟩:=CodecP.byte_key (YteaocbonofboeaaGreatW.PrintWords.rd bs (j:Int)) hr;have h:=Qse k b g bs [YteaocbonofboeaaGreatW.PrintWords.rd bs (j:Int)] j y (by
  rw[CodecP.rd_get hj,show(j:Int).toNat=j from rfl,List.drop_eq_getElem_cons hj];rfl) hi hl (by omega) hbg h1 w hbw hI
 rw[h2,← hx]at h;exact h
def Qsy(bs:List Int):Nat→Int→Int→Int→Except (Int × Int) (Int × Int)
 | 0,_,i,x=>.ok (x,i)
 | f+1,j,i,x =>
  if i<(bs.length:Int)then
   if j=9∧1<YteaocbonofboeaaGreatW.PrintWords.rd bs i then .error (3,i+1)
   else if 128≤YteaocbonofboeaaGreatW.PrintWords.rd bs i then Qsy bs f (j+1) (i+1) (Go.bits .or .u64 x (shl .u64 (IntKind.u64.wrap (Go.bits .andNot .u8 (YteaocbonofboeaaGreatW.PrintWords.rd bs i) 128)) (7*j)))
   else if YteaocbonofboeaaGreatW.PrintWords.rd bs i=0∧0<j then .error (4,i+1)
   else .ok (Go.bits .or .u64 x (shl .u64 (IntKind.u64.wrap (Go.bits .andNot .u8 (YteaocbonofboeaaGreatW.PrintWords.rd bs i) 128)) (7*j)),i+1)
  else .error (2,i)
def Ends(b g:Nat)(bs:List Int)(w:World)(r:Except (Int × Int) (Value × Int))(e:Ending)(w':World):Prop :=
 match r with
 | .ok (v,i)=>e=.returned v∧IsCur w' b g bs i∧Bw b g w w'
 | .error (er,i)=>Qsc b g bs i er w e w'
theorem Qsz (b g:Nat) (bs:List Int) (i:Int) (hb:CodecP.Bytes bs) (hi:0≤i∧i≤(bs.length:Int)) (hl:bs.length≤140737488355328) (hbg:b≤g) (w:World) (hbw:b≤w.heap.size) (hI:IsCur w b g bs i) (R:Except (Int × Int) (Value × Int)) (hR:(Qsy bs 10 0 i 0).map (fun p=>(Value.int .u64 p.1,p.2))=R) :
  Calls Tryz.prog 175 #[.pointer (some ⟨g,0,none⟩)] w (Ends b g bs w R):=by
 have HI:=QA hI;have HR:=QA hR;have HBY:=QA hb;have HW:=QA hbw;clear hI hR hb hbw
 go_enter Tryz.func175,Tryz.ntmps175
 go_wp2
 go_loopw [3,6] (fun v3 v6 wr=>∃(x j i2:Int) (f:Nat),v3=.int .u64 x∧v6=.int .i64 j∧Aside0 (0≤j∧j+(f:Int)=10)∧Aside0 (0≤i2∧i2≤(bs.length:Int))∧Aside0 ((Qsy bs f j i2 x).map (fun p=>(Value.int .u64 p.1,p.2))=R)∧Aside0 (IsCur wr b g bs i2)∧Aside0 (Bw b g w wr))
  (fun _ v6 _=>10-(intOf v6).toNat)
 case atStart=>exact⟨0,0,i,10,rfl,rfl,⟨by omega⟩,⟨hi⟩,HR,HI,⟨Bw.refl _ _ _⟩⟩
 case round =>
  obtain⟨x,j,i2,f,rfl,rfl,HJ,HI2,HV,HIr,HBr⟩:=hrel;have hbr:b≤wr.heap.size:=Nat.le_trans HW.out HBr.out.size
  cases f with
  | zero =>
   have hj:j=10:=by have:=HJ.out;omega
   subst hj;have hv:=HV.out;simp only[Qsy,Except.map]at hv;subst hv;go_wp2;go_ret
   exact⟨rfl,HIr.out,HBr.out⟩
  | succ f =>
   have hv:=HV.out;clear HV;have hj1:decide (j<10)=true:=decide_eq_true (by have:=HJ.out;omega);simp only[Qsy]at hv
   by_cases hlt:i2<(bs.length:Int)
   ·rw [if_pos hlt]at hv;obtain⟨y,hy⟩:∃y,y=YteaocbonofboeaaGreatW.PrintWords.rd bs i2:=⟨_,rfl⟩;rw[← hy]at hv;have HY:=QA hy;have HLT:=QA hlt;have hw7:IntKind.i64.wrap (7*j)=7*j:=IntWalk.i64_in _ (by have:=HJ.out;omega);have hwj:IntKind.i64.wrap (j+1)=j+1:=IntWalk.i64_in _ (by have:=HJ.out;omega);obtain⟨s7,hs7⟩:∃s7:Int,7*j=s7:=⟨_,rfl⟩;have hw7':IntKind.i64.wrap (7*j)=s7:=hw7.trans hs7;have hs70:0≤s7:=by have:=HJ.out;omega
    rw[hs7]at hv;obtain⟨z,hz⟩:∃z:Int,Go.bits .andNot .u8 y 128=z:=⟨_,rfl⟩;rw[hz]at hv;obtain⟨j8,hj8⟩:∃j8:Int,(shl .u64 (IntKind.u64.wrap z) s7)=j8:=⟨_,rfl⟩;rw[hj8]at hv;have hj8_:(IntKind.u64.wrap ((IntKind.u64.wrap z)*2^min s7.toNat 64))=j8:=hj8;have hj8z:s7≤64→(IntKind.u64.wrap ((IntKind.u64.wrap z)*2^s7.toNat))=j8:=Qiw hj8;have HS7:=QA hs7;clear hy hlt hw7 hs7 hj8;have hi20:=HI2.out.1
    by_cases h9:j=9∧1<y
    ·rw[if_pos h9]at hv;simp only[Except.map]at hv;subst hv;have m:(j == 9)=true:=by rw[h9.1];rfl
     have n:decide (1<y)=true:=decide_eq_true h9.2;clear h9
     go_wp2_with (first
      |(go_at_call 173;refine(Qsx b g bs i2 y HY.out HBY.out HI2.out.1 hl HLT.out hbg _ hbr HIr.out).mono ?_;rintro ee w1 ⟨rfl,hI1,hB1⟩)
      |(go_at_call 174;refine(Qnq b g bs (i2+1) 3 (by decide) _ hI1).mono ?_;rintro ee w2 ⟨rfl,rfl⟩))
     exact⟨rfl,rfl,hI1,HBr.out.trans hB1⟩
    ·rw [if_neg h9]at hv
     by_cases e9:j=9
     ·have m:(j == 9)=true:=by rw[e9];rfl
      have n:decide (1<y)=false:=decide_eq_false (fun h=>h9 ⟨e9,h⟩);clear h9 e9
      by_cases a:128≤y
      ·rw[if_pos a]at hv;have k:decide (128≤y)=true:=decide_eq_true a;have HV:=QA hv;clear hv a
       go_wp2_with (go_at_call 173;refine(Qsx b g bs i2 y HY.out HBY.out HI2.out.1 hl HLT.out hbg _ hbr HIr.out).mono ?_;rintro ee w1 ⟨rfl,hI1,hB1⟩)
       go_roundw
       case rel=>exact⟨_,j+1,i2+1,f,rfl,rfl,⟨by have:=HJ.out;omega⟩,⟨by have:=HI2.out;have:=HLT.out;omega⟩,HV,⟨hI1⟩,⟨HBr.out.trans hB1⟩⟩
       case measure=>have:=HJ.out;simp[intOf];omega
      ·rw[if_neg a]at hv;have k:decide (128≤y)=false:=decide_eq_false a;clear a
       by_cases c:y=0∧0<j
       ·rw[if_pos c]at hv;simp only[Except.map]at hv;subst hv;have d:(y == 0)=true:=by rw[c.1];rfl
        have l:decide (0<j)=true:=decide_eq_true c.2;clear c
        go_wp2_with (first
         |(go_at_call 173;refine(Qsx b g bs i2 y HY.out HBY.out HI2.out.1 hl HLT.out hbg _ hbr HIr.out).mono ?_;rintro ee w1 ⟨rfl,hI1,hB1⟩)
         |(go_at_call 174;refine(Qnq b g bs (i2+1) 4 (by decide) _ hI1).mono ?_;rintro ee w2 ⟨rfl,rfl⟩))
        exact⟨rfl,rfl,hI1,HBr.out.trans hB1⟩
       ·rw[if_neg c]at hv;simp only[Except.map]at hv;subst hv
        by_cases hyz:y=0
        ·have d:(y == 0)=true:=by rw[hyz];rfl
         have l:decide (0<j)=false:=decide_eq_false (fun h=>c ⟨hyz,h⟩);clear c hyz
         go_wp2_with (go_at_call 173;refine(Qsx b g bs i2 y HY.out HBY.out HI2.out.1 hl HLT.out hbg _ hbr HIr.out).mono ?_;rintro ee w1 ⟨rfl,hI1,hB1⟩)
         go_ret
         exact⟨rfl,hI1,HBr.out.trans hB1⟩
        ·have d:(y == 0)=false:=beq_eq_false_iff_ne.2 hyz;clear c hyz
         go_wp2_with (go_at_call 173;refine(Qsx b g bs i2 y HY.out HBY.out HI2.out.1 hl HLT.out hbg _ hbr HIr.out).mono ?_;rintro ee w1 ⟨rfl,hI1,hB1⟩)
         go_ret
         exact⟨rfl,hI1,HBr.out.trans hB1⟩
     ·have m:(j == 9)=false:=beq_eq_false_iff_ne.2 e9;clear h9 e9
      by_cases a:128≤y
      ·rw[if_pos a]at hv;have k:decide (128≤y)=true:=decide_eq_true a;have HV:=QA hv;clear hv a
       go_wp2_with (go_at_call 173;refine(Qsx b g bs i2 y HY.out HBY.out HI2.out.1 hl HLT.out hbg _ hbr HIr.out).mono ?_;rintro ee w1 ⟨rfl,hI1,hB1⟩)
       go_roundw
       case rel=>exact⟨_,j+1,i2+1,f,rfl,rfl,⟨by have:=HJ.out;omega⟩,⟨by have:=HI2.out;have:=HLT.out;omega⟩,HV,⟨hI1⟩,⟨HBr.out.trans hB1⟩⟩
       case measure=>have:=HJ.out;simp[intOf];omega
      ·rw[if_neg a]at hv;have k:decide (128≤y)=false:=decide_eq_false a;clear a
       by_cases c:y=0∧0<j
       ·rw[if_pos c]at hv;simp only[Except.map]at hv;subst hv;have d:(y == 0)=true:=by rw[c.1];rfl
        have l:decide (0<j)=true:=decide_eq_true c.2;clear c
        go_wp2_with (first
         |(go_at_call 173;refine(Qsx b g bs i2 y HY.out HBY.out HI2.out.1 hl HLT.out hbg _ hbr HIr.out).mono ?_;rintro ee w1 ⟨rfl,hI1,hB1⟩)
         |(go_at_call 174;refine(Qnq b g bs (i2+1) 4 (by decide) _ hI1).mono ?_;rintro ee w2 ⟨rfl,rfl⟩))
        exact⟨rfl,rfl,hI1,HBr.out.trans hB1⟩
       ·rw[if_neg c]at hv;simp only[Except.map]at hv;subst hv
        by_cases hyz:y=0
        ·have d:(y == 0)=true:=by rw[hyz];rfl
         have l:decide (0<j)=false:=decide_eq_false (fun h=>c ⟨hyz,h⟩);clear c hyz
         go_wp2_with (go_at_call 173;refine(Qsx b g bs i2 y HY.out HBY.out HI2.out.1 hl HLT.out hbg _ hbr HIr.out).mono ?_;rintro ee w1 ⟨rfl,hI1,hB1⟩)
         go_ret
         exact⟨rfl,hI1,HBr.out.trans hB1⟩
        ·have d:(y == 0)=false:=beq_eq_false_iff_ne.2 hyz;clear c hyz
         go_wp2_with (go_at_call 173;refine(Qsx b g bs i2 y HY.out HBY.out HI2.out.1 hl HLT.out hbg _ hbr HIr.out).mono ?_;rintro ee w1 ⟨rfl,hI1,hB1⟩)
         go_ret
         exact⟨rfl,hI1,HBr.out.trans hB1⟩
   ·rw[if_neg hlt]at hv;simp only[Except.map]at hv;subst hv
    go_wp2_with (go_at_call 173;refine(Qsf b g bs i2 HI2.out hl (by omega) _ hbr HIr.out).mono ?_;rintro ee w1 ⟨rfl,hI1,hB1⟩)
    exact⟨rfl,rfl,hI1,HBr.out.trans hB1⟩
theorem Qyg{a b:List Int}(ha:CodecP.Bytes a)(hb:CodecP.Bytes b):(strOfNums a).toList=(strOfNums b).toList↔a=b:=by
 constructor
 ·intro h;have h2:strOfNums a=strOfNums b:=by
   rw[Lib.toList_data,Lib.toList_data]at h;have h3:=Array.toList_inj.1 h;generalize strOfNums a=x at h3 ⊢;generalize strOfNums b=y at h3 ⊢
   cases x
   cases y
   congr
  have:=congrArg bytesOf h2
  rwa [CodecP.bytesOf_nums ha,CodecP.bytesOf_nums hb]at this
 ·intro h;rw[h]
section
variable {w W W':World} {xb gb:Nat} {d:Bool} {g1:ByteArray} {g2 g3:Int}
end
end Go.Proofs.YteaocbonofboeaaGreat.C
end
section
namespace Go.Proofs.YteaocbonofboeaaGreat.C
open Go.RowKit Go.Proofs.YteaocbonofboeaaGreatW.PrintWords Go.Proofs.YteaocbonofboeaaGreatW.PrintLast Go.Proofs.YteaocbonofboeaaGreatW.PrintMore
attribute [local go_sem] Qim Qin Qio Qip
theorem Qta(bs:List Int):∀(f:Nat) (j i x:Int),0≤i→i≤(bs.length:Int)→0≤x→x<18446744073709551616 →
  match Qsy bs f j i x with
  | .ok (n,i1)=>0≤n∧n<18446744073709551616∧i≤i1∧i1≤(bs.length:Int)
  | .error (_,i1)=>i≤i1∧i1≤(bs.length:Int)
 | 0,_,i,x=>fun h0 h1 h2 h3=>⟨h2,h3,Int.le_refl _,h1⟩
 | f + 1,j,i,x=>fun h0 h1 h2 h3=>by
  obtain⟨y,hy⟩:∃y,y=Go.bits .or .u64 x (shl .u64 (IntKind.u64.wrap (Go.bits .andNot .u8 (YteaocbonofboeaaGreatW.PrintWords.rd bs i) 128)) (7*j)):=⟨_,rfl⟩;have hr:0≤y∧y<18446744073709551616:=by
   have e:∀z:Int,0≤IntKind.u64.wrap z∧IntKind.u64.wrap z<18446744073709551616:=fun z=>by rw[IntKind.wrap_u64];omega
   rw[hy];exact e _
  unfold Qsy;rw[← hy]
  by_cases hlt:i<(bs.length:Int)
  ·rw[if_pos hlt]
   by_cases c1:j=9∧1<YteaocbonofboeaaGreatW.PrintWords.rd bs i
   ·rw[if_pos c1];exact⟨by omega,by omega⟩
   ·rw[if_neg c1]
    by_cases c2:128≤YteaocbonofboeaaGreatW.PrintWords.rd bs i
    ·rw[if_pos c2];have h:=Qta bs f (j+1) (i+1) y (by omega) (by omega) hr.1 hr.2
     revert h
     cases Qsy bs f (j+1) (i+1) y with
     | ok p=>exact fun h=>⟨h.1,h.2.1,by have:=h.2.2.1;omega,h.2.2.2⟩
     | error p=>exact fun h=>⟨by have:=h.1;omega,h.2⟩
    ·rw[if_neg c2]
     by_cases c3:YteaocbonofboeaaGreatW.PrintWords.rd bs i=0∧0<j
     ·rw[if_pos c3];exact⟨by omega,by omega⟩
     ·rw[if_neg c3];exact⟨hr.1,hr.2,by omega,by omega⟩
  ·rw[if_neg hlt];exact⟨Int.le_refl _,h1⟩
def Qtb(bs:List Int)(least most i:Int):Except (Int × Int) (List Int × Int) :=
 match Qsy bs 10 0 i 0 with
 | .error p=>.error p
 | .ok (n,i1)=>if most<n then .error (3,i1)else if n<least then .error (4,i1)else if i1+n≤(bs.length:Int)then .ok ((bs.drop i1.toNat).take n.toNat,i1+n)else .error (2,i1)
theorem Qtc(b g:Nat)(bs:List Int)(i least most:Int)(hle:0≤least∧least≤4611686018427387904)(hmo:0≤most∧most≤4611686018427387904)(hb:CodecP.Bytes bs)(hi:0≤i∧i≤(bs.length:Int))(hl:bs.length≤140737488355328)(hbg:b≤g)(w:World)(hbw:b≤w.heap.size)(hI:IsCur w b g bs i)(R:Except (Int × Int) (Value × Int))(hR:(Qtb bs least most i).map (fun p=>(Value.string (strOfNums p.1),p.2))=R) :
  Calls Tryz.prog 176 #[.pointer (some ⟨g,0,none⟩),.int .i64 least,.int .i64 most] w (Ends b g bs w R):=by
 have HI:=QA hI;have HW:=QA hbw;have hrg:=Qta bs 10 0 i 0 hi.1 hi.2 (by decide) (by decide);have hwl:IntKind.u64.wrap least=least:=IntWalk.u64_in _ (by omega);have hwm:IntKind.u64.wrap most=most:=IntWalk.u64_in _ (by omega);have hm1:max 0 most=most:=by omega
 have hm2:max 0 least=least:=by omega
 have d:∀W:World,(convert 40 9 (.slice none 0 0)).run Tryz.prog W=.ok (.string (strOfNums [])) W:=fun W=>Qdh (P:=Tryz.prog) Tryz.underlying40 Tryz.underlying5 Tryz.underlying9 (Kd.own_of_R (Kd.R_nil (Kd.int .u8) 5 W b (fun _=>True)))
 unfold Qtb at hR;clear hI hbw
 cases hv:Qsy bs 10 0 i 0 with
 | error p =>
  obtain⟨er,i1⟩:=p;rw[hv]at hR hrg;simp only[Except.map]at hR;have HV:=QA hv;clear hv;subst hR
  go_enter Tryz.func176,Tryz.ntmps176
  go_wp2_with (go_at_call 175;refine(Qsz b g bs i hb hi hl hbg _ HW.out HI.out (.error (er,i1)) (by rw[HV.out];rfl)).mono ?_;rintro ee w1 ⟨rfl,hI1,hB1⟩)
  all_goals first|exact⟨rfl,rfl,hI1,hB1⟩ |(exfalso;omega)
 | ok p =>
  obtain⟨n,i1⟩:=p;rw[hv]at hR hrg;obtain⟨h,j,hi0,hi1⟩:=hrg;dsimp only at hR;have HV:=QA hv;clear hv;have GET:Aside0 (Calls Tryz.prog 175 #[.pointer (some ⟨g,0,none⟩)] w (Ends b g bs w (.ok (.int .u64 n,i1)))):=⟨Qsz b g bs i hb hi hl hbg _ HW.out HI.out (.ok (.int .u64 n,i1)) (by rw[HV.out];rfl)⟩
  by_cases c1:most<n
  ·rw[if_pos c1]at hR;simp only[Except.map]at hR;subst hR;have a:decide (most<n)=true:=decide_eq_true c1
   go_enter Tryz.func176,Tryz.ntmps176
   go_wp2_with (first
    |(go_at_call 175;refine GET.out.mono ?_;rintro ee w1 ⟨rfl,hI1,hB1⟩)
    |(go_at_call 174;refine(Qnq b g bs i1 3 (by decide) _ hI1).mono ?_;rintro ee w2 ⟨rfl,rfl⟩))
   all_goals first|exact⟨rfl,rfl,hI1,hB1⟩ |(exfalso;omega)
  ·rw [if_neg c1]at hR;have a:decide (most<n)=false:=decide_eq_false c1;have hwn:IntKind.i64.wrap n=n:=IntWalk.i64_in _ (by omega)
   by_cases c2:n<least
   ·rw[if_pos c2]at hR;simp only[Except.map]at hR;subst hR;have c:decide (n<least)=true:=decide_eq_true c2
    go_enter Tryz.func176,Tryz.ntmps176
    go_wp2_with (first
     |(go_at_call 175;refine GET.out.mono ?_;rintro ee w1 ⟨rfl,hI1,hB1⟩)
     |(go_at_call 174;refine(Qnq b g bs i1 4 (by decide) _ hI1).mono ?_;rintro ee w2 ⟨rfl,rfl⟩))
    all_goals first|exact⟨rfl,rfl,hI1,hB1⟩ |(exfalso;omega)
   ·rw [if_neg c2]at hR;have c:decide (n<least)=false:=decide_eq_false c2
    by_cases c3:i1+n≤(bs.length:Int)
    ·rw[if_pos c3]at hR;simp only[Except.map]at hR;subst hR
     by_cases c4:n≤0
     ·obtain rfl:n=0:=by omega
      go_enter Tryz.func176,Tryz.ntmps176
      go_wp2_with (first
       |(go_at_call 175;refine GET.out.mono ?_;rintro ee w1 ⟨rfl,hI1,hB1⟩)
       |(go_at_call 221;refine(Qns b g bs i1 0 (by decide) _ hI1).mono ?_;rintro ee w2 ⟨rfl,rfl⟩))
      all_goals go_ret
      all_goals exact⟨rfl,hI1,hB1⟩
     ·obtain⟨xs,hxs⟩:∃xs,xs=(bs.drop i1.toNat).take n.toNat:=⟨_,rfl⟩;rw[← hxs];have HX:=QA hxs;clear hxs
      go_enter Tryz.func176,Tryz.ntmps176
      go_wp2_with (first
       |(go_at_call 175;refine GET.out.mono ?_;rintro ee w1 ⟨rfl,hI1,hB1⟩)
       |(go_at_call 221;refine(Qnu b g bs xs i1 n HX.out (by omega) (by omega) hl c3 hbg _ (Nat.le_trans HW.out hB1.size) hI1).mono ?_;rintro ee w2 ⟨v,rfl,hRv,hI2,hB2⟩;have cv:=Qdh (P:=Tryz.prog) Tryz.underlying40 Tryz.underlying5 Tryz.underlying9 (Kd.own_of_R hRv)))
      all_goals first |(go_ret;exact⟨rfl,hI2,hB1.trans hB2⟩) |(exfalso;omega)
    ·rw[if_neg c3]at hR;simp only[Except.map]at hR;subst hR
     go_enter Tryz.func176,Tryz.ntmps176
     go_wp2_with (first
      |(go_at_call 175;refine GET.out.mono ?_;rintro ee w1 ⟨rfl,hI1,hB1⟩)
      |(go_at_call 221;refine(Qnr b g bs i1 n (by omega) ⟨by omega,hi1⟩ hl (by omega) _ hI1).mono ?_;rintro ee w2 ⟨rfl,hb2⟩))
     all_goals first|exact⟨rfl,rfl,hI1.kept hb2,hB1.trans (Bw.below hb2 (Nat.le_trans HW.out hB1.size))⟩ |(exfalso;omega)
end Go.Proofs.YteaocbonofboeaaGreat.C
end
