/- Merged texts. -/
import Derived.Test.YtepkfjmjidjedaaGreatMA02
import Derived.WalkLawsBesides
import Derived.Recover
import Derived.Defers
import Derived.Test.YtepkfjmjidjedaaGreatMA13
import Derived.Test.YtepkfjmjidjedaaGreatMA10
import Derived.Test.YtepkfjmjidjedaaGreatMA06
import Derived.Test.YtepkfjmjidjedaaGreatMA07
import Derived.Test.YtepkfjmjidjedaaGreatMA08
import Derived.Test.YtepkfjmjidjedaaGreatMA05
import Derived.Test.YtepkfjmjidjedaaGreatMA11
import Derived.Test.YtepkfjmjidjedaaGreatMA03
set_option linter.unusedVariables false
set_option linter.unusedSimpArgs false
set_option maxHeartbeats 8000000
set_option maxRecDepth 100000
section
namespace Go.Proofs.YtepkfjmjidjedaaGreat.C
open Go.RowKit Go.Proofs.YtepkfjmjidjedaaGreatW.PrintWords Go.Proofs.YtepkfjmjidjedaaGreatW.PrintLast Go.Proofs.YtepkfjmjidjedaaGreatW.PrintMore
theorem f_of_C{W:World}{A:Option Addr}{n:Nat}{xs:List Int}(h:Kd.C (Kd.int .u8) W A n xs):Kd.F (Kd.int .u8) W (fun _=>True) A n xs:=by
 intro W' hW;obtain⟨g,hg⟩:∃g,g=W.heap.size+(match A with|some ad=>ad.block+1|none=>0):=⟨_,rfl⟩;refine Kd.C_keep (g:=g) (0:Int) h ⟨?_,fun i hi _ _=>hW i trivial hi⟩ ?_
 ·rcases Nat.eq_zero_or_pos W.heap.size with h0|h0
  ·omega
  ·have:=Qhh (hW (W.heap.size-1) trivial (by omega)) (by omega);omega
 ·rintro ad rfl _;rw[hg];dsimp only;omega
theorem Qqb{w W:World}{tb:Nat}{x:Int}(hk:W.heap[tb]? = some (.cells #[.int .u64 x] 32 (0,0))):W.frozen? ⟨tb,0,none⟩=false∧W.cell? ⟨tb,0,none⟩=some (.int .u64 x):=⟨Qdg hk 0,(Qdf hk 0).trans rfl⟩
theorem Qqc(as_:Array Value)(W:World):(callFunc 229 as_).run Tryz.prog W=.ok (.enter 229 as_) W:=by
 simp[callFunc,Tryz.func229,Tryz.f229]
theorem IsCur.far64{W:World}{b g tb j:Nat}{bs:List Int}{i:Int}{u:Value}{cs:Array Value}(h:IsCur W b g bs i)(hr:W.heap[tb]? = some (.cells cs 32 (0,0))):IsCur (W.setCell ⟨tb,j,none⟩ u) b g bs i:=by
 obtain⟨v,h1,h2⟩:=h;exact⟨v,Qdd h1 (p:=⟨tb,j,none⟩) (Qdi h1 hr (by decide)) u,h2.set hr (by decide) j u⟩
theorem Qqd(tb lo g:Nat)(bs:List Int)(x y:Int)(hb:CodecP.Bytes bs)(hl8:bs.length=8)(hlg:lo≤g)(htb:tb<lo)(hx:CodecP.leI bs=x)(w:World)(hI:IsCur w lo g bs 0)
  (hk:w.heap[tb]? = some (.cells #[.int .u64 y] 32 (0,0))) :
  Calls Tryz.prog 229 #[.pointer (some ⟨g,0,none⟩),.pointer (some ⟨tb,0,none⟩)] w fun e W'=>e=.returned (.tuple #[])∧IsCur W' lo g bs (0+8)∧Tl lo g w W'∧Below tb w W'∧W'.heap[tb]? = some (.cells #[.int .u64 x] 32 (0,0)):=by
 have HI:=QA hI;have HK:=QA hk;have hlw:lo≤w.heap.size:=Nat.le_of_lt (Nat.lt_of_le_of_lt hlg hI.lt);have HE:=QA (Qpp (bs.length+1) lo g bs bs 0 x (by rw[Int.toNat_zero,List.drop_zero,← hl8,List.take_length]) (Int.le_refl _) (by omega) (by omega) hlg (by rw[CodecP.num_key bs hb (by omega),hx]) w hlw hI);clear hI hk
 go_enter Tryz.func229,Tryz.ntmps229
 go_wp2_with (go_at_call 230;refine HE.out.mono ?_;rintro ee w1 ⟨rfl,hI1,hB1⟩;have k1:=(hB1.1.block tb htb).trans HK.out;obtain⟨t0,t1⟩:=Qqb (w:=w) k1)
 go_end0
 obtain⟨h1,h2⟩:=hB1;exact⟨rfl,hI1.far64 k1,fun k cs t q1 q2 q3 q4=>Qdd (h2 _ _ _ q2 q3 q4) (p:=⟨tb,0,none⟩) (by show k≠tb;omega) _,Qir (Qis h1 (Nat.le_of_lt htb)) (Nat.le_refl _),Qdc k1 0 _⟩
theorem Qqe(A0:Option Addr)(c0:Nat)(l0:List Int)(x:Int)(tb:Nat)(w:World)(hb:CodecP.Bytes l0)(hl:l0.length=8)(hx:CodecP.leI l0=x)(hr0:Kd.C (Kd.int .u8) w A0 l0.length l0)
  (hk:w.heap[tb]? = some (.cells #[.int .u64 0] 32 (0,0))) :
  Calls Tryz.prog 170 #[.slice A0 l0.length c0,.func (.func 229) #[] #[.pointer (some ⟨tb,0,none⟩)]] w fun e w'=>∃er i,e=.returned (.tuple #[.int .i64 i,.int .i64 er])∧Below tb w w' ∧
   w'.heap[tb]? = some (.cells #[.int .u64 x] 32 (0,0)):=by
 have hlt:=Qde hk;refine Qqa 229 #[.pointer (some ⟨tb,0,none⟩)] A0 c0 l0 w hr0 (by omega) Qqc (fun er _ W'=>Below tb w W'∧W'.heap[tb]? = some (.cells #[.int .u64 x] 32 (0,0))) ?_ ?_
 ·rintro er i W W' ⟨h1,h2⟩ h3;exact⟨h1.trans (Qis h3 (Nat.le_of_lt hlt)),(h3.block tb hlt).trans h2⟩
 ·intro W g hg hB hI;refine(Qqd tb w.heap.size g l0 x 0 hb hl hg hlt hx W hI ((hB.block tb hlt).trans hk)).mono ?_;rintro e W' ⟨h1,h2,h3,h4,h5⟩;exact⟨_,h2,h3,.inl ⟨h1,(Qis hB (Nat.le_of_lt hlt)).trans h4,h5⟩⟩
theorem Qqf{P:Program}(t e:TypeId)(k:IntKind){i:TypeInfo}(ht:P.underlying t=some (.slice e))(hi:P.info? e=some i)(A:Option Addr)(n c:Nat)(j:Int)(h0:0≤j)(hm:j≤n)(hc:n≤c) :
  ∀W:World,(Instr.slice t (.slice A n c) none (some (.int k j)) (some (.int k j))).run P W=.ok (.slice A j.toNat j.toNat) W:=by
 intro W;have hel:P.elem t=e:=by simp[Program.elem,ht]
 have hu:P.underlying t=some (.slice (P.elem t)):=by rw[hel];exact ht
 have ha:(A.map fun x=>x.add 0)=A:=by cases A<;>simp[Addr.add]
 rw[run_slice_hm W t A n c hu k k j j h0 (Int.le_refl _) (by omega),hel];simp[sizeOf,typeInfo,hi,sliced,Result.andThen,ha]
def openS(t:List Int):List Int × Int:=if t.length<8 then([],2)else if CodecP.leI (t.drop (t.length-8))=Qkt 0 (t.take (t.length-8))then(t.take (t.length-8),0)else([],5)
noncomputable def Qbg.f(k:Nat)(l0:List Int):Option (List Int × Int):=(Qan.f k l0).bind fun t=>if t.2=0 then @ite _ (CodecP.Bytes t.1∧t.1.length≤35184372088824) (Classical.propDecidable _) (some (openS t.1)) none else some ([],t.2)
theorem Qbg.calls(k:Nat)(A0:Option Addr)(c0:Nat)(l0:List Int)(r1:List Int)(r2:Int)(w:World)(hr0:Kd.C (Kd.int .u8) w A0 l0.length l0)(hc0:l0.length≤c0)(h:Qbg.f k l0=some (r1,r2)) :
  Calls Tryz.prog 181 #[.slice A0 l0.length c0] w fun e w'=>∃A c,e=.returned (.tuple #[.slice A r1.length c,.int .i64 r2])∧Kd.C (Kd.int .u8) w' A r1.length r1∧r1.length≤c∧Below w.heap.size w w':=by
 unfold Qbg.f at h;obtain⟨⟨out,e0⟩,hU,h⟩:=Option.bind_eq_some_iff.mp h;dsimp only at h;have HU:=QA (Qan.calls k (fun _=>True) A0 c0 l0 out e0 w (Kd.V_mk hc0 (f_of_C hr0)) hU);clear hU hr0 hc0
 by_cases he:e0=0
 ·subst he;rw[if_pos rfl]at h
  by_cases hg:CodecP.Bytes out∧out.length≤35184372088824
  ·rw [if_pos hg]at h;have h2:=Option.some.inj h;unfold openS at h2;clear h
   by_cases h8:out.length<8
   ·rw[if_pos h8]at h2;obtain⟨rfl,rfl⟩:=Prod.mk.inj h2;have hw1:IntKind.i64.wrap ((out.length:Int)-8)=(out.length:Int)-8:=IntWalk.i64_in _ (by omega);have hb1:decide ((out.length:Int)-8<0)=true:=decide_eq_true (by omega);clear h2
    go_enter Tryz.func181,Tryz.ntmps181
    go_wp2_with (go_at_call 228;refine HU.out.mono ?_;rintro ee w1 ⟨v1,rfl,hR1,hb1⟩;obtain⟨A1,c1,rfl⟩:=Kd.R_slice hR1)
    refine bodyPost_ret (results_tmp2 rfl _ _ _) rfl ?_;exact⟨none,0,rfl,Kd.C_nil _ _,Nat.le_refl _,hb1⟩
   ·rw[if_neg h8]at h2;obtain⟨m,hm⟩:∃m,m=out.length-8:=⟨_,rfl⟩;rw[← hm]at h2;obtain⟨xs,hxs⟩:∃xs,xs=out.drop m:=⟨_,rfl⟩;rw[← hxs]at h2;have hxl:xs.length=8:=by rw[hxs,List.length_drop];omega
    obtain⟨ys,hys⟩:∃ys,ys=out.take m:=⟨_,rfl⟩;rw[← hys]at h2;have hyl:ys.length=m:=by rw[hys,List.length_take];omega
    obtain⟨j,hj⟩:∃j:Int,j=(out.length:Int)-8:=⟨_,rfl⟩;have hw1:IntKind.i64.wrap ((out.length:Int)-8)=j:=by rw[hj];exact IntWalk.i64_in _ (by omega)
    have hj0:0≤j:=by omega
    have hjm:j.toNat=m:=by omega
    have hb1:decide (j<0)=false:=decide_eq_false (by omega);have HXB:Aside0 (CodecP.Bytes xs):=⟨by rw[hxs];exact hg.1.drop _⟩;have HF:=QA (And.intro hm (And.intro hxs (And.intro hys hj)));have HG:=QA hg;obtain⟨i0,hii,_,hsz,_⟩:=info_parts Qid;have hlen64:IntKind.i64.wrap (out.length:Int)=(out.length:Int):=IntWalk.i64_in _ (by omega);obtain⟨x,hx⟩:∃x,x=CodecP.leI xs:=⟨_,rfl⟩;rw[← hx]at h2;have HX:=QA hx.symm;have HJL:Aside0 (j≤(out.length:Int)):=⟨by omega⟩;clear hx hm hxs hys hj hg;have UP:∀(P:Ending→World→Prop),(∀ee w1 A1 c1,ee=.returned (.tuple #[.slice A1 out.length c1,.int .i64 0])→R8 w1 w.heap.size (.slice A1 out.length c1) out→Below w.heap.size w w1 →
      (∀W:World,(Instr.slice 47 (.slice A1 out.length c1) none (some (.int .i64 j)) none).run Tryz.prog W=.ok (.slice A1 ys.length c1) W) →
      (∀W:World,(Instr.slice 47 (.slice A1 out.length c1) none (some (.int .i64 j)) (some (.int .i64 j))).run Tryz.prog W=.ok (.slice A1 ys.length ys.length) W) →
      (∃A2 c2,(∀W:World,(Instr.slice 47 (.slice A1 out.length c1) (some (.int .i64 j)) none none).run Tryz.prog W=.ok (.slice A2 xs.length c2) W)∧Kd.C (Kd.int .u8) w1 A2 xs.length xs)→Kd.C (Kd.int .u8) w1 A1 ys.length ys→P ee w1) →
      Calls Tryz.prog 228 #[.slice A0 l0.length c0] w P:=by
     intro P hP;refine HU.out.mono ?_;rintro ee w1 ⟨v1,rfl,hR1,hb1⟩;obtain⟨A1,c1,rfl⟩:=Kd.R_slice hR1;obtain⟨_,hlc,hC1⟩:=Kd.R_reads' hR1;have e1:=Qee (P:=Tryz.prog) 47 5 .i64 Tryz.underlying47 hii A1 out.length c1 j hj0 HJL.out hlc;have e2:=Qqf (P:=Tryz.prog) 47 5 .i64 Tryz.underlying47 hii A1 out.length c1 j hj0 HJL.out hlc;have e3:=Qef (P:=Tryz.prog) 47 5 .i64 Tryz.underlying47 hii 1 hsz A1 out.length c1 j hj0 HJL.out;have hml:m≤out.length:=by have:=HJL.out;omega
     have hC2:=Kd.C_drop (m:=m) hC1 hml hlc;have hC3:=Kd.C_take (m:=m) hC1 hml;rw[hjm,← hyl]at e1 e2;rw[← HF.out.2.2.1]at hC3;rw[← HF.out.2.1]at hC2;rw[hjm,show out.length-m=xs.length by rw[HF.out.2.1,List.length_drop]]at e3;exact hP _ w1 A1 c1 rfl (Kd.R_mono hR1 (fun _ _=>trivial)) hb1 e1 e2 ⟨_,_,e3,hC2⟩ hC3
    have UPA:=QA UP;have hyl2:ys.length≤140737488355328:=by have:=HG.out.2;have:=HJL.out;omega
    have HL:=QA (And.intro hyl (And.intro hjm (And.intro hxl hyl2)));have H2:=QA h2;clear UP HU HG HF hlen64 hyl hjm hxl hyl2 hii hsz h2;have stp:∀(P:Ending→World→Prop),(∀w' A c,Below w.heap.size w w'→Kd.C (Kd.int .u8) w' A ys.length ys→ys.length≤c→x=Qkt 0 ys→P (.returned (.tuple #[.slice A ys.length c,.int .i64 0])) w') →
      (∀w',Below w.heap.size w w'→x≠Qkt 0 ys→P (.returned (.tuple #[.slice none 0 0,.int .i64 5])) w')→Calls Tryz.prog 181 #[.slice A0 l0.length c0] w P:=by
     intro P hP1 hP2
     by_cases hh:x=Qkt 0 ys
     ·have hne:(x != Qkt 0 ys)=false:=bne_eq_false_iff_eq.2 hh
      go_enter Tryz.func181,Tryz.ntmps181
      go_upto_region 7 with(go_at_call 228;refine UPA.out _ ?_;rintro ee w1 A1 c1 rfl hR1 hb1 e1 e2 ⟨A2,c2,e3,hC2⟩ hC3;have n:=QA hR1;have a:=QA hb1;have d:=QA hC2;have b:=QA hC3;clear hR1 hb1 hC2 hC3)
      have kt:=Qdt w1 (.cells #[.int .u64 0] 32 (0,0));have RUN:=QA (Qqe A2 c2 xs x w1.heap.size _ HXB.out HL.out.2.2.1 HX.out (Kd.C_below d.out (Qci (Below.refl _ _) _)) kt)
      go_upto_region 9 with(go_at_call 170;refine RUN.out.mono ?_;rintro ee w3 ⟨er,i,rfl,hb3,hk3⟩)
      have t3:=(Qqb (w:=w) hk3).2;have g:=(Qqb (w:=w) (show w3.drew.heap[w1.heap.size]? = some (.cells #[.int .u64 x] 32 (0,0)) from hk3)).2;have b13:Below w1.heap.size w1 w3:=(Qci (Below.refl _ _) _).trans hb3;have l:=QA (Kd.C_below b.out (b13.trans (Qis (Qcj (Below.refl _ _)) b13.size)));have B13:=QA (b13.trans (Qis (Qcj (Below.refl w3.heap.size w3)) b13.size))
      go_region_held3 (fun w'=>w'.cell? ⟨w1.heap.size,0,none⟩=some (.int .u64 x)) (first|exact g|exact t4) (first |(go_at_call 154;refine(Qkv 0 A1 c1 ys _ l.out HL.out.2.2.2).mono ?_;rintro e w4 ⟨rfl,hb4⟩;have B14:=QA (B13.out.trans (Qis hb4 B13.out.size));have t4:=(Qqb (w:=w) ((hb4.block w1.heap.size (Qde (show w3.drew.heap[w1.heap.size]? = some (.cells #[.int .u64 x] 32 (0,0)) from hk3))).trans (show w3.drew.heap[w1.heap.size]? = some (.cells #[.int .u64 x] 32 (0,0)) from hk3))).2))
      go_wp2_with fail
      have BB:=a.out.trans (Qis B14.out a.out.size);exact hP1 _ _ _ BB (Kd.C_below b.out B14.out) (Nat.le_refl _) hh
     ·have hne:(x != Qkt 0 ys)=true:=bne_iff_ne.2 hh
      go_enter Tryz.func181,Tryz.ntmps181
      go_upto_region 7 with(go_at_call 228;refine UPA.out _ ?_;rintro ee w1 A1 c1 rfl hR1 hb1 e1 e2 ⟨A2,c2,e3,hC2⟩ hC3;have n:=QA hR1;have a:=QA hb1;have d:=QA hC2;have b:=QA hC3;clear hR1 hb1 hC2 hC3)
      have kt:=Qdt w1 (.cells #[.int .u64 0] 32 (0,0));have RUN:=QA (Qqe A2 c2 xs x w1.heap.size _ HXB.out HL.out.2.2.1 HX.out (Kd.C_below d.out (Qci (Below.refl _ _) _)) kt)
      go_upto_region 9 with(go_at_call 170;refine RUN.out.mono ?_;rintro ee w3 ⟨er,i,rfl,hb3,hk3⟩)
      have t3:=(Qqb (w:=w) hk3).2;have g:=(Qqb (w:=w) (show w3.drew.heap[w1.heap.size]? = some (.cells #[.int .u64 x] 32 (0,0)) from hk3)).2;have b13:Below w1.heap.size w1 w3:=(Qci (Below.refl _ _) _).trans hb3;have l:=QA (Kd.C_below b.out (b13.trans (Qis (Qcj (Below.refl _ _)) b13.size)));have B13:=QA (b13.trans (Qis (Qcj (Below.refl w3.heap.size w3)) b13.size))
      go_region_held3 (fun w'=>w'.cell? ⟨w1.heap.size,0,none⟩=some (.int .u64 x)) (first|exact g|exact t4) (first |(go_at_call 154;refine(Qkv 0 A1 c1 ys _ l.out HL.out.2.2.2).mono ?_;rintro e w4 ⟨rfl,hb4⟩;have B14:=QA (B13.out.trans (Qis hb4 B13.out.size));have t4:=(Qqb (w:=w) ((hb4.block w1.heap.size (Qde (show w3.drew.heap[w1.heap.size]? = some (.cells #[.int .u64 x] 32 (0,0)) from hk3))).trans (show w3.drew.heap[w1.heap.size]? = some (.cells #[.int .u64 x] 32 (0,0)) from hk3))).2))
      go_wp2_with fail
      have BB:=a.out.trans (Qis B14.out a.out.size);exact hP2 _ BB hh
    refine stp _ ?_ ?_
    ·intro w' A c h1 h3 h4 h5;have h6:=H2.out;rw[if_pos h5]at h6;obtain⟨rfl,rfl⟩:=Prod.mk.inj h6;exact⟨A,c,rfl,h3,h4,h1⟩
    ·intro w' h1 h5;have h6:=H2.out;rw[if_neg h5]at h6;obtain⟨rfl,rfl⟩:=Prod.mk.inj h6;exact⟨none,0,rfl,Kd.C_nil _ _,Nat.le_refl _,h1⟩
  ·rw[if_neg hg]at h;cases h
 ·rw[if_neg he]at h;simp only[Option.some.injEq,Prod.mk.injEq]at h;obtain⟨rfl,rfl⟩:=h;have hne:(e0 != 0)=true:=bne_iff_ne.2 he
  go_enter Tryz.func181,Tryz.ntmps181
  go_wp2_with (go_at_call 228;refine HU.out.mono ?_;rintro ee w1 ⟨v1,rfl,hR1,hb1⟩;obtain⟨A1,c1,rfl⟩:=Kd.R_slice hR1)
  refine bodyPost_ret (results_tmp2 rfl _ _ _) rfl ?_;exact⟨none,0,rfl,Kd.C_nil _ _,Nat.le_refl _,hb1⟩
theorem Qqg(b g:Nat)(bs:List Int)(i x:Int)(hx:x=YtepkfjmjidjedaaGreatW.PrintWords.rd bs i)(hb:CodecP.Bytes bs)(hi:0≤i)(hl:bs.length≤140737488355328)(hs:i<(bs.length:Int))(hbg:b≤g)(w:World)(hbw:b≤w.heap.size)(hI:IsCur w b g bs i) :
  Calls Tryz.prog 232 #[.pointer (some ⟨g,0,none⟩)] w fun e w'=>e=.returned (.int .u8 x)∧IsCur w' b g bs (i+1)∧Bw b g w w':=by
 obtain⟨j,rfl⟩:=Int.eq_ofNat_of_zero_le hi;have hj:j<bs.length:=by omega
 have hr:=CodecP.rd_range hb hj;obtain⟨k,y,h1,h2⟩:=CodecP.byte_key (YtepkfjmjidjedaaGreatW.PrintWords.rd bs (j:Int)) hr;have h:=Qpn k b g bs [YtepkfjmjidjedaaGreatW.PrintWords.rd bs (j:Int)] j y (by
  rw[CodecP.rd_get hj,show(j:Int).toNat=j from rfl,List.drop_eq_getElem_cons hj];rfl) hi hl (by omega) hbg h1 w hbw hI
 rw[h2,← hx]at h;exact h
def Qqh(bs:List Int):Nat→Int→Int→Int→Except (Int × Int) (Int × Int)
 | 0,_,i,x=>.ok (x,i)
 | f+1,j,i,x =>
  if i<(bs.length:Int)then
   if j=9∧1<YtepkfjmjidjedaaGreatW.PrintWords.rd bs i then .error (3,i+1)
   else if 128≤YtepkfjmjidjedaaGreatW.PrintWords.rd bs i then Qqh bs f (j+1) (i+1) (Go.bits .or .u64 x (shl .u64 (IntKind.u64.wrap (Go.bits .andNot .u8 (YtepkfjmjidjedaaGreatW.PrintWords.rd bs i) 128)) (7*j)))
   else if YtepkfjmjidjedaaGreatW.PrintWords.rd bs i=0∧0<j then .error (4,i+1)
   else .ok (Go.bits .or .u64 x (shl .u64 (IntKind.u64.wrap (Go.bits .andNot .u8 (YtepkfjmjidjedaaGreatW.PrintWords.rd bs i) 128)) (7*j)),i+1)
  else .error (2,i)
def Ends(b g:Nat)(bs:List Int)(w:World)(r:Except (Int × Int) (Value × Int))(e:Ending)(w':World):Prop :=
 match r with
 | .ok (v,i)=>e=.returned v∧IsCur w' b g bs i∧Bw b g w w'
 | .error (er,i)=>Qpl b g bs i er w e w'
theorem Qqi (b g:Nat) (bs:List Int) (i:Int) (hb:CodecP.Bytes bs) (hi:0≤i∧i≤(bs.length:Int)) (hl:bs.length≤140737488355328) (hbg:b≤g) (w:World) (hbw:b≤w.heap.size) (hI:IsCur w b g bs i) (R:Except (Int × Int) (Value × Int)) (hR:(Qqh bs 10 0 i 0).map (fun p=>(Value.int .u64 p.1,p.2))=R) :
  Calls Tryz.prog 233 #[.pointer (some ⟨g,0,none⟩)] w (Ends b g bs w R):=by
 have HI:=QA hI;have HR:=QA hR;have HBY:=QA hb;have HW:=QA hbw;clear hI hR hb hbw
 go_enter Tryz.func233,Tryz.ntmps233
 go_wp2
 go_loopw [3,6] (fun v3 v6 wr=>∃(x j i2:Int) (f:Nat),v3=.int .u64 x∧v6=.int .i64 j∧Aside0 (0≤j∧j+(f:Int)=10)∧Aside0 (0≤i2∧i2≤(bs.length:Int))∧Aside0 ((Qqh bs f j i2 x).map (fun p=>(Value.int .u64 p.1,p.2))=R)∧Aside0 (IsCur wr b g bs i2)∧Aside0 (Bw b g w wr))
  (fun _ v6 _=>10-(intOf v6).toNat)
 case atStart=>exact⟨0,0,i,10,rfl,rfl,⟨by omega⟩,⟨hi⟩,HR,HI,⟨Bw.refl _ _ _⟩⟩
 case round =>
  obtain⟨x,j,i2,f,rfl,rfl,HJ,HI2,HV,HIr,HBr⟩:=hrel;have hbr:b≤wr.heap.size:=Nat.le_trans HW.out HBr.out.size
  cases f with
  | zero =>
   have hj:j=10:=by have:=HJ.out;omega
   subst hj;have hv:=HV.out;simp only[Qqh,Except.map]at hv;subst hv;go_wp2;go_ret
   exact⟨rfl,HIr.out,HBr.out⟩
  | succ f =>
   have hv:=HV.out;clear HV;have hj1:decide (j<10)=true:=decide_eq_true (by have:=HJ.out;omega);simp only[Qqh]at hv
   by_cases hlt:i2<(bs.length:Int)
   ·rw [if_pos hlt]at hv;obtain⟨y,hy⟩:∃y,y=YtepkfjmjidjedaaGreatW.PrintWords.rd bs i2:=⟨_,rfl⟩;rw[← hy]at hv;have HY:=QA hy;have HLT:=QA hlt;have hw7:IntKind.i64.wrap (7*j)=7*j:=IntWalk.i64_in _ (by have:=HJ.out;omega);have hwj:IntKind.i64.wrap (j+1)=j+1:=IntWalk.i64_in _ (by have:=HJ.out;omega);obtain⟨s7,hs7⟩:∃s7:Int,7*j=s7:=⟨_,rfl⟩;have hw7':IntKind.i64.wrap (7*j)=s7:=hw7.trans hs7;have hs70:0≤s7:=by have:=HJ.out;omega
    rw[hs7]at hv;obtain⟨z,hz⟩:∃z:Int,Go.bits .andNot .u8 y 128=z:=⟨_,rfl⟩;rw[hz]at hv;obtain⟨j8,hj8⟩:∃j8:Int,(shl .u64 (IntKind.u64.wrap z) s7)=j8:=⟨_,rfl⟩;rw[hj8]at hv;have hj8_:(IntKind.u64.wrap ((IntKind.u64.wrap z)*2^min s7.toNat 64))=j8:=hj8;have hj8z:s7≤64→(IntKind.u64.wrap ((IntKind.u64.wrap z)*2^s7.toNat))=j8:=Qhy hj8;have HS7:=QA hs7;clear hy hlt hw7 hs7 hj8;have hi20:=HI2.out.1
    by_cases h9:j=9∧1<y
    ·rw[if_pos h9]at hv;simp only[Except.map]at hv;subst hv;have m:(j == 9)=true:=by rw[h9.1];rfl
     have n:decide (1<y)=true:=decide_eq_true h9.2;clear h9
     go_wp2_with (first
      |(go_at_call 232;refine(Qqg b g bs i2 y HY.out HBY.out HI2.out.1 hl HLT.out hbg _ hbr HIr.out).mono ?_;rintro ee w1 ⟨rfl,hI1,hB1⟩)
      |(go_at_call 220;refine(Qls b g bs (i2+1) 3 (by decide) _ hI1).mono ?_;rintro ee w2 ⟨rfl,rfl⟩))
     exact⟨rfl,rfl,hI1,HBr.out.trans hB1⟩
    ·rw [if_neg h9]at hv
     by_cases e9:j=9
     ·have m:(j == 9)=true:=by rw[e9];rfl
      have n:decide (1<y)=false:=decide_eq_false (fun h=>h9 ⟨e9,h⟩);clear h9 e9
      by_cases a:128≤y
      ·rw[if_pos a]at hv;have k:decide (128≤y)=true:=decide_eq_true a;have HV:=QA hv;clear hv a
       go_wp2_with (go_at_call 232;refine(Qqg b g bs i2 y HY.out HBY.out HI2.out.1 hl HLT.out hbg _ hbr HIr.out).mono ?_;rintro ee w1 ⟨rfl,hI1,hB1⟩)
       go_roundw
       case rel=>exact⟨_,j+1,i2+1,f,rfl,rfl,⟨by have:=HJ.out;omega⟩,⟨by have:=HI2.out;have:=HLT.out;omega⟩,HV,⟨hI1⟩,⟨HBr.out.trans hB1⟩⟩
       case measure=>have:=HJ.out;simp[intOf];omega
      ·rw[if_neg a]at hv;have k:decide (128≤y)=false:=decide_eq_false a;clear a
       by_cases c:y=0∧0<j
       ·rw[if_pos c]at hv;simp only[Except.map]at hv;subst hv;have d:(y == 0)=true:=by rw[c.1];rfl
        have l:decide (0<j)=true:=decide_eq_true c.2;clear c
        go_wp2_with (first
         |(go_at_call 232;refine(Qqg b g bs i2 y HY.out HBY.out HI2.out.1 hl HLT.out hbg _ hbr HIr.out).mono ?_;rintro ee w1 ⟨rfl,hI1,hB1⟩)
         |(go_at_call 220;refine(Qls b g bs (i2+1) 4 (by decide) _ hI1).mono ?_;rintro ee w2 ⟨rfl,rfl⟩))
        exact⟨rfl,rfl,hI1,HBr.out.trans hB1⟩
       ·rw[if_neg c]at hv;simp only[Except.map]at hv;subst hv
        by_cases hyz:y=0
        ·have d:(y == 0)=true:=by rw[hyz];rfl
         have l:decide (0<j)=false:=decide_eq_false (fun h=>c ⟨hyz,h⟩);clear c hyz
         go_wp2_with (go_at_call 232;refine(Qqg b g bs i2 y HY.out HBY.out HI2.out.1 hl HLT.out hbg _ hbr HIr.out).mono ?_;rintro ee w1 ⟨rfl,hI1,hB1⟩)
         go_ret
         exact⟨rfl,hI1,HBr.out.trans hB1⟩
        ·have d:(y == 0)=false:=beq_eq_false_iff_ne.2 hyz;clear c hyz
         go_wp2_with (go_at_call 232;refine(Qqg b g bs i2 y HY.out HBY.out HI2.out.1 hl HLT.out hbg _ hbr HIr.out).mono ?_;rintro ee w1 ⟨rfl,hI1,hB1⟩)
         go_ret
         exact⟨rfl,hI1,HBr.out.trans hB1⟩
     ·have m:(j == 9)=false:=beq_eq_false_iff_ne.2 e9;clear h9 e9
      by_cases a:128≤y
      ·rw[if_pos a]at hv;have k:decide (128≤y)=true:=decide_eq_true a;have HV:=QA hv;clear hv a
       go_wp2_with (go_at_call 232;refine(Qqg b g bs i2 y HY.out HBY.out HI2.out.1 hl HLT.out hbg _ hbr HIr.out).mono ?_;rintro ee w1 ⟨rfl,hI1,hB1⟩)
       go_roundw
       case rel=>exact⟨_,j+1,i2+1,f,rfl,rfl,⟨by have:=HJ.out;omega⟩,⟨by have:=HI2.out;have:=HLT.out;omega⟩,HV,⟨hI1⟩,⟨HBr.out.trans hB1⟩⟩
       case measure=>have:=HJ.out;simp[intOf];omega
      ·rw[if_neg a]at hv;have k:decide (128≤y)=false:=decide_eq_false a;clear a
       by_cases c:y=0∧0<j
       ·rw[if_pos c]at hv;simp only[Except.map]at hv;subst hv;have d:(y == 0)=true:=by rw[c.1];rfl
        have l:decide (0<j)=true:=decide_eq_true c.2;clear c
        go_wp2_with (first
         |(go_at_call 232;refine(Qqg b g bs i2 y HY.out HBY.out HI2.out.1 hl HLT.out hbg _ hbr HIr.out).mono ?_;rintro ee w1 ⟨rfl,hI1,hB1⟩)
         |(go_at_call 220;refine(Qls b g bs (i2+1) 4 (by decide) _ hI1).mono ?_;rintro ee w2 ⟨rfl,rfl⟩))
        exact⟨rfl,rfl,hI1,HBr.out.trans hB1⟩
       ·rw[if_neg c]at hv;simp only[Except.map]at hv;subst hv
        by_cases hyz:y=0
        ·have d:(y == 0)=true:=by rw[hyz];rfl
         have l:decide (0<j)=false:=decide_eq_false (fun h=>c ⟨hyz,h⟩);clear c hyz
         go_wp2_with (go_at_call 232;refine(Qqg b g bs i2 y HY.out HBY.out HI2.out.1 hl HLT.out hbg _ hbr HIr.out).mono ?_;rintro ee w1 ⟨rfl,hI1,hB1⟩)
         go_ret
         exact⟨rfl,hI1,HBr.out.trans hB1⟩
        ·have d:(y == 0)=false:=beq_eq_false_iff_ne.2 hyz;clear c hyz
         go_wp2_with (go_at_call 232;refine(Qqg b g bs i2 y HY.out HBY.out HI2.out.1 hl HLT.out hbg _ hbr HIr.out).mono ?_;rintro ee w1 ⟨rfl,hI1,hB1⟩)
         go_ret
         exact⟨rfl,hI1,HBr.out.trans hB1⟩
   ·rw[if_neg hlt]at hv;simp only[Except.map]at hv;subst hv
    go_wp2_with (go_at_call 232;refine(Qpo b g bs i2 HI2.out hl (by omega) _ hbr HIr.out).mono ?_;rintro ee w1 ⟨rfl,hI1,hB1⟩)
    exact⟨rfl,rfl,hI1,HBr.out.trans hB1⟩
theorem Qti{a b:List Int}(ha:CodecP.Bytes a)(hb:CodecP.Bytes b):(strOfNums a).toList=(strOfNums b).toList↔a=b:=by
 constructor
 ·intro h;have h2:strOfNums a=strOfNums b:=by
   rw[Lib.toList_data,Lib.toList_data]at h;have h3:=Array.toList_inj.1 h;generalize strOfNums a=x at h3 ⊢;generalize strOfNums b=y at h3 ⊢
   cases x
   cases y
   congr
  have:=congrArg bytesOf h2
  rwa [CodecP.bytesOf_nums ha,CodecP.bytesOf_nums hb]at this
 ·intro h;rw[h]
theorem Qtj(A0 A1:Option Addr)(c0 c1:Nat)(l0 l1:List Int)(w:World)(hr0:Kd.C (Kd.int .u8) w A0 l0.length l0)(hc0:l0.length≤c0)(hr1:Kd.C (Kd.int .u8) w A1 l1.length l1)(hc1:l1.length≤c1)(hb0:CodecP.Bytes l0)(hb1:CodecP.Bytes l1)(hl:l0.length≤1099511627776) :
  Calls Tryz.prog 121 #[.slice A0 l0.length c0,.slice A1 l1.length c1] w fun e w'=>e=.returned (.bool (decide (l0.take l1.length=l1)))∧Below w.heap.size w w':=by
 have c:=QA hr1;have d:=QA hc1
 by_cases hle:l1.length≤l0.length
 ·obtain⟨j,hj⟩:∃j:Int,j=(l1.length:Int):=⟨_,rfl⟩;have hb2:decide ((l1.length:Int)≤(l0.length:Int))=true:=decide_eq_true (by omega);have hb3:decide (l1.length≤l0.length)=true:=decide_eq_true hle;obtain⟨i0,hii,_,hsz,_⟩:=info_parts Qid;have hcut:=Qee (P:=Tryz.prog) 47 5 .i64 Tryz.underlying47 hii A0 l0.length c0 (l1.length:Int) (by omega) (by omega) hc0;have hC:=Kd.C_take (m:=l1.length) hr0 hle;have htl:(l0.take l1.length).length=l1.length:=by rw[List.length_take];omega
  obtain⟨xs,hxs⟩:∃xs,xs=l0.take l1.length:=⟨_,rfl⟩;rw[← hxs]at hC htl ⊢;rw[Int.toNat_natCast,← htl]at hcut;have hq:Qad.f xs l1=some (decide (xs=l1)):=by
   unfold Qad.f
   congr 1
   have:=Qti (a:=xs) (b:=l1) (by rw[hxs];exact hb0.take _) hb1
   by_cases h:xs=l1
   ·simp[h]
   ·have h2:¬(strOfNums xs).toList=(strOfNums l1).toList:=fun e=>h (this.1 e)
    rw[decide_eq_false h];exact beq_eq_false_iff_ne.2 h2
  obtain⟨q,hqq⟩:∃q,q=decide (xs=l1):=⟨_,rfl⟩;rw[← hqq]at hq ⊢;have EQ:=QA (fun W (h:Below w.heap.size w W)=>Qad.calls A0 c0 xs A1 c1 l1 q W (Kd.C_below hC h) (by omega) (Kd.C_below hr1 h) hc1 hq);have hn:((xs.length:Nat):Int)=(l1.length:Int):=by omega
  obtain⟨n1,g⟩:∃n1,n1=l1.length:=⟨_,rfl⟩;obtain⟨n0,k⟩:∃n0,n0=l0.length:=⟨_,rfl⟩;rw[htl]at hcut EQ;rw[← g]at hcut EQ hb2 hb3 ⊢;rw[← k]at hcut hb2 hb3 ⊢;clear hr0 hr1 hC hxs hq hqq hii hsz htl hc0 hc1 hle hj hn c d hb0 hb1 hl g k
  go_enter Tryz.func121,Tryz.ntmps121
  go_wp2_with (go_at_call 112;refine(EQ.out _ (Below.refl _ _)).mono ?_;rintro ee w2 ⟨rfl,hd⟩)
  go_ret
  exact⟨rfl,hd.below⟩
 ·have hb2:decide ((l1.length:Int)≤(l0.length:Int))=false:=decide_eq_false (by omega);have hb3:decide (l1.length≤l0.length)=false:=decide_eq_false hle;have hd:decide (l0.take l1.length=l1)=false:=decide_eq_false (fun e=>by
   have:=congrArg List.length e;rw[List.length_take]at this;omega)
  rw[hd];clear hd hr0 hr1 c d
  go_enter Tryz.func121,Tryz.ntmps121
  go_wp2;go_ret
  exact⟨rfl,Below.refl _ _⟩
end Go.Proofs.YtepkfjmjidjedaaGreat.C
end
section
namespace Go.Proofs.YtepkfjmjidjedaaGreat.C
open Go.RowKit Go.Proofs.YtepkfjmjidjedaaGreatW.PrintWords Go.Proofs.YtepkfjmjidjedaaGreatW.PrintLast Go.Proofs.YtepkfjmjidjedaaGreatW.PrintMore
attribute [local go_sem] Qho Qhp Qhq Qhr
theorem Qqj(bs:List Int):∀(f:Nat) (j i x:Int),0≤i→i≤(bs.length:Int)→0≤x→x<18446744073709551616 →
  match Qqh bs f j i x with
  | .ok (n,i1)=>0≤n∧n<18446744073709551616∧i≤i1∧i1≤(bs.length:Int)
  | .error (_,i1)=>i≤i1∧i1≤(bs.length:Int)
 | 0,_,i,x=>fun h0 h1 h2 h3=>⟨h2,h3,Int.le_refl _,h1⟩
 | f + 1,j,i,x=>fun h0 h1 h2 h3=>by
  obtain⟨y,hy⟩:∃y,y=Go.bits .or .u64 x (shl .u64 (IntKind.u64.wrap (Go.bits .andNot .u8 (YtepkfjmjidjedaaGreatW.PrintWords.rd bs i) 128)) (7*j)):=⟨_,rfl⟩;have hr:0≤y∧y<18446744073709551616:=by
   have e:∀z:Int,0≤IntKind.u64.wrap z∧IntKind.u64.wrap z<18446744073709551616:=fun z=>by rw[IntKind.wrap_u64];omega
   rw[hy];exact e _
  unfold Qqh;rw[← hy]
  by_cases hlt:i<(bs.length:Int)
  ·rw[if_pos hlt]
   by_cases c1:j=9∧1<YtepkfjmjidjedaaGreatW.PrintWords.rd bs i
   ·rw[if_pos c1];exact⟨by omega,by omega⟩
   ·rw[if_neg c1]
    by_cases c2:128≤YtepkfjmjidjedaaGreatW.PrintWords.rd bs i
    ·rw[if_pos c2];have h:=Qqj bs f (j+1) (i+1) y (by omega) (by omega) hr.1 hr.2
     revert h
     cases Qqh bs f (j+1) (i+1) y with
     | ok p=>exact fun h=>⟨h.1,h.2.1,by have:=h.2.2.1;omega,h.2.2.2⟩
     | error p=>exact fun h=>⟨by have:=h.1;omega,h.2⟩
    ·rw[if_neg c2]
     by_cases c3:YtepkfjmjidjedaaGreatW.PrintWords.rd bs i=0∧0<j
     ·rw[if_pos c3];exact⟨by omega,by omega⟩
     ·rw[if_neg c3];exact⟨hr.1,hr.2,by omega,by omega⟩
  ·rw[if_neg hlt];exact⟨Int.le_refl _,h1⟩
def Qqk(bs:List Int)(least most i:Int):Except (Int × Int) (List Int × Int) :=
 match Qqh bs 10 0 i 0 with
 | .error p=>.error p
 | .ok (n,i1)=>if most<n then .error (3,i1)else if n<least then .error (4,i1)else if i1+n≤(bs.length:Int)then .ok ((bs.drop i1.toNat).take n.toNat,i1+n)else .error (2,i1)
theorem Qql(b g:Nat)(bs:List Int)(i least most:Int)(hle:0≤least∧least≤4611686018427387904)(hmo:0≤most∧most≤4611686018427387904)(hb:CodecP.Bytes bs)(hi:0≤i∧i≤(bs.length:Int))(hl:bs.length≤140737488355328)(hbg:b≤g)(w:World)(hbw:b≤w.heap.size)(hI:IsCur w b g bs i)(R:Except (Int × Int) (Value × Int))(hR:(Qqk bs least most i).map (fun p=>(Value.string (strOfNums p.1),p.2))=R) :
  Calls Tryz.prog 234 #[.pointer (some ⟨g,0,none⟩),.int .i64 least,.int .i64 most] w (Ends b g bs w R):=by
 have HI:=QA hI;have HW:=QA hbw;have hrg:=Qqj bs 10 0 i 0 hi.1 hi.2 (by decide) (by decide);have hwl:IntKind.u64.wrap least=least:=IntWalk.u64_in _ (by omega);have hwm:IntKind.u64.wrap most=most:=IntWalk.u64_in _ (by omega);have hm1:max 0 most=most:=by omega
 have hm2:max 0 least=least:=by omega
 have d:∀W:World,(convert 47 9 (.slice none 0 0)).run Tryz.prog W=.ok (.string (strOfNums [])) W:=fun W=>Qcr (P:=Tryz.prog) Tryz.underlying47 Tryz.underlying5 Tryz.underlying9 (Kd.own_of_R (Kd.R_nil (Kd.int .u8) 5 W b (fun _=>True)))
 unfold Qqk at hR;clear hI hbw
 cases hv:Qqh bs 10 0 i 0 with
 | error p =>
  obtain⟨er,i1⟩:=p;rw[hv]at hR hrg;simp only[Except.map]at hR;have HV:=QA hv;clear hv;subst hR
  go_enter Tryz.func234,Tryz.ntmps234
  go_wp2_with (go_at_call 233;refine(Qqi b g bs i hb hi hl hbg _ HW.out HI.out (.error (er,i1)) (by rw[HV.out];rfl)).mono ?_;rintro ee w1 ⟨rfl,hI1,hB1⟩)
  all_goals first|exact⟨rfl,rfl,hI1,hB1⟩ |(exfalso;omega)
 | ok p =>
  obtain⟨n,i1⟩:=p;rw[hv]at hR hrg;obtain⟨h,j,hi0,hi1⟩:=hrg;dsimp only at hR;have HV:=QA hv;clear hv;have GET:Aside0 (Calls Tryz.prog 233 #[.pointer (some ⟨g,0,none⟩)] w (Ends b g bs w (.ok (.int .u64 n,i1)))):=⟨Qqi b g bs i hb hi hl hbg _ HW.out HI.out (.ok (.int .u64 n,i1)) (by rw[HV.out];rfl)⟩
  by_cases c1:most<n
  ·rw[if_pos c1]at hR;simp only[Except.map]at hR;subst hR;have a:decide (most<n)=true:=decide_eq_true c1
   go_enter Tryz.func234,Tryz.ntmps234
   go_wp2_with (first
    |(go_at_call 233;refine GET.out.mono ?_;rintro ee w1 ⟨rfl,hI1,hB1⟩)
    |(go_at_call 220;refine(Qls b g bs i1 3 (by decide) _ hI1).mono ?_;rintro ee w2 ⟨rfl,rfl⟩))
   all_goals first|exact⟨rfl,rfl,hI1,hB1⟩ |(exfalso;omega)
  ·rw [if_neg c1]at hR;have a:decide (most<n)=false:=decide_eq_false c1;have hwn:IntKind.i64.wrap n=n:=IntWalk.i64_in _ (by omega)
   by_cases c2:n<least
   ·rw[if_pos c2]at hR;simp only[Except.map]at hR;subst hR;have c:decide (n<least)=true:=decide_eq_true c2
    go_enter Tryz.func234,Tryz.ntmps234
    go_wp2_with (first
     |(go_at_call 233;refine GET.out.mono ?_;rintro ee w1 ⟨rfl,hI1,hB1⟩)
     |(go_at_call 220;refine(Qls b g bs i1 4 (by decide) _ hI1).mono ?_;rintro ee w2 ⟨rfl,rfl⟩))
    all_goals first|exact⟨rfl,rfl,hI1,hB1⟩ |(exfalso;omega)
   ·rw [if_neg c2]at hR;have c:decide (n<least)=false:=decide_eq_false c2
    by_cases c3:i1+n≤(bs.length:Int)
    ·rw[if_pos c3]at hR;simp only[Except.map]at hR;subst hR
     by_cases c4:n≤0
     ·obtain rfl:n=0:=by omega
      go_enter Tryz.func234,Tryz.ntmps234
      go_wp2_with (first
       |(go_at_call 233;refine GET.out.mono ?_;rintro ee w1 ⟨rfl,hI1,hB1⟩)
       |(go_at_call 223;refine(Qlu b g bs i1 0 (by decide) _ hI1).mono ?_;rintro ee w2 ⟨rfl,rfl⟩))
      all_goals go_ret
      all_goals exact⟨rfl,hI1,hB1⟩
     ·obtain⟨xs,hxs⟩:∃xs,xs=(bs.drop i1.toNat).take n.toNat:=⟨_,rfl⟩;rw[← hxs];have HX:=QA hxs;clear hxs
      go_enter Tryz.func234,Tryz.ntmps234
      go_wp2_with (first
       |(go_at_call 233;refine GET.out.mono ?_;rintro ee w1 ⟨rfl,hI1,hB1⟩)
       |(go_at_call 223;refine(Qlw b g bs xs i1 n HX.out (by omega) (by omega) hl c3 hbg _ (Nat.le_trans HW.out hB1.size) hI1).mono ?_;rintro ee w2 ⟨v,rfl,hRv,hI2,hB2⟩;have cv:=Qcr (P:=Tryz.prog) Tryz.underlying47 Tryz.underlying5 Tryz.underlying9 (Kd.own_of_R hRv)))
      all_goals first |(go_ret;exact⟨rfl,hI2,hB1.trans hB2⟩) |(exfalso;omega)
    ·rw[if_neg c3]at hR;simp only[Except.map]at hR;subst hR
     go_enter Tryz.func234,Tryz.ntmps234
     go_wp2_with (first
      |(go_at_call 233;refine GET.out.mono ?_;rintro ee w1 ⟨rfl,hI1,hB1⟩)
      |(go_at_call 223;refine(Qlt b g bs i1 n (by omega) ⟨by omega,hi1⟩ hl (by omega) _ hI1).mono ?_;rintro ee w2 ⟨rfl,hb2⟩))
     all_goals first|exact⟨rfl,rfl,hI1.kept hb2,hB1.trans (Bw.below hb2 (Nat.le_trans HW.out hB1.size))⟩ |(exfalso;omega)
theorem IsCur.blk{W W':World}{b g:Nat}{bs:List Int}{i:Int}(h:IsCur W b g bs i)(hm:∀(k:Nat) (cs:Array Value) (t:TypeId),W.heap[k]? = some (.cells cs t (0,0))→(t=5∨t=315)→W'.heap[k]? = W.heap[k]?):IsCur W' b g bs i:=by
 obtain⟨v,hv,hR⟩:=h;refine⟨v,(hm _ _ _ hv (.inr rfl)).trans hv,?_⟩;refine Kd.R_mono (Kd.R_step (Kd.R_bound hR) (fun k hk _=>?_)) (fun _ _=>trivial);obtain⟨_,_,_,qq,hq,cells,hc⟩:=hk;exact hm k _ _ hc (by revert hq;revert qq;intro qq hc hq;rcases List.mem_cons.1 hq with rfl|hq;exact .inl rfl;cases hq)
theorem IsCur.grown{α:Type}{d:Kd α}{q base:Nat}{v:Value}{xs:List α}{ok:Nat→Prop}{W W':World}{b g:Nat}{bs:List Int}{i:Int}(h:IsCur W b g bs i)(hR:d.R q W base ok v xs)(hq:q≠5∧q≠315)(hg:W.grownBy W' v.ownBlock):IsCur W' b g bs i :=
 h.blk (fun k cs t hc ht=>(Qdh hc hg (Kd.R_ne hR hc (by rcases ht with rfl|rfl;exact hq.1;exact hq.2))).trans hc.symm)
theorem Bw.then{b g:Nat}{w wr w1:World}(h:Bw b g w wr)(hb:Below w.heap.size wr w1)(hbw:b≤w.heap.size):Bw b g w w1 :=
 ⟨h.1.trans (Qis hb hbw),fun k cs t h1 h2 h3=>(hb.block k (Qde h1)).trans (h.2 _ _ _ h1 h2 h3)⟩
theorem RU.cur{W W':World}{b g b':Nat}{v:Value}{xs bs:List Int}{i:Int}(h:RU W b' v xs)(hI:IsCur W b g bs i)(hT:Bw b g W W'):RU W' b' v xs:=by
 obtain⟨u,hu,_⟩:=hI;refine Kd.R_mono (Kd.R_step (Kd.R_bound h) (fun k hk _=>?_)) (fun _ _=>trivial);obtain⟨q,hq,cells,hc⟩:=hk.2.2.2;have hq':q=32:=by simpa [Kd.int,Kd.scalar]using hq
 subst hq';rw[hc];exact hT.2 k cells _ hc (by decide) (Qdi hc hu (by decide))
theorem Qrf(b g:Nat)(bs:List Int)(i x:Int)(hx:x=CodecP.leI ((bs.drop i.toNat).take 8))(hb:CodecP.Bytes bs)(hi:0≤i)(hl:bs.length≤140737488355328)(hs:i+8≤(bs.length:Int))(hbg:b≤g)(w:World)(hbw:b≤w.heap.size)(hI:IsCur w b g bs i) :
  Calls Tryz.prog 230 #[.pointer (some ⟨g,0,none⟩)] w fun e w'=>e=.returned (.int .u64 x)∧IsCur w' b g bs (i+8)∧Bw b g w w':=by
 refine Qpp (((bs.drop i.toNat).take 8).length+1) b g bs _ i x rfl hi hl hs hbg ?_ w hbw hI;rw[hx];exact CodecP.num_key _ ((hb.drop _).take _) (by rw[List.length_take];omega)
theorem Qrg(b g:Nat)(bs:List Int)(i x:Int)(hx:x=CodecP.leI ((bs.drop i.toNat).take 4))(hb:CodecP.Bytes bs)(hi:0≤i)(hl:bs.length≤140737488355328)(hs:i+4≤(bs.length:Int))(hbg:b≤g)(w:World)(hbw:b≤w.heap.size)(hI:IsCur w b g bs i) :
  Calls Tryz.prog 221 #[.pointer (some ⟨g,0,none⟩)] w fun e w'=>e=.returned (.int .u32 x)∧IsCur w' b g bs (i+4)∧Bw b g w w'∧K8 w w':=by
 have HI:=QA hI;have hlen:((bs.drop i.toNat).take 4).length=4:=by rw[List.length_take,List.length_drop];omega
 have hr:=CodecP.leI_range ((hb.drop i.toNat).take 4);have HK:=QA (CodecP.num_key ((bs.drop i.toNat).take 4) ((hb.drop _).take _) (by omega));rw[hlen,← hx]at hr;have hw:IntKind.u32.wrap x=x:=IntWalk.u32_in _ (by have:=hr.2;omega);rw[← hx]at HK;have HL:Aside0 (((bs.drop i.toNat).take 4).length≤8):=⟨by omega⟩;clear hI hlen hr hx hb
 go_enter Tryz.func221,Tryz.ntmps221
 go_wp2_with (go_at_call 273;refine(Qpj _ b g bs _ i 4 x rfl (by decide) hi hl hs hbg HL.out HK.out _ hbw HI.out).mono ?_;rintro ee w1 ⟨rfl,hI1,hB1,hK1⟩)
 go_ret
 exact⟨rfl,hI1,hB1,hK1⟩
theorem Qrh(b g:Nat)(bs:List Int)(i x:Int)(hx:x=CodecP.leI ((bs.drop i.toNat).take 4))(hb:CodecP.Bytes bs)(hi:0≤i)(hl:bs.length≤140737488355328)(hs:i+4≤(bs.length:Int))(hbg:b≤g)(w:World)(hbw:b≤w.heap.size)(hI:IsCur w b g bs i) :
  Calls Tryz.prog 221 #[.pointer (some ⟨g,0,none⟩)] w fun e w'=>e=.returned (.int .u32 x)∧IsCur w' b g bs (i+4)∧Bw b g w w':=(Qrg b g bs i x hx hb hi hl hs hbg w hbw hI).mono (by rintro e w' ⟨h1,h2,h3,_⟩;exact⟨h1,h2,h3⟩)
theorem Qri(b g:Nat)(bs:List Int)(i:Int)(hi:0≤i∧i≤bs.length)(hl:bs.length≤140737488355328)(hs:(bs.length:Int)-i<4)(w:World)(hbw:b≤w.heap.size)(hI:IsCur w b g bs i) :
  Calls Tryz.prog 221 #[.pointer (some ⟨g,0,none⟩)] w (Qpl b g bs i 2 w):=by
 have HI:=QA hI;clear hI
 go_enter Tryz.func221,Tryz.ntmps221
 go_wp2_with (go_at_call 273;refine(Qpm b g bs i 4 (by decide) hi hl hs _ hbw HI.out).mono ?_;rintro ee w1 ⟨rfl,hF⟩)
 exact⟨rfl,rfl,hF⟩
def Qrj(bs:List Int)(i:Nat)(n:Nat):List Int:=(List.range n).map (fun j=>CodecP.leI ((bs.drop (i+8*j)).take 8))
theorem Qrk(bs:List Int)(i n:Nat):Qrj bs i (n+1)=Qrj bs i n++[CodecP.leI ((bs.drop (i+8*n)).take 8)]:=by simp[Qrj,List.range_succ]
theorem Qrl(bs:List Int)(i n:Nat):(Qrj bs i n).length=n:=by simp[Qrj]
theorem Qrm(b g:Nat)(bs:List Int)(i n:Int)(hi:0≤i∧i≤bs.length)(hl:bs.length≤140737488355328)(hn:0≤n)(hs:((bs.length:Int)-i)/8<n)(w:World)(hbw:b≤w.heap.size)(hI:IsCur w b g bs i) :
  Calls Tryz.prog 238 #[.pointer (some ⟨g,0,none⟩),.int .i64 n] w (Qpl b g bs i 2 w):=by
 have HI:=QA hI;have hm:(if 0<n then n else 0)=n:=by split<;>omega
 have hq:((bs.length:Int)-i).tdiv 8=((bs.length:Int)-i)/8:=Int.tdiv_eq_ediv_of_nonneg (by omega);obtain⟨q,hqq⟩:∃q,q=((bs.length:Int)-i)/8:=⟨_,rfl⟩;rw[← hqq]at hq hs;have hb1:decide (q<n)=true:=decide_eq_true hs;have hw:IntKind.i64.wrap q=q:=IntWalk.i64_in _ (by omega);clear hI hqq
 go_enter Tryz.func238,Tryz.ntmps238
 go_wp2_with (first
  |(go_at_call 172;refine(Qpq b g bs i hi hl _ HI.out).mono ?_;rintro ee w1 ⟨rfl,hb1⟩;have HI1:=QA (HI.out.kept hb1))
  |(go_at_call 220;refine(Qls b g bs i 2 (by decide) _ HI1.out).mono ?_;rintro ee w2 ⟨rfl,rfl⟩))
 all_goals exact⟨rfl,rfl,HI1.out,Bw.below hb1 hbw⟩
theorem Qrn(k b g:Nat)(bs:List Int)(i n:Nat)(N:Int)(hN:N=(n:Int))(s:Bool)(hb:CodecP.Bytes bs)(hl:bs.length≤140737488355328)(hn:i+8*n≤bs.length)(hs:Qcc.f k (Qrj bs i n)=some s)(hbg:b≤g)(w:World)(hbw:b≤w.heap.size)(hI:IsCur w b g bs i) :
  Calls Tryz.prog 238 #[.pointer (some ⟨g,0,none⟩),.int .i64 N] w fun e w'=>IsCur w' b g bs ((i+8*n:Nat):Int)∧Bw b g w w'∧((s=true∧∃v,e=.returned v∧RU w' w.heap.size v (Qrj bs i n))∨(s=false∧e=.panicked [Qlq g 8])):=by
 have HI:=QA hI;have HW:=QA hbw;have HB:=QA hb;have HS:=QA hs;have HN:=QA hn;have hm:(if 0<N then N else 0)=N:=by split<;>omega
 obtain⟨q,hqq⟩:∃q,q=((bs.length:Int)-(i:Int))/8:=⟨_,rfl⟩;have hq:((bs.length:Int)-(i:Int)).tdiv 8=q:=by rw[hqq];exact Int.tdiv_eq_ediv_of_nonneg (by omega)
 have hb1:decide (q<N)=false:=decide_eq_false (by omega);have hw:IntKind.i64.wrap q=q:=IntWalk.i64_in _ (by omega);have t:(n:Int)≤140737488355328:=by omega
 have HNN:=QA hN;clear hN hI hqq hbw hb hs hn
 go_enter Tryz.func238,Tryz.ntmps238
 go_wp2_with (go_at_call 172;refine(Qpq b g bs i qq_22 hl _ HI.out).mono ?_;rintro ee w1 ⟨rfl,hb1⟩;have HI1:=QA (HI.out.kept hb1);have c:=QA (Bw.below (b:=b) (g:=g) hb1 HW.out);clear hb1)
 go_loopw [5,16] (fun v5 a wr=>∃(vo:Value) (j:Nat) (iv:Int),vo=v5∧j≤n∧a=.int .i64 iv∧Aside0 (iv=(j:Int))∧Aside0 (RU wr w.heap.size vo (Qrj bs i j))∧Aside0 (IsCur wr b g bs ((i+8*j:Nat):Int))∧Aside0 (Bw b g w wr))
  (fun _ a _=>n-(intOf a).toNat)
 case atStart=>exact⟨_,0,0,rfl,Nat.zero_le _,rfl,⟨rfl⟩,⟨Kd.R_nil _ _ _ _ _⟩,⟨by simpa using HI1.out⟩,c⟩
 case round =>
  obtain⟨vo,j,iv,rfl,hj,rfl,HJ,HR,HIr,HBr⟩:=hrel;clear HI1 c HI;have hbr:b≤wr.heap.size:=Nat.le_trans HW.out HBr.out.size;obtain⟨Ao,co,hvo⟩:=Kd.R_slice HR.out;subst hvo
  by_cases hlt:j<n
  ·have hlt2:iv<N:=by have:=HJ.out;have:=HNN.out;omega
   have hge:0≤iv:=by have:=HJ.out;omega
   have hwi:IntKind.i64.wrap (iv+1)=iv+1:=IntWalk.i64_in _ (by have:=HNN.out;omega);obtain⟨x,hx⟩:∃x,x=CodecP.leI ((bs.drop (i+8*j)).take 8):=⟨_,rfl⟩;have HX:=QA hx;clear hx
   go_wp2_with (first
    |(go_at_call 230;refine(Qrf b g bs ((i+8*j:Nat):Int) x (by rw[Int.toNat_natCast];exact HX.out) HB.out (Int.natCast_nonneg _) hl qq_22 hbg _ hbr HIr.out).mono ?_;rintro ee w2 ⟨rfl,hI2,hB2⟩;have d:=QA (RU.cur HR.out HIr.out hB2);have HI2:=QA hI2;have h:=QA (HBr.out.trans hB2);clear hI2 hB2)
    |(at_builtin;refine Kd.R_append (Kd.int .u64) (w0:=w2) w.heap.size rfl (.tmp 18) (.tmp 21) 56 32 (.int .u64 0) 8 rfl Tryz.underlying56 Qie rfl (by decide) (by omega) (.slice Ao (Qrj bs i j).length co) (Qrj bs i j) x [.int .u64 x] (fun _=>True) (fun _=>False) rfl ?ax ?aP (fun _ hk=>hk.elim) ?aF ?aO ?aB ?aS ?aL ?_;(case ax=>rfl);(case aP=>rfl);(case aF=>exact fun _ _=>trivial);(case aO=>exact d.out);(case aB=>exact Below.refl _ _);(case aS=>exact h.out.size);(case aL=>rw[Qrl];have:=HN.out;omega);intro v1 w3 l hb3 m hat3;have o:=QA l;have HI3:=QA (HI2.out.grown d.out ⟨by decide,by decide⟩ m);have p:=QA (h.out.then hb3 HW.out);clear l hb3 m hat3))
   go_roundw
   case rel=>exact⟨_,j+1,iv+1,rfl,hlt,rfl,⟨by have:=HJ.out;omega⟩,⟨by rw[Qrk,← HX.out];exact o.out⟩,⟨by rw[show((i+8*(j+1):Nat):Int)=((i+8*j:Nat):Int)+8 by omega];exact HI3.out⟩,p⟩
   case measure=>have:=HJ.out;simp[intOf];omega
  ·obtain rfl:j=n:=by omega
   have e1:iv=N:=HJ.out.trans HNN.out.symm;subst e1;have hC:=(Kd.R_reads' HR.out).2;have HC:=QA hC;clear hC
   cases s with
   | true =>
    go_wp2_with (go_at_call 274;refine(Qcc.calls k Ao co (Qrj bs i j) true _ HC.out.2 HC.out.1 HS.out).mono ?_;rintro ee w4 ⟨rfl,hd⟩)
    go_ret
    have hb4:=hd.below;exact⟨HIr.out.kept hb4,HBr.out.trans (Bw.below hb4 hbr),_,rfl,Kd.R_below HR.out hb4⟩
   | false =>
    go_wp2_with (first
     |(go_at_call 274;refine(Qcc.calls k Ao co (Qrj bs i j) false _ HC.out.2 HC.out.1 HS.out).mono ?_;rintro ee w4 ⟨rfl,hd⟩;have hb4:=hd.below;have HI4:=QA (HIr.out.kept hb4);have r:=QA (HBr.out.trans (Bw.below hb4 hbr));clear hb4)
     |(go_at_call 220;refine(Qls b g bs _ 8 (by decide) _ HI4.out).mono ?_;rintro ee w5 ⟨rfl,rfl⟩))
    exact⟨rfl,HI4.out,r.out,rfl⟩
theorem RE.cur{W W':World}{b g b':Nat}{v:Value}{xs:List Ent}{bs:List Int}{i:Int}(h:RE W b' v xs)(hI:IsCur W b g bs i)(hT:Bw b g W W'):RE W' b' v xs:=by
 obtain⟨u,hu,_⟩:=hI;refine Kd.R_mono (Kd.R_step (Kd.R_bound h) (fun k hk _=>?_)) (fun _ _=>trivial);obtain⟨q,hq,cells,hc⟩:=hk.2.2.2;have ht:∀q,q∈177 :: (k177).E→q=177:=by decide
 obtain rfl:=ht q hq;rw[hc];exact hT.2 k cells _ hc (by decide) (Qdi hc hu (by decide))
theorem RE.cap(w:World)(N:Nat)(cs:Array Value)(hs:cs.size=N*2)(hm:N≤maxLen):RE (w.alloc (.cells cs 177)) w.heap.size (.slice (some ⟨w.heap.size,0,none⟩) 0 N) []:=by
 refine⟨fun _ _=>trivial,[],⟨rfl,.inr ⟨w.heap.size,N,cs,rfl,Nat.le_refl _,?_,Nat.zero_le _,hm,hs,by simp⟩⟩,Reps.none _ _⟩;exact Qdt w _
def Qro(bs:List Int)(i:Nat)(n:Nat):List Ent:=(List.range n).map (fun j=>(⟨CodecP.leI ((bs.drop (i+12*j)).take 8),CodecP.leI ((bs.drop (i+12*j+8)).take 4)⟩:Ent))
theorem Qrp(bs:List Int)(i n:Nat):Qro bs i (n+1)=Qro bs i n++[(⟨CodecP.leI ((bs.drop (i+12*n)).take 8),CodecP.leI ((bs.drop (i+12*n+8)).take 4)⟩:Ent)]:=by simp[Qro,List.range_succ]
theorem Qrq(bs:List Int)(i n:Nat):(Qro bs i n).length=n:=by simp[Qro]
theorem Qrr(b g:Nat)(bs:List Int)(i n:Int)(hi:0≤i∧i≤bs.length)(hl:bs.length≤140737488355328)(hn:0≤n)(hs:((bs.length:Int)-i)/12<n)(w:World)(hbw:b≤w.heap.size)(hI:IsCur w b g bs i) :
  Calls Tryz.prog 237 #[.pointer (some ⟨g,0,none⟩),.int .i64 n] w (Qpl b g bs i 2 w):=by
 have HI:=QA hI;have hm:(if 0<n then n else 0)=n:=by split<;>omega
 have hq:((bs.length:Int)-i).tdiv 12=((bs.length:Int)-i)/12:=Int.tdiv_eq_ediv_of_nonneg (by omega);obtain⟨q,hqq⟩:∃q,q=((bs.length:Int)-i)/12:=⟨_,rfl⟩;rw[← hqq]at hq hs;have hb1:decide (q<n)=true:=decide_eq_true hs;have hw:IntKind.i64.wrap q=q:=IntWalk.i64_in _ (by omega);clear hI hqq
 go_enter Tryz.func237,Tryz.ntmps237
 go_wp2_with (first
  |(go_at_call 172;refine(Qpq b g bs i hi hl _ HI.out).mono ?_;rintro ee w1 ⟨rfl,hb1⟩;have HI1:=QA (HI.out.kept hb1))
  |(go_at_call 220;refine(Qls b g bs i 2 (by decide) _ HI1.out).mono ?_;rintro ee w2 ⟨rfl,rfl⟩))
 all_goals exact⟨rfl,rfl,HI1.out,Bw.below hb1 hbw⟩
theorem Qrs(k b g:Nat)(bs:List Int)(i n:Nat)(N:Int)(hN:N=(n:Int))(s:Bool)(hb:CodecP.Bytes bs)(hl:bs.length≤100000000000)(hn:i+12*n≤bs.length)(hs:Qcf.f k (Qro bs i n)=some s)(hbg:b≤g)(w:World)(hbw:b≤w.heap.size)(hI:IsCur w b g bs i) :
  Calls Tryz.prog 237 #[.pointer (some ⟨g,0,none⟩),.int .i64 N] w fun e w'=>IsCur w' b g bs ((i+12*n:Nat):Int)∧Bw b g w w'∧((s=true∧∃v,e=.returned v∧RE w' w.heap.size v (Qro bs i n))∨(s=false∧e=.panicked [Qlq g 8])):=by
 have HI:=QA hI;have HW:=QA hbw;have HB:=QA hb;have HS:=QA hs;have HN:=QA hn;have hm:(if 0<N then N else 0)=N:=by split<;>omega
 obtain⟨q,hqq⟩:∃q,q=((bs.length:Int)-(i:Int))/12:=⟨_,rfl⟩;have hq:((bs.length:Int)-(i:Int)).tdiv 12=q:=by rw[hqq];exact Int.tdiv_eq_ediv_of_nonneg (by omega)
 have hb1:decide (q<N)=false:=decide_eq_false (by omega);have hmn:(if q<N then q else N)=N:=if_neg (by omega);have hw:IntKind.i64.wrap q=q:=IntWalk.i64_in _ (by omega);have A:(n:Int)≤140737488355328:=by omega
 have hl2:bs.length≤140737488355328:=by omega
 obtain⟨i0,hii,hzz⟩:=Option.map_eq_some_iff.1 Qlz;simp only[Prod.mk.injEq]at hzz;have hrun:=fun W=>run_make (P:=Tryz.prog) W 163 177 i0 (.agg #[.int .u64 0,.int .u32 0]) Tryz.underlying163 hii hzz.1 .i64 .i64 0 N (by omega) (by omega) (by rw[hzz.2.2];omega) (by omega)
 have hNt:N.toNat=n:=by omega
 rw[hzz.2.1,hNt]at hrun;simp only[show(Value.agg #[.int .u64 0,.int .u32 0]).cells=#[.int .u64 0,.int .u32 0] from rfl]at hrun;have HNN:=QA hN;have HL:=QA hl;clear hN hI hqq hbw hb hs hn hzz hii hNt hl
 go_enter Tryz.func237,Tryz.ntmps237
 go_wp2_with (first
  |(go_at_call 172;refine(Qpq b g bs i qq_22 hl2 _ HI1.out).mono ?_;rintro ee w2 ⟨rfl,hb2⟩;have HI2:=QA (HI1.out.kept hb2);have a:=QA (c.out.trans (Qis hb2 c.out.size));clear hb2)
  |(go_at_call 172;refine(Qpq b g bs i qq_22 hl2 _ HI.out).mono ?_;rintro ee w1 ⟨rfl,hb1⟩;have HI1:=QA (HI.out.kept hb1);have c:=QA hb1;clear hb1))
 obtain⟨W0,hW0⟩:∃W0,W0=w2.alloc (.cells (madeCells #[.int .u64 0,.int .u32 0] (n*2)) 177):=⟨_,rfl⟩;have l:=QA (show RE W0 w2.heap.size (.slice (some ⟨w2.heap.size,0,none⟩) 0 n) []by rw[hW0];exact RE.cap w2 n _ (by simp[madeCells]) (by unfold maxLen;omega));have hB0:Below w2.heap.size w2 W0:=by rw[hW0];exact Qci (Below.refl _ _) _
 have HI0:=QA (HI2.out.kept hB0);have m:=QA (a.out.trans (Qis hB0 a.out.size));have HRL:=QA (Kd.R_lower l.out a.out.size)
 first|rw[← hW0]|trace_state
 clear hW0 hrun hB0 HI1 HI2 c a HI l
 go_loopw [5,22] (fun v5 d wr=>∃(vo:Value) (j:Nat) (iv:Int),vo=v5∧j≤n∧d=.int .i64 iv∧Aside0 (iv=(j:Int))∧Aside0 (RE wr w.heap.size vo (Qro bs i j))∧Aside0 (IsCur wr b g bs ((i+12*j:Nat):Int))∧Aside0 (Bw b g w wr))
  (fun _ d _=>n-(intOf d).toNat)
 case atStart=>exact⟨_,0,0,rfl,Nat.zero_le _,rfl,⟨rfl⟩,⟨HRL.out⟩,⟨by simpa using HI0.out⟩,⟨Bw.below m.out HW.out⟩⟩
 case round =>
  obtain⟨vo,j,iv,rfl,hj,rfl,HJ,HR,HIr,HBr⟩:=hrel;clear HI0 m HRL;have hbr:b≤wr.heap.size:=Nat.le_trans HW.out HBr.out.size;obtain⟨Ao,co,hvo⟩:=Kd.R_slice HR.out;subst hvo
  by_cases hlt:j<n
  ·have hlt2:iv<N:=by have:=HJ.out;have:=HNN.out;omega
   have hge:0≤iv:=by have:=HJ.out;omega
   have hwi:IntKind.i64.wrap (iv+1)=iv+1:=IntWalk.i64_in _ (by have:=HNN.out;omega);obtain⟨x,hx⟩:∃x,x=CodecP.leI ((bs.drop (i+12*j)).take 8):=⟨_,rfl⟩;have HX:=QA hx;clear hx;obtain⟨y,hy⟩:∃y,y=CodecP.leI ((bs.drop (i+12*j+8)).take 4):=⟨_,rfl⟩;have HY:=QA hy;clear hy
   go_wp2_with (first
    |(go_at_call 230;refine(Qrf b g bs ((i+12*j:Nat):Int) x (by rw[Int.toNat_natCast];exact HX.out) HB.out (Int.natCast_nonneg _) hl2 qq_22 hbg _ hbr HIr.out).mono ?_;rintro ee w2 ⟨rfl,hI2,hB2⟩;have z:=QA (RE.cur HR.out HIr.out hB2);have HI2:=QA (show IsCur w2 b g bs ((i+12*j+8:Nat):Int)by(rw[show((i+12*j+8:Nat):Int)=((i+12*j:Nat):Int)+8 by omega];exact hI2));have a:=QA (HBr.out.trans hB2);clear hI2 hB2)
    |(go_at_call 221;refine(Qrh b g bs ((i+12*j+8:Nat):Int) y (by rw[Int.toNat_natCast];exact HY.out) HB.out (Int.natCast_nonneg _) hl2 qq_22 hbg _ (Nat.le_trans HW.out a.out.size) HI2.out).mono ?_;rintro ee w3 ⟨rfl,hI3,hB3⟩;have o:=QA (RE.cur z.out HI2.out hB3);have HI3:=QA hI3;have p:=QA (a.out.trans hB3);clear hI3 hB3)
    |(at_builtin;refine Kd.R_append k177 (w0:=w3) w.heap.size rfl (.tmp 24) (.tmp 30) 163 177 (.agg #[.int .u64 0,.int .u32 0]) 16 rfl Tryz.underlying163 Qlz rfl (by decide) (by omega) (.slice Ao (Qro bs i j).length co) (Qro bs i j) (⟨x,y⟩:Ent) [.int .u64 x,.int .u32 y] (fun _=>True) (fun _=>False) rfl ?ax ?aP (fun _ hk=>hk.elim) ?aF ?aO ?aB ?aS ?aL ?_;(case ax=>rfl);(case aP=>exact Qin _ _ _ (⟨x,y⟩:Ent));(case aF=>exact fun _ _=>trivial);(case aO=>exact o.out);(case aB=>exact Below.refl _ _);(case aS=>exact p.out.size);(case aL=>rw[Qrq];have:=HN.out;have:=HL.out;omega);intro v1 w4 r hb4 t hat4;have u:=QA r;have HI4:=QA (HI3.out.grown o.out ⟨by decide,by decide⟩ t);have h:=QA (p.out.then hb4 HW.out);clear r hb4 t hat4))
   go_roundw
   case rel=>exact⟨_,j+1,iv+1,rfl,hlt,rfl,⟨by have:=HJ.out;omega⟩,⟨by rw[Qrp,← HX.out,← HY.out];exact u.out⟩,⟨by rw[show((i+12*(j+1):Nat):Int)=((i+12*j+8:Nat):Int)+4 by omega];exact HI4.out⟩,h⟩
   case measure=>have:=HJ.out;simp[intOf];omega
  ·obtain rfl:j=n:=by omega
   have e1:iv=N:=HJ.out.trans HNN.out.symm;subst e1;have hC:=(Kd.R_reads' HR.out).2;have HC:=QA hC;clear hC
   cases s with
   | true =>
    go_wp2_with (go_at_call 200;refine(Qcf.calls k Ao co (Qro bs i j) true _ HC.out.2 HC.out.1 HS.out).mono ?_;rintro ee w4 ⟨rfl,hb4⟩)
    go_ret
    exact⟨HIr.out.kept hb4,HBr.out.trans (Bw.below hb4 hbr),_,rfl,Kd.R_below HR.out hb4⟩
   | false =>
    go_wp2_with (first
     |(go_at_call 200;refine(Qcf.calls k Ao co (Qro bs i j) false _ HC.out.2 HC.out.1 HS.out).mono ?_;rintro ee w4 ⟨rfl,hb4⟩;have HI4:=QA (HIr.out.kept hb4);have h:=QA (HBr.out.trans (Bw.below hb4 hbr));clear hb4)
     |(go_at_call 220;refine(Qls b g bs _ 8 (by decide) _ HI4.out).mono ?_;rintro ee w5 ⟨rfl,rfl⟩))
    exact⟨rfl,HI4.out,h.out,rfl⟩
end Go.Proofs.YtepkfjmjidjedaaGreat.C
end
