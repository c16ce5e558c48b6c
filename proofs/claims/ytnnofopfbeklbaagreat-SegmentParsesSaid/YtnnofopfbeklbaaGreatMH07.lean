/- Texts of this claim's author and of the print of its functions, merged by merge.py. -/
import Derived.Test.YtnnofopfbeklbaaGreatMH02
import Derived.Test.YtnnofopfbeklbaaGreatMH04
import Derived.Test.YtnnofopfbeklbaaGreatMH05
import Derived.Test.YtnnofopfbeklbaaGreatMH06
set_option linter.unusedVariables false
set_option linter.unusedSimpArgs false
set_option maxHeartbeats 8000000
set_option maxRecDepth 100000
section
namespace Go.Proofs.YtnnofopfbeklbaaGreat.C
open Go.RowKit Go.Proofs.YtnnofopfbeklbaaGreatW.PrintWords Go.Proofs.YtnnofopfbeklbaaGreatW.PrintLast Go.Proofs.YtnnofopfbeklbaaGreatW.PrintMore
attribute [local go_sem] Qif Qig Qih Qii Qij Qik Qil Qim
mutual
def Qba.j0:Nat→Int→Int→Bool→ByteArray→Int→Int→Option (ByteArray × Int × Int × ByteArray)
 | 0,_,_,_,_,_,_=>none
 | k+1,x1,x8,x23,x664000,x664001,x664002=>if x23=true then((Qau.f x664000 x664001 x664002 3).bind fun bt669=>(Qba.j1 k x1 x8 bt669.1 bt669.2.1 bt669.2.2))else(Qba.j1 k x1 x8 x664000 x664001 x664002)
def Qba.j1:Nat→Int→Int→ByteArray→Int→Int→Option (ByteArray × Int × Int × ByteArray)
 | 0,_,_,_,_,_=>none
 | k+1,x1,x8,x664000,x664001,x664002=>if x664002=0 then(Qba.j2 k x8 (decide (x8<(IntKind.u64.wrap (mx 0 x1)))) x664000 x664001 x664002)else(Qba.j2 k x8 false x664000 x664001 x664002)
def Qba.j2:Nat→Int→Bool→ByteArray→Int→Int→Option (ByteArray × Int × Int × ByteArray)
 | 0,_,_,_,_,_=>none
 | k+1,x8,x35,x664000,x664001,x664002=>if x35=true then((Qau.f x664000 x664001 x664002 4).bind fun bt672=>(if bt672.2.2=0 then((Qax.f k bt672.1 bt672.2.1 bt672.2.2 (wrap64 (x8))).bind fun bt675=>(some (bt675.1,bt675.2.1,bt675.2.2.1,bt675.2.2.2)))else(some (bt672.1,bt672.2.1,bt672.2.2,(⟨#[]⟩:ByteArray)))))else(if x664002=0 then((Qax.f k x664000 x664001 x664002 (wrap64 (x8))).bind fun bt679=>(some (bt679.1,bt679.2.1,bt679.2.2.1,bt679.2.2.2)))else(some (x664000,x664001,x664002,(⟨#[]⟩:ByteArray))))
end
def Qba.f(k:Nat)(a0_0:ByteArray)(a0_1:Int)(a0_2:Int)(a1:Int)(a2:Int):Option (ByteArray × Int × Int × ByteArray):=(Qaz.f k a0_0 a0_1 a0_2).bind fun bt665=>(if bt665.2.2.1=0 then(Qba.j0 k a1 bt665.2.2.2 (decide (bt665.2.2.2 > (IntKind.u64.wrap (mx 0 a2)))) bt665.1 bt665.2.1 bt665.2.2.1)else(Qba.j0 k a1 bt665.2.2.2 false bt665.1 bt665.2.1 bt665.2.2.1))
theorem Qba.calls (k:Nat) (a0_0:ByteArray) (a0_1:Int) (a0_2:Int) (a1:Int) (a2:Int) (r1:ByteArray) (r2:Int) (r3:Int) (r4:ByteArray) (w:World) (h:Qba.f k a0_0 a0_1 a0_2 a1 a2=some (r1,r2,r3,r4)) :
  Calls Tryz.prog 188 #[.agg #[.string a0_0,.int .i64 a0_1,.int .i64 a0_2],.int .i64 a1,.int .i64 a2] w fun e w'=>e=.returned (.tuple #[.agg #[.string r1,.int .i64 r2,.int .i64 r3],.string r4])∧Below w.heap.size w w':=by
 have hu257:=Tryz.underlying257
 have HB:=QA (Below.refl w.heap.size w)
 have H:((Qaz.f k a0_0 a0_1 a0_2).bind fun bt665=>(if bt665.2.2.1=0 then(Qba.j0 k a1 bt665.2.2.2 (decide (bt665.2.2.2 > (IntKind.u64.wrap (mx 0 a2)))) bt665.1 bt665.2.1 bt665.2.2.1)else(Qba.j0 k a1 bt665.2.2.2 false bt665.1 bt665.2.1 bt665.2.2.1)))=some (r1,r2,r3,r4):=h
 clear h
 replace H:=Option.bind_eq_some_iff.mp H
 obtain⟨⟨t665,t666,t667,t668⟩,A40,H⟩:=H
 replace H:(if t667=0 then(Qba.j0 k a1 t668 (decide (t668 > (IntKind.u64.wrap (mx 0 a2)))) t665 t666 t667)else(Qba.j0 k a1 t668 false t665 t666 t667))=some (r1,r2,r3,r4):=H
 have A4:=QA A40
 clear A40
 have HC5:=QA H
 clear H
 go_enter Tryz.func188,Tryz.ntmps188
 go_upto_region 2 with(first |((with_reducible refine Qfs (N:=3) rfl ?_);(try(refine Qie (by rfl) ?_;dsimp only));refine qq_e 3 #[.string a0_0,.int .i64 a0_1,.int .i64 a0_2] 257 ?_;intro gb663 hg w6 hbox hb;have n0_:=QA (Qfh qq_b hb);have n1_:=QA (hbox);have n2_:=QA (qq_s hg:w.heap.size≤gb663);have n3_:=n2_;clear HB;have HB:=n0_;have BK663:=n1_;have GW663:=n2_;have GE663:=n3_;clear n0_ n1_ n2_ n3_;clear hb hbox hg) |((with_reducible refine Qfs (N:=6) rfl ?_);(try(refine Qie (by rfl) ?_;dsimp only));refine qq_e 6 #[.string (⟨#[]⟩:ByteArray),.int .i64 0,.int .i64 0] 257 ?_;intro gb664 hg w7 hbox hb;have n0_:=QA (Qeh (g:=gb663) (o:=.cells #[.string a0_0,.int .i64 a0_1,.int .i64 a0_2] 257 (0,0)) qq_0 hb);have n1_:=QA (Qfh qq_b hb);have n2_:=QA (hbox);have n3_:=QA (qq_s hg:w.heap.size≤gb664);have n4_:=n3_;have n5_:=QA ((by rw[hg];exact Nat.ne_of_lt (Qdr (g:=gb663) (o:=.cells #[.string a0_0,.int .i64 a0_1,.int .i64 a0_2] 257 (0,0)) qq_0):gb663≠gb664));have n6_:=QA ((by rw[hg];exact Nat.ne_of_gt (Qdr (g:=gb663) (o:=.cells #[.string a0_0,.int .i64 a0_1,.int .i64 a0_2] 257 (0,0)) qq_0):gb664≠gb663));clear BK663 HB;have BK663:=n0_;have HB:=n1_;have BK664:=n2_;have GW664:=n3_;have GE664:=n4_;have NB663_664:=n5_;have NB664_663:=n6_;clear n0_ n1_ n2_ n3_ n4_ n5_ n6_ hb hbox hg;have hnb8:=NB663_664.out;have hnc8:=NB664_663.out;have hcz9_0:=qq_c (.string a0_0) BK663.out 0 rfl;have hcz9_1:=qq_c (.int .i64 a0_1) BK663.out 1 rfl;have hcz9_2:=qq_c (.int .i64 a0_2) BK663.out 2 rfl;have hfz9_0:=Qdt BK663.out 0;have hfz9_1:=Qdt BK663.out 1;have hfz9_2:=Qdt BK663.out 2) |((with_reducible refine Qin (f:=187) rfl ?_);refine Qgp (some 11) rfl rfl Tryz.func187 qq_6 rfl #[.agg #[.string a0_0,.int .i64 a0_1,.int .i64 a0_2]] rfl qq_1 ?_;(with_reducible refine(Qaz.calls k a0_0 a0_1 a0_2 t665 t666 t667 t668 _ A4.out).mono ?_);rintro e w10 ⟨rfl,hb⟩;refine⟨_,rfl,?_⟩;have n0_:=QA (Qeh (g:=gb663) (o:=.cells #[.string a0_0,.int .i64 a0_1,.int .i64 a0_2] 257 (0,0)) qq_0 hb);have n1_:=QA (Qeh (g:=gb664) (o:=.cells #[.string (⟨#[]⟩:ByteArray),.int .i64 0,.int .i64 0] 257 (0,0)) qq_0 hb);have n2_:=QA (Qfh qq_b hb);clear BK663 BK664 HB;have BK663:=n0_;have BK664:=n1_;have HB:=n2_;clear n0_ n1_ n2_;(try clear hb);(try clear hb2);(try clear hk);(try clear hi);have hcz11_0:=qq_c (.string a0_0) BK663.out 0 rfl;have hcz11_1:=qq_c (.int .i64 a0_1) BK663.out 1 rfl;have hcz11_2:=qq_c (.int .i64 a0_2) BK663.out 2 rfl;have hfz11_0:=Qdt BK663.out 0;have hfz11_1:=Qdt BK663.out 1;have hfz11_2:=Qdt BK663.out 2))
 (try simp only[Act.put,List.setIfInBounds_toArray,List.set_cons_zero,List.set_cons_succ])
 go_cut [23] (fun v23 wc=>∃(kq:Nat) (x23_4:Bool),v23=.bool x23_4∧Aside0 (Qba.j0 kq a1 t668 x23_4 t665 t666 t667=some (r1,r2,r3,r4))∧Aside0 (kq≤k)∧Aside0 (wc.heap[gb663]? = some (.cells #[.string t665,.int .i64 t666,.int .i64 t667] 257 (0,0)))∧Aside0 (wc.heap[gb664]? = some (.cells #[.string (⟨#[]⟩:ByteArray),.int .i64 0,.int .i64 0] 257 (0,0)))∧Aside0 (Below w.heap.size w wc))
 case first =>
  have H:=HC5.out
  clear HC5
  by_cases c12:t667=0
  ·rw[if_pos c12]at H
   have c12b0:(t667 == 0)=true:=beq_iff_eq.mpr c12
   have c12b1:(t667 != 0)=false:=bne_eq_false_iff_eq.mpr c12
   clear c12
   (first|rw[c12b0] |(simp only[Qgr,Qgs];rw[c12b0])|skip)
   obtain⟨ji13,hji13⟩:∃j_:Int,(mx 0 a2)=j_:=⟨_,rfl⟩
   replace H:(Qba.j0 k a1 t668 (decide (t668 > (IntKind.u64.wrap (ji13)))) t665 t666 t667)=some (r1,r2,r3,r4):=by first |(rw[hji13]at H;exact H) |(simp only[hji13]at H ⊢;exact H)
   (try(have hji13l:0≤ji13:=by(rw[← hji13];unfold mx;(repeat' split)<;>omega)))
   (try(have hji13m:0≤ji13:=by omega))
   have hji13_:(if 0<a2 then a2 else 0)=ji13:=hji13
   have H':=QA H
   clear H
   have hnb14:=NB663_664.out
   have hnc14:=NB664_663.out
   have hcz15_0:=qq_c (.string a0_0) BK663.out 0 rfl
   have hcz15_1:=qq_c (.int .i64 a0_1) BK663.out 1 rfl
   have hcz15_2:=qq_c (.int .i64 a0_2) BK663.out 2 rfl
   have hfz15_0:=Qdt BK663.out 0
   have hfz15_1:=Qdt BK663.out 1
   have hfz15_2:=Qdt BK663.out 2
   go_wp2
   go_meet
   case rel=>exact⟨_,(decide (t668 > (IntKind.u64.wrap (ji13)))),(by first|rfl |(simp;done) |(simp only[← hji13]<;>(first|rfl|simp)) |(simp[*];done)),H',⟨by first|omega|exact Nat.le_refl _⟩,⟨by(with_reducible repeat(first|apply Qeg|apply Qef|apply Qee));refine Qfn (cs:=#[.string t665,.int .i64 t666,.int .i64 a0_2]) ?_ 2 _ rfl;(with_reducible repeat(first|apply Qeg|apply Qef|apply Qee));refine Qfn (cs:=#[.string t665,.int .i64 a0_1,.int .i64 a0_2]) ?_ 1 _ rfl;(with_reducible repeat(first|apply Qeg|apply Qef|apply Qee));refine Qfn (cs:=#[.string a0_0,.int .i64 a0_1,.int .i64 a0_2]) ?_ 0 _ rfl;(with_reducible repeat(first|apply Qeg|apply Qef|apply Qee));exact BK663.out⟩,⟨by(with_reducible repeat(first|apply Qeg|apply Qef|apply Qee));refine Qdq ?_ NB664_663.out _;(with_reducible repeat(first|apply Qeg|apply Qef|apply Qee));refine Qdq ?_ NB664_663.out _;(with_reducible repeat(first|apply Qeg|apply Qef|apply Qee));refine Qdq ?_ NB664_663.out _;(with_reducible repeat(first|apply Qeg|apply Qef|apply Qee));exact BK664.out⟩,⟨qq_b⟩⟩
  ·rw[if_neg c12]at H
   have c12b0:(t667 == 0)=false:=beq_eq_false_iff_ne.mpr c12
   have c12b1:(t667 != 0)=true:=bne_iff_ne.mpr c12
   (first|rw[c12b0] |(simp only[Qgr,Qgs];rw[c12b0])|skip)
   have H':=QA H
   clear H
   have hnb16:=NB663_664.out
   have hnc16:=NB664_663.out
   have hcz17_0:=qq_c (.string a0_0) BK663.out 0 rfl
   have hcz17_1:=qq_c (.int .i64 a0_1) BK663.out 1 rfl
   have hcz17_2:=qq_c (.int .i64 a0_2) BK663.out 2 rfl
   have hfz17_0:=Qdt BK663.out 0
   have hfz17_1:=Qdt BK663.out 1
   have hfz17_2:=Qdt BK663.out 2
   go_wp2
   go_meet
   case rel=>exact⟨_,(false),qq_5,H',⟨by first|omega|exact Nat.le_refl _⟩,⟨by(with_reducible repeat(first|apply Qeg|apply Qef|apply Qee));refine Qfn (cs:=#[.string t665,.int .i64 t666,.int .i64 a0_2]) ?_ 2 _ rfl;(with_reducible repeat(first|apply Qeg|apply Qef|apply Qee));refine Qfn (cs:=#[.string t665,.int .i64 a0_1,.int .i64 a0_2]) ?_ 1 _ rfl;(with_reducible repeat(first|apply Qeg|apply Qef|apply Qee));refine Qfn (cs:=#[.string a0_0,.int .i64 a0_1,.int .i64 a0_2]) ?_ 0 _ rfl;(with_reducible repeat(first|apply Qeg|apply Qef|apply Qee));exact BK663.out⟩,⟨by(with_reducible repeat(first|apply Qeg|apply Qef|apply Qee));refine Qdq ?_ NB664_663.out _;(with_reducible repeat(first|apply Qeg|apply Qef|apply Qee));refine Qdq ?_ NB664_663.out _;(with_reducible repeat(first|apply Qeg|apply Qef|apply Qee));refine Qdq ?_ NB664_663.out _;(with_reducible repeat(first|apply Qeg|apply Qef|apply Qee));exact BK664.out⟩,⟨qq_b⟩⟩
 case rest =>
  clear HC5
  try clear c12
  try clear c12b0
  try clear c12b1
  try clear hcz11_0
  try clear hcz11_1
  try clear hcz11_2
  try clear hcz15_0
  try clear hcz15_1
  try clear hcz15_2
  try clear hcz17_0
  try clear hcz17_1
  try clear hcz17_2
  try clear hcz9_0
  try clear hcz9_1
  try clear hcz9_2
  try clear hfz11_0
  try clear hfz11_1
  try clear hfz11_2
  try clear hfz15_0
  try clear hfz15_1
  try clear hfz15_2
  try clear hfz17_0
  try clear hfz17_1
  try clear hfz17_2
  try clear hfz9_0
  try clear hfz9_1
  try clear hfz9_2
  obtain⟨kq,x23_4,rfl,HA,HJ4,BK663,BK664,HB⟩:=hcut
  cases kq with
  | zero=>exact absurd HA.out (by simp[Qba.j0])
  | succ kj4 =>
   have H:=HA.out
   clear HA
   simp only[Qba.j0]at H
   have HC18:=QA H
   clear H
   go_upto_if 23 with(fail)
   go_cut [] (fun wc=>∃(kq:Nat) (x664000_17:ByteArray) (x664001_17:Int) (x664002_17:Int),Aside0 (Qba.j1 kq a1 t668 x664000_17 x664001_17 x664002_17=some (r1,r2,r3,r4))∧Aside0 (kq≤kj4)∧Aside0 (wc.heap[gb663]? = some (.cells #[.string x664000_17,.int .i64 x664001_17,.int .i64 x664002_17] 257 (0,0)))∧Aside0 (wc.heap[gb664]? = some (.cells #[.string (⟨#[]⟩:ByteArray),.int .i64 0,.int .i64 0] 257 (0,0)))∧Aside0 (Below w.heap.size w wc))
   case first =>
    have H:=HC18.out
    clear HC18
    by_cases c19:x23_4=true
    ·subst c19
     have H1:((Qau.f t665 t666 t667 3).bind fun bt669=>(Qba.j1 kj4 a1 t668 bt669.1 bt669.2.1 bt669.2.2))=some (r1,r2,r3,r4):=by rw[if_pos rfl]at H;exact H
     clear H
     have H:=H1
     clear H1
     replace H:=Option.bind_eq_some_iff.mp H
     obtain⟨⟨t669,t670,t671⟩,A200,H⟩:=H
     replace H:(Qba.j1 kj4 a1 t668 t669 t670 t671)=some (r1,r2,r3,r4):=H
     have A20:=QA A200
     clear A200
     have H':=QA H
     clear H
     have hnb21:=NB663_664.out
     have hnc21:=NB664_663.out
     have hcz22_0:=qq_c (.string t665) BK663.out 0 rfl
     have hcz22_1:=qq_c (.int .i64 t666) BK663.out 1 rfl
     have hcz22_2:=qq_c (.int .i64 t667) BK663.out 2 rfl
     have hfz22_0:=Qdt BK663.out 0
     have hfz22_1:=Qdt BK663.out 1
     have hfz22_2:=Qdt BK663.out 2
     go_wp2_with (first |((with_reducible refine Qin (f:=222) rfl ?_);refine Qgp (some 25) rfl rfl Tryz.func222 qq_6 rfl #[.agg #[.string t665,.int .i64 t666,.int .i64 t667],.int .i64 3] rfl qq_1 ?_;(with_reducible refine(Qau.calls t665 t666 t667 3 t669 t670 t671 _ A20.out).mono ?_);rintro e w23 ⟨rfl,hb⟩;refine⟨_,rfl,?_⟩;have n0_:=QA (Qeh (g:=gb663) (o:=.cells #[.string t665,.int .i64 t666,.int .i64 t667] 257 (0,0)) qq_0 hb);have n1_:=QA (Qeh (g:=gb664) (o:=.cells #[.string (⟨#[]⟩:ByteArray),.int .i64 0,.int .i64 0] 257 (0,0)) qq_0 hb);have n2_:=QA (Qfh qq_b hb);clear BK663 BK664 HB;have BK663:=n0_;have BK664:=n1_;have HB:=n2_;clear n0_ n1_ n2_;(try clear hb);(try clear hb2);(try clear hk);(try clear hi);have hcz24_0:=qq_c (.string t665) BK663.out 0 rfl;have hcz24_1:=qq_c (.int .i64 t666) BK663.out 1 rfl;have hcz24_2:=qq_c (.int .i64 t667) BK663.out 2 rfl;have hfz24_0:=Qdt BK663.out 0;have hfz24_1:=Qdt BK663.out 1;have hfz24_2:=Qdt BK663.out 2))
     go_meet
     case rel=>exact⟨_,(t669),(t670),(t671),H',⟨by have:=HJ4.out;first|omega|exact Nat.le_refl _⟩,⟨by(with_reducible repeat(first|apply Qeg|apply Qef|apply Qee));refine Qfn (cs:=#[.string t669,.int .i64 t670,.int .i64 t667]) ?_ 2 _ rfl;(with_reducible repeat(first|apply Qeg|apply Qef|apply Qee));refine Qfn (cs:=#[.string t669,.int .i64 t666,.int .i64 t667]) ?_ 1 _ rfl;(with_reducible repeat(first|apply Qeg|apply Qef|apply Qee));refine Qfn (cs:=#[.string t665,.int .i64 t666,.int .i64 t667]) ?_ 0 _ rfl;(with_reducible repeat(first|apply Qeg|apply Qef|apply Qee));exact BK663.out⟩,⟨by(with_reducible repeat(first|apply Qeg|apply Qef|apply Qee));refine Qdq ?_ NB664_663.out _;(with_reducible repeat(first|apply Qeg|apply Qef|apply Qee));refine Qdq ?_ NB664_663.out _;(with_reducible repeat(first|apply Qeg|apply Qef|apply Qee));refine Qdq ?_ NB664_663.out _;(with_reducible repeat(first|apply Qeg|apply Qef|apply Qee));exact BK664.out⟩,⟨qq_b⟩⟩
    ·replace c19:=Bool.eq_false_iff.mpr c19
     subst c19
     have H1:(Qba.j1 kj4 a1 t668 t665 t666 t667)=some (r1,r2,r3,r4):=by rw[if_neg (show ¬(false=true)by decide)]at H;exact H
     clear H
     have H:=H1
     clear H1
     have H':=QA H
     clear H
     go_wp2
     go_meet
     case rel=>exact⟨_,(t665),(t666),(t667),H',⟨by have:=HJ4.out;first|omega|exact Nat.le_refl _⟩,⟨by(with_reducible repeat(first|apply Qeg|apply Qef|apply Qee));exact BK663.out⟩,⟨by(with_reducible repeat(first|apply Qeg|apply Qef|apply Qee));exact BK664.out⟩,⟨qq_b⟩⟩
   case rest =>
    clear HC18
    try clear c12
    try clear c12b0
    try clear c12b1
    try clear c19
    try clear hcz11_0
    try clear hcz11_1
    try clear hcz11_2
    try clear hcz15_0
    try clear hcz15_1
    try clear hcz15_2
    try clear hcz17_0
    try clear hcz17_1
    try clear hcz17_2
    try clear hcz22_0
    try clear hcz22_1
    try clear hcz22_2
    try clear hcz24_0
    try clear hcz24_1
    try clear hcz24_2
    try clear hcz9_0
    try clear hcz9_1
    try clear hcz9_2
    try clear hfz11_0
    try clear hfz11_1
    try clear hfz11_2
    try clear hfz15_0
    try clear hfz15_1
    try clear hfz15_2
    try clear hfz17_0
    try clear hfz17_1
    try clear hfz17_2
    try clear hfz22_0
    try clear hfz22_1
    try clear hfz22_2
    try clear hfz24_0
    try clear hfz24_1
    try clear hfz24_2
    try clear hfz9_0
    try clear hfz9_1
    try clear hfz9_2
    obtain⟨kq,x664000_17,x664001_17,x664002_17,HA,HJ17,BK663,BK664,HB⟩:=hcut
    cases kq with
    | zero=>exact absurd HA.out (by simp[Qba.j1])
    | succ kj17 =>
     have H:=HA.out
     clear HA
     simp only[Qba.j1]at H
     have HC25:=QA H
     clear H
     go_upto_region 4 with(fail)
     go_cut [35] (fun v35 wc=>∃(kq:Nat) (x35_24:Bool),v35=.bool x35_24∧Aside0 (Qba.j2 kq t668 x35_24 x664000_17 x664001_17 x664002_17=some (r1,r2,r3,r4))∧Aside0 (kq≤kj17)∧Aside0 (wc.heap[gb663]? = some (.cells #[.string x664000_17,.int .i64 x664001_17,.int .i64 x664002_17] 257 (0,0)))∧Aside0 (wc.heap[gb664]? = some (.cells #[.string (⟨#[]⟩:ByteArray),.int .i64 0,.int .i64 0] 257 (0,0)))∧Aside0 (Below w.heap.size w wc))
     case first =>
      have H:=HC25.out
      clear HC25
      by_cases c26:x664002_17=0
      ·rw[if_pos c26]at H
       have c26b0:(x664002_17 == 0)=true:=beq_iff_eq.mpr c26
       have c26b1:(x664002_17 != 0)=false:=bne_eq_false_iff_eq.mpr c26
       clear c26
       (first|rw[c26b0] |(simp only[Qgr,Qgs];rw[c26b0])|skip)
       obtain⟨ji27,hji27⟩:∃j_:Int,(mx 0 a1)=j_:=⟨_,rfl⟩
       replace H:(Qba.j2 kj17 t668 (decide (t668<(IntKind.u64.wrap (ji27)))) x664000_17 x664001_17 x664002_17)=some (r1,r2,r3,r4):=by first |(rw[hji27]at H;exact H) |(simp only[hji27]at H ⊢;exact H)
       have hji27_:(if 0<a1 then a1 else 0)=ji27:=hji27
       have H':=QA H
       clear H
       have hnb28:=NB663_664.out
       have hnc28:=NB664_663.out
       have hcz29_0:=qq_c (.string x664000_17) BK663.out 0 rfl
       have hcz29_1:=qq_c (.int .i64 x664001_17) BK663.out 1 rfl
       have hcz29_2:=qq_c (.int .i64 x664002_17) BK663.out 2 rfl
       have hfz29_0:=Qdt BK663.out 0
       have hfz29_1:=Qdt BK663.out 1
       have hfz29_2:=Qdt BK663.out 2
       go_wp2
       go_meet
       case rel=>exact⟨_,(decide (t668<(IntKind.u64.wrap (ji27)))),(by first|rfl |(simp;done) |(simp only[← hji27]<;>(first|rfl|simp)) |(simp[*];done)),H',⟨by have:=HJ4.out;have:=HJ17.out;first|omega|exact Nat.le_refl _⟩,⟨by(with_reducible repeat(first|apply Qeg|apply Qef|apply Qee));exact BK663.out⟩,⟨by(with_reducible repeat(first|apply Qeg|apply Qef|apply Qee));exact BK664.out⟩,⟨qq_b⟩⟩
      ·rw[if_neg c26]at H
       have c26b0:(x664002_17 == 0)=false:=beq_eq_false_iff_ne.mpr c26
       have c26b1:(x664002_17 != 0)=true:=bne_iff_ne.mpr c26
       (first|rw[c26b0] |(simp only[Qgr,Qgs];rw[c26b0])|skip)
       have H':=QA H
       clear H
       have hnb30:=NB663_664.out
       have hnc30:=NB664_663.out
       have hcz31_0:=qq_c (.string x664000_17) BK663.out 0 rfl
       have hcz31_1:=qq_c (.int .i64 x664001_17) BK663.out 1 rfl
       have hcz31_2:=qq_c (.int .i64 x664002_17) BK663.out 2 rfl
       have hfz31_0:=Qdt BK663.out 0
       have hfz31_1:=Qdt BK663.out 1
       have hfz31_2:=Qdt BK663.out 2
       go_wp2
       go_meet
       case rel=>exact⟨_,(false),qq_5,H',⟨by have:=HJ4.out;have:=HJ17.out;first|omega|exact Nat.le_refl _⟩,⟨by(with_reducible repeat(first|apply Qeg|apply Qef|apply Qee));exact BK663.out⟩,⟨by(with_reducible repeat(first|apply Qeg|apply Qef|apply Qee));exact BK664.out⟩,⟨qq_b⟩⟩
     case rest =>
      clear HC25
      try clear c12
      try clear c12b0
      try clear c12b1
      try clear c19
      try clear c26
      try clear c26b0
      try clear c26b1
      try clear hcz11_0
      try clear hcz11_1
      try clear hcz11_2
      try clear hcz15_0
      try clear hcz15_1
      try clear hcz15_2
      try clear hcz17_0
      try clear hcz17_1
      try clear hcz17_2
      try clear hcz22_0
      try clear hcz22_1
      try clear hcz22_2
      try clear hcz24_0
      try clear hcz24_1
      try clear hcz24_2
      try clear hcz29_0
      try clear hcz29_1
      try clear hcz29_2
      try clear hcz31_0
      try clear hcz31_1
      try clear hcz31_2
      try clear hcz9_0
      try clear hcz9_1
      try clear hcz9_2
      try clear hfz11_0
      try clear hfz11_1
      try clear hfz11_2
      try clear hfz15_0
      try clear hfz15_1
      try clear hfz15_2
      try clear hfz17_0
      try clear hfz17_1
      try clear hfz17_2
      try clear hfz22_0
      try clear hfz22_1
      try clear hfz22_2
      try clear hfz24_0
      try clear hfz24_1
      try clear hfz24_2
      try clear hfz29_0
      try clear hfz29_1
      try clear hfz29_2
      try clear hfz31_0
      try clear hfz31_1
      try clear hfz31_2
      try clear hfz9_0
      try clear hfz9_1
      try clear hfz9_2
      obtain⟨kq,x35_24,rfl,HA,HJ24,BK663,BK664,HB⟩:=hcut
      cases kq with
      | zero=>exact absurd HA.out (by simp[Qba.j2])
      | succ kj24 =>
       have H:=HA.out
       clear HA
       simp only[Qba.j2]at H
       by_cases c32:x35_24=true
       ·subst c32
        have H1:((Qau.f x664000_17 x664001_17 x664002_17 4).bind fun bt672=>(if bt672.2.2=0 then((Qax.f kj24 bt672.1 bt672.2.1 bt672.2.2 (wrap64 (t668))).bind fun bt675=>(some (bt675.1,bt675.2.1,bt675.2.2.1,bt675.2.2.2)))else(some (bt672.1,bt672.2.1,bt672.2.2,(⟨#[]⟩:ByteArray)))))=some (r1,r2,r3,r4):=by rw[if_pos rfl]at H;exact H
        clear H
        have H:=H1
        clear H1
        replace H:=Option.bind_eq_some_iff.mp H
        obtain⟨⟨t672,t673,t674⟩,A330,H⟩:=H
        replace H:(if t674=0 then((Qax.f kj24 t672 t673 t674 (wrap64 (t668))).bind fun bt675=>(some (bt675.1,bt675.2.1,bt675.2.2.1,bt675.2.2.2)))else(some (t672,t673,t674,(⟨#[]⟩:ByteArray))))=some (r1,r2,r3,r4):=H
        have A33:=QA A330
        clear A330
        by_cases c34:t674=0
        ·rw[if_pos c34]at H
         have c34b0:(t674 == 0)=true:=beq_iff_eq.mpr c34
         have c34b1:(t674 != 0)=false:=bne_eq_false_iff_eq.mpr c34
         clear c34
         replace H:=Option.bind_eq_some_iff.mp H
         obtain⟨⟨t675,t676,t677,t678⟩,A350,H⟩:=H
         replace H:(some (t675,t676,t677,t678))=some (r1,r2,r3,r4):=H
         have A35:=QA A350
         clear A350
         simp only[Option.some.injEq,Prod.mk.injEq]at H
         obtain⟨rfl,rfl,rfl,rfl⟩:=H
         have hnb36:=NB663_664.out
         have hnc36:=NB664_663.out
         have hcz37_0:=qq_c (.string x664000_17) BK663.out 0 rfl
         have hcz37_1:=qq_c (.int .i64 x664001_17) BK663.out 1 rfl
         have hcz37_2:=qq_c (.int .i64 x664002_17) BK663.out 2 rfl
         have hfz37_0:=Qdt BK663.out 0
         have hfz37_1:=Qdt BK663.out 1
         have hfz37_2:=Qdt BK663.out 2
         go_wp2_with (first |((with_reducible refine Qin (f:=222) rfl ?_);refine Qgp (some 37) rfl rfl Tryz.func222 qq_6 rfl #[.agg #[.string x664000_17,.int .i64 x664001_17,.int .i64 x664002_17],.int .i64 4] rfl qq_1 ?_;(with_reducible refine(Qau.calls x664000_17 x664001_17 x664002_17 4 t672 t673 t674 _ A33.out).mono ?_);rintro e w38 ⟨rfl,hb⟩;refine⟨_,rfl,?_⟩;have n0_:=QA (Qeh (g:=gb663) (o:=.cells #[.string x664000_17,.int .i64 x664001_17,.int .i64 x664002_17] 257 (0,0)) qq_0 hb);have n1_:=QA (Qeh (g:=gb664) (o:=.cells #[.string (⟨#[]⟩:ByteArray),.int .i64 0,.int .i64 0] 257 (0,0)) qq_0 hb);have n2_:=QA (Qfh qq_b hb);clear BK663 BK664 HB;have BK663:=n0_;have BK664:=n1_;have HB:=n2_;clear n0_ n1_ n2_;(try clear hb);(try clear hb2);(try clear hk);(try clear hi);have hcz39_0:=qq_c (.string x664000_17) BK663.out 0 rfl;have hcz39_1:=qq_c (.int .i64 x664001_17) BK663.out 1 rfl;have hcz39_2:=qq_c (.int .i64 x664002_17) BK663.out 2 rfl;have hfz39_0:=Qdt BK663.out 0;have hfz39_1:=Qdt BK663.out 1;have hfz39_2:=Qdt BK663.out 2) |((with_reducible refine Qin (f:=223) rfl ?_);refine Qgp (some 45) rfl rfl Tryz.func223 qq_6 rfl #[.agg #[.string t672,.int .i64 t673,.int .i64 t674],.int .i64 (wrap64 (t668))] rfl qq_1 ?_;(with_reducible refine(Qax.calls kj24 t672 t673 t674 (wrap64 (t668)) t675 t676 t677 t678 _ A35.out).mono ?_);rintro e w40 ⟨rfl,hb⟩;refine⟨_,rfl,?_⟩;have n0_:=QA (Qeh (g:=gb663) (o:=.cells #[.string t672,.int .i64 t673,.int .i64 t674] 257 (0,0)) (by(with_reducible repeat(first|apply Qeg|apply Qef|apply Qee));refine Qfn (cs:=#[.string t672,.int .i64 t673,.int .i64 x664002_17]) ?_ 2 _ rfl;(with_reducible repeat(first|apply Qeg|apply Qef|apply Qee));refine Qfn (cs:=#[.string t672,.int .i64 x664001_17,.int .i64 x664002_17]) ?_ 1 _ rfl;(with_reducible repeat(first|apply Qeg|apply Qef|apply Qee));refine Qfn (cs:=#[.string x664000_17,.int .i64 x664001_17,.int .i64 x664002_17]) ?_ 0 _ rfl;(with_reducible repeat(first|apply Qeg|apply Qef|apply Qee));exact BK663.out) hb);have n1_:=QA (Qeh (g:=gb664) (o:=.cells #[.string (⟨#[]⟩:ByteArray),.int .i64 0,.int .i64 0] 257 (0,0)) qq_9 hb);have n2_:=QA (Qfh qq_b hb);clear BK663 BK664 HB;have BK663:=n0_;have BK664:=n1_;have HB:=n2_;clear n0_ n1_ n2_;(try clear hb);(try clear hb2);(try clear hk);(try clear hi);have hcz41_0:=qq_c (.string (⟨#[]⟩:ByteArray)) BK664.out 0 rfl;have hcz41_1:=qq_c (.int .i64 0) BK664.out 1 rfl;have hcz41_2:=qq_c (.int .i64 0) BK664.out 2 rfl;have hfz41_0:=Qdt BK664.out 0;have hfz41_1:=Qdt BK664.out 1;have hfz41_2:=Qdt BK664.out 2))
         refine bodyPost_ret (Qej rfl _ _ gb664 257 #[.string t675,.int .i64 t676,.int .i64 t677] (0,0) _ rfl (by(with_reducible repeat(first|apply Qeg|apply Qef|apply Qee));refine Qfn (cs:=#[.string t675,.int .i64 t676,.int .i64 0]) ?_ 2 _ rfl;(with_reducible repeat(first|apply Qeg|apply Qef|apply Qee));refine Qfn (cs:=#[.string t675,.int .i64 0,.int .i64 0]) ?_ 1 _ rfl;(with_reducible repeat(first|apply Qeg|apply Qef|apply Qee));refine Qfn (cs:=#[.string (⟨#[]⟩:ByteArray),.int .i64 0,.int .i64 0]) ?_ 0 _ rfl;(with_reducible repeat(first|apply Qeg|apply Qef|apply Qee));exact BK664.out) Tryz.underlying257 rfl qq_6) rfl ?_
         exact⟨by first|rfl |(simp[Qis,Qit]<;>rfl) |(simp[*,Qis,Qit]<;>rfl),qq_b⟩
        ·rw[if_neg c34]at H
         have c34b0:(t674 == 0)=false:=beq_eq_false_iff_ne.mpr c34
         have c34b1:(t674 != 0)=true:=bne_iff_ne.mpr c34
         simp only[Option.some.injEq,Prod.mk.injEq]at H
         obtain⟨rfl,rfl,rfl,rfl⟩:=H
         have hnb42:=NB663_664.out
         have hnc42:=NB664_663.out
         have hcz43_0:=qq_c (.string x664000_17) BK663.out 0 rfl
         have hcz43_1:=qq_c (.int .i64 x664001_17) BK663.out 1 rfl
         have hcz43_2:=qq_c (.int .i64 x664002_17) BK663.out 2 rfl
         have hfz43_0:=Qdt BK663.out 0
         have hfz43_1:=Qdt BK663.out 1
         have hfz43_2:=Qdt BK663.out 2
         go_wp2_with (first |((with_reducible refine Qin (f:=222) rfl ?_);refine Qgp (some 37) rfl rfl Tryz.func222 qq_6 rfl #[.agg #[.string x664000_17,.int .i64 x664001_17,.int .i64 x664002_17],.int .i64 4] rfl qq_1 ?_;(with_reducible refine(Qau.calls x664000_17 x664001_17 x664002_17 4 t672 t673 t674 _ A33.out).mono ?_);rintro e w44 ⟨rfl,hb⟩;refine⟨_,rfl,?_⟩;have n0_:=QA (Qeh (g:=gb663) (o:=.cells #[.string x664000_17,.int .i64 x664001_17,.int .i64 x664002_17] 257 (0,0)) qq_0 hb);have n1_:=QA (Qeh (g:=gb664) (o:=.cells #[.string (⟨#[]⟩:ByteArray),.int .i64 0,.int .i64 0] 257 (0,0)) qq_0 hb);have n2_:=QA (Qfh qq_b hb);clear BK663 BK664 HB;have BK663:=n0_;have BK664:=n1_;have HB:=n2_;clear n0_ n1_ n2_;(try clear hb);(try clear hb2);(try clear hk);(try clear hi);have hcz45_0:=qq_c (.string x664000_17) BK663.out 0 rfl;have hcz45_1:=qq_c (.int .i64 x664001_17) BK663.out 1 rfl;have hcz45_2:=qq_c (.int .i64 x664002_17) BK663.out 2 rfl;have hfz45_0:=Qdt BK663.out 0;have hfz45_1:=Qdt BK663.out 1;have hfz45_2:=Qdt BK663.out 2;have hcz46_0:=qq_c (.string (⟨#[]⟩:ByteArray)) BK664.out 0 rfl;have hcz46_1:=qq_c (.int .i64 0) BK664.out 1 rfl;have hcz46_2:=qq_c (.int .i64 0) BK664.out 2 rfl;have hfz46_0:=Qdt BK664.out 0;have hfz46_1:=Qdt BK664.out 1;have hfz46_2:=Qdt BK664.out 2))
         refine bodyPost_ret (Qej rfl _ _ gb664 257 #[.string t672,.int .i64 t673,.int .i64 t674] (0,0) _ rfl (by(with_reducible repeat(first|apply Qeg|apply Qef|apply Qee));refine Qfn (cs:=#[.string t672,.int .i64 t673,.int .i64 0]) ?_ 2 _ rfl;(with_reducible repeat(first|apply Qeg|apply Qef|apply Qee));refine Qfn (cs:=#[.string t672,.int .i64 0,.int .i64 0]) ?_ 1 _ rfl;(with_reducible repeat(first|apply Qeg|apply Qef|apply Qee));refine Qfn (cs:=#[.string (⟨#[]⟩:ByteArray),.int .i64 0,.int .i64 0]) ?_ 0 _ rfl;(with_reducible repeat(first|apply Qeg|apply Qef|apply Qee));refine Qdq ?_ NB664_663.out _;(with_reducible repeat(first|apply Qeg|apply Qef|apply Qee));refine Qdq ?_ NB664_663.out _;(with_reducible repeat(first|apply Qeg|apply Qef|apply Qee));refine Qdq ?_ NB664_663.out _;(with_reducible repeat(first|apply Qeg|apply Qef|apply Qee));exact BK664.out) Tryz.underlying257 rfl qq_6) rfl ?_
         exact⟨by first|rfl |(simp[Qis,Qit]<;>rfl) |(simp[*,Qis,Qit]<;>rfl),qq_b⟩
       ·replace c32:=Bool.eq_false_iff.mpr c32
        subst c32
        have H1:(if x664002_17=0 then((Qax.f kj24 x664000_17 x664001_17 x664002_17 (wrap64 (t668))).bind fun bt679=>(some (bt679.1,bt679.2.1,bt679.2.2.1,bt679.2.2.2)))else(some (x664000_17,x664001_17,x664002_17,(⟨#[]⟩:ByteArray))))=some (r1,r2,r3,r4):=by rw[if_neg (show ¬(false=true)by decide)]at H;exact H
        clear H
        have H:=H1
        clear H1
        by_cases c47:x664002_17=0
        ·rw[if_pos c47]at H
         have c47b0:(x664002_17 == 0)=true:=beq_iff_eq.mpr c47
         have c47b1:(x664002_17 != 0)=false:=bne_eq_false_iff_eq.mpr c47
         clear c47
         replace H:=Option.bind_eq_some_iff.mp H
         obtain⟨⟨t679,t680,t681,t682⟩,A480,H⟩:=H
         replace H:(some (t679,t680,t681,t682))=some (r1,r2,r3,r4):=H
         have A48:=QA A480
         clear A480
         simp only[Option.some.injEq,Prod.mk.injEq]at H
         obtain⟨rfl,rfl,rfl,rfl⟩:=H
         have hnb49:=NB663_664.out
         have hnc49:=NB664_663.out
         have hcz50_0:=qq_c (.string x664000_17) BK663.out 0 rfl
         have hcz50_1:=qq_c (.int .i64 x664001_17) BK663.out 1 rfl
         have hcz50_2:=qq_c (.int .i64 x664002_17) BK663.out 2 rfl
         have hfz50_0:=Qdt BK663.out 0
         have hfz50_1:=Qdt BK663.out 1
         have hfz50_2:=Qdt BK663.out 2
         go_wp2_with (first |((with_reducible refine Qin (f:=223) rfl ?_);refine Qgp (some 45) rfl rfl Tryz.func223 qq_6 rfl #[.agg #[.string x664000_17,.int .i64 x664001_17,.int .i64 x664002_17],.int .i64 (wrap64 (t668))] rfl qq_1 ?_;(with_reducible refine(Qax.calls kj24 x664000_17 x664001_17 x664002_17 (wrap64 (t668)) t679 t680 t681 t682 _ A48.out).mono ?_);rintro e w51 ⟨rfl,hb⟩;refine⟨_,rfl,?_⟩;have n0_:=QA (Qeh (g:=gb663) (o:=.cells #[.string x664000_17,.int .i64 x664001_17,.int .i64 x664002_17] 257 (0,0)) qq_0 hb);have n1_:=QA (Qeh (g:=gb664) (o:=.cells #[.string (⟨#[]⟩:ByteArray),.int .i64 0,.int .i64 0] 257 (0,0)) qq_0 hb);have n2_:=QA (Qfh qq_b hb);clear BK663 BK664 HB;have BK663:=n0_;have BK664:=n1_;have HB:=n2_;clear n0_ n1_ n2_;(try clear hb);(try clear hb2);(try clear hk);(try clear hi);have hcz52_0:=qq_c (.string (⟨#[]⟩:ByteArray)) BK664.out 0 rfl;have hcz52_1:=qq_c (.int .i64 0) BK664.out 1 rfl;have hcz52_2:=qq_c (.int .i64 0) BK664.out 2 rfl;have hfz52_0:=Qdt BK664.out 0;have hfz52_1:=Qdt BK664.out 1;have hfz52_2:=Qdt BK664.out 2))
         refine bodyPost_ret (Qej rfl _ _ gb664 257 #[.string t679,.int .i64 t680,.int .i64 t681] (0,0) _ rfl (by(with_reducible repeat(first|apply Qeg|apply Qef|apply Qee));refine Qfn (cs:=#[.string t679,.int .i64 t680,.int .i64 0]) ?_ 2 _ rfl;(with_reducible repeat(first|apply Qeg|apply Qef|apply Qee));refine Qfn (cs:=#[.string t679,.int .i64 0,.int .i64 0]) ?_ 1 _ rfl;(with_reducible repeat(first|apply Qeg|apply Qef|apply Qee));refine Qfn (cs:=#[.string (⟨#[]⟩:ByteArray),.int .i64 0,.int .i64 0]) ?_ 0 _ rfl;(with_reducible repeat(first|apply Qeg|apply Qef|apply Qee));exact BK664.out) Tryz.underlying257 rfl qq_6) rfl ?_
         exact⟨by first|rfl |(simp[Qis,Qit]<;>rfl) |(simp[*,Qis,Qit]<;>rfl),qq_b⟩
        ·rw[if_neg c47]at H
         have c47b0:(x664002_17 == 0)=false:=beq_eq_false_iff_ne.mpr c47
         have c47b1:(x664002_17 != 0)=true:=bne_iff_ne.mpr c47
         simp only[Option.some.injEq,Prod.mk.injEq]at H
         obtain⟨rfl,rfl,rfl,rfl⟩:=H
         have hnb53:=NB663_664.out
         have hnc53:=NB664_663.out
         have hcz54_0:=qq_c (.string x664000_17) BK663.out 0 rfl
         have hcz54_1:=qq_c (.int .i64 x664001_17) BK663.out 1 rfl
         have hcz54_2:=qq_c (.int .i64 x664002_17) BK663.out 2 rfl
         have hfz54_0:=Qdt BK663.out 0
         have hfz54_1:=Qdt BK663.out 1
         have hfz54_2:=Qdt BK663.out 2
         have hcz55_0:=qq_c (.string (⟨#[]⟩:ByteArray)) BK664.out 0 rfl
         have hcz55_1:=qq_c (.int .i64 0) BK664.out 1 rfl
         have hcz55_2:=qq_c (.int .i64 0) BK664.out 2 rfl
         have hfz55_0:=Qdt BK664.out 0
         have hfz55_1:=Qdt BK664.out 1
         have hfz55_2:=Qdt BK664.out 2
         go_wp2
         refine bodyPost_ret (Qej rfl _ _ gb664 257 #[.string x664000_17,.int .i64 x664001_17,.int .i64 x664002_17] (0,0) _ rfl (by(with_reducible repeat(first|apply Qeg|apply Qef|apply Qee));refine Qfn (cs:=#[.string x664000_17,.int .i64 x664001_17,.int .i64 0]) ?_ 2 _ rfl;(with_reducible repeat(first|apply Qeg|apply Qef|apply Qee));refine Qfn (cs:=#[.string x664000_17,.int .i64 0,.int .i64 0]) ?_ 1 _ rfl;(with_reducible repeat(first|apply Qeg|apply Qef|apply Qee));refine Qfn (cs:=#[.string (⟨#[]⟩:ByteArray),.int .i64 0,.int .i64 0]) ?_ 0 _ rfl;(with_reducible repeat(first|apply Qeg|apply Qef|apply Qee));exact BK664.out) Tryz.underlying257 rfl qq_6) rfl ?_
         exact⟨by first|rfl |(simp[Qis,Qit]<;>rfl) |(simp[*,Qis,Qit]<;>rfl),qq_b⟩
def Qbn.l0:Nat→Int→Int→Int→Option (Int)
 | 0,_,_,_=>none
 | k+1,x3,x5,x6=>if x6<x5 then(Qbn.l0 k (IntKind.u64.wrap (2*x3)) x5 ((x6+1)%256))else(some x3)
def Qbn.f(k:Nat)(a0_0:Int)(a0_1:Int):Option (Int):=Qbn.l0 k 1 a0_0 0
theorem Qbn.calls(k:Nat)(a0_0:Int)(a0_1:Int)(r:Int)(w:World)(h:Qbn.f k a0_0 a0_1=some r) :
  Calls Tryz.prog 63 #[.agg #[.int .u8 a0_0,.int .u32 a0_1]] w fun e w'=>e=.returned (.int .u64 r)∧Below w.heap.size w w':=by
 have hu27:=Tryz.underlying27
 have HB:=QA (Below.refl w.heap.size w)
 have H:(Qbn.l0 k 1 a0_0 0)=some r:=h
 clear h
 have H':=QA H
 clear H
 go_enter Tryz.func63,Tryz.ntmps63
 go_wp2_with (first |((with_reducible refine Qfs (N:=1) rfl ?_);refine qq_e 1 #[.int .u8 a0_0,.int .u32 a0_1] 27 ?_;intro gb326 hg w2 hbox hb;have n0_:=QA (Qfh qq_b hb);have n1_:=QA (hbox);have n2_:=QA (qq_s hg:w.heap.size≤gb326);have n3_:=n2_;clear HB;have HB:=n0_;have BK326:=n1_;have GW326:=n2_;have GE326:=n3_;clear n0_ n1_ n2_ n3_ hb hbox hg;have hcz3_0:=qq_c (.int .u8 a0_0) BK326.out 0 rfl;have hcz3_1:=qq_c (.int .u32 a0_1) BK326.out 1 rfl;have hfz3_0:=Qdt BK326.out 0;have hfz3_1:=Qdt BK326.out 1))
 go_loopg [3,6] k (fun kq v3 v6 w'=>∃(x3_1:Int) (x6_1:Int),v3=.int .u64 x3_1∧v6=.int .u8 x6_1∧Aside0 (Qbn.l0 kq x3_1 a0_0 x6_1=some r)∧Aside0 (kq≤k)∧Aside0 (w'.heap[gb326]? = some (.cells #[.int .u8 a0_0,.int .u32 a0_1] 27 (0,0)))∧Aside0 (Below w.heap.size w w'))
 case atStart=>exact⟨(1),(0),qq_5,qq_5,H',⟨Nat.le_refl _⟩,⟨by(with_reducible repeat(first|apply Qeg|apply Qef|apply Qee));exact BK326.out⟩,⟨qq_b⟩⟩
 case round =>
  clear H'
  try clear hcz3_0
  try clear hcz3_1
  try clear hfz3_0
  try clear hfz3_1
  obtain⟨x3_1,x6_1,rfl,rfl,HA,HK1,BK326,HB⟩:=hrel
  cases gk with
  | zero=>exact absurd HA.out (by simp[Qbn.l0])
  | succ k1 =>
   have H:=HA.out
   clear HA
   simp only[Qbn.l0]at H
   by_cases c4:x6_1<a0_0
   ·rw[if_pos c4]at H
    have c4b0:decide (x6_1<a0_0)=true:=decide_eq_true c4
    clear c4
    have H':=QA H
    clear H
    go_wp2
    go_roundg k1
    case measure=>have:=HK1.out;omega
    case rel=>exact⟨(IntKind.u64.wrap (2*x3_1)),((x6_1+1)%256),qq_5,qq_5,H',⟨by have:=HK1.out;omega⟩,⟨by(with_reducible repeat(first|apply Qeg|apply Qef|apply Qee));exact BK326.out⟩,⟨qq_b⟩⟩
   ·rw[if_neg c4]at H
    have c4b0:decide (x6_1<a0_0)=false:=decide_eq_false c4
    clear c4
    obtain rfl:=Option.some.inj H
    go_wp2
    go_ret
    exact⟨by first|rfl |(simp[Qis,Qit]<;>rfl) |(simp[*,Qis,Qit]<;>rfl),qq_b⟩
end Go.Proofs.YtnnofopfbeklbaaGreat.C
end
