/- Texts of this claim's author and of the print of its functions, merged by merge.py. -/
import Derived.Test.YtnnofopfbeklbaaGreatMH02
import Derived.Test.YtnnofopfbeklbaaGreatMH04
import Derived.Test.YtnnofopfbeklbaaGreatMH05
set_option linter.unusedVariables false
set_option linter.unusedSimpArgs false
set_option maxHeartbeats 8000000
set_option maxRecDepth 100000
section
namespace Go.Proofs.YtnnofopfbeklbaaGreat.C
open Go.RowKit Go.Proofs.YtnnofopfbeklbaaGreatW.PrintWords Go.Proofs.YtnnofopfbeklbaaGreatW.PrintLast Go.Proofs.YtnnofopfbeklbaaGreatW.PrintMore
attribute [local go_sem] Qif Qig Qih Qii Qij Qik Qil Qim
mutual
def Qaz.l0:Nat→Int→Int→Int→ByteArray→Int→Int→Option (ByteArray × Int × Int × Int)
 | 0,_,_,_,_,_,_=>none
 | k+1,x4,x5,x9,x651000,x651001,x651002=>if x9<10 then((Qav.f k x651000 x651001 x651002 1).bind fun bt652=>(if bt652.2.2.1=0 then(if x9=9 then(Qaz.j1 k x4 x5 x9 bt652.2.2.2 x9 (decide (bt652.2.2.2 > 1)) bt652.1 bt652.2.1 bt652.2.2.1)else(Qaz.j1 k x4 x5 x9 bt652.2.2.2 x9 false bt652.1 bt652.2.1 bt652.2.2.1))else(some (bt652.1,bt652.2.1,bt652.2.2.1,0))))else(some (x651000,x651001,x651002,x4))
def Qaz.j1:Nat→Int→Int→Int→Int→Int→Bool→ByteArray→Int→Int→Option (ByteArray × Int × Int × Int)
 | 0,_,_,_,_,_,_,_,_,_=>none
 | k+1,x4,x5,x6,x8,x9,x27,x651000,x651001,x651002=>if x27=true then((Qau.f x651000 x651001 x651002 3).bind fun bt657=>(some (bt657.1,bt657.2.1,bt657.2.2,0)))else(if x8≥128 then(Qaz.l0 k (IntKind.u64.wrap (x4+(IntKind.u64.wrap ((Int.tmod x8 128)*x5)))) (IntKind.u64.wrap (x5*128)) (wrap64 (x9+1)) x651000 x651001 x651002)else(if x8=0 then(if x6 > 0 then((Qau.f x651000 x651001 x651002 4).bind fun bt660=>(some (bt660.1,bt660.2.1,bt660.2.2,0)))else(some (x651000,x651001,x651002,IntKind.u64.wrap (x4+(IntKind.u64.wrap ((Int.tmod x8 128)*x5))))))else(some (x651000,x651001,x651002,IntKind.u64.wrap (x4+(IntKind.u64.wrap ((Int.tmod x8 128)*x5)))))))
end
def Qaz.f(k:Nat)(a0_0:ByteArray)(a0_1:Int)(a0_2:Int):Option (ByteArray × Int × Int × Int):=Qaz.l0 k 0 1 0 a0_0 a0_1 a0_2
theorem Qaz.calls (k:Nat) (a0_0:ByteArray) (a0_1:Int) (a0_2:Int) (r1:ByteArray) (r2:Int) (r3:Int) (r4:Int) (w:World) (h:Qaz.f k a0_0 a0_1 a0_2=some (r1,r2,r3,r4)) :
  Calls Tryz.prog 187 #[.agg #[.string a0_0,.int .i64 a0_1,.int .i64 a0_2]] w fun e w'=>e=.returned (.tuple #[.agg #[.string r1,.int .i64 r2,.int .i64 r3],.int .u64 r4])∧Below w.heap.size w w':=by
 have hu257:=Tryz.underlying257
 have HB:=QA (Below.refl w.heap.size w)
 have H:(Qaz.l0 k 0 1 0 a0_0 a0_1 a0_2)=some (r1,r2,r3,r4):=h
 clear h
 have H':=QA H
 clear H
 go_enter Tryz.func187,Tryz.ntmps187
 go_wp2_with (first |((with_reducible refine Qfs (N:=1) rfl ?_);refine qq_e 1 #[.string a0_0,.int .i64 a0_1,.int .i64 a0_2] 257 ?_;intro gb650 hg w2 hbox hb;have n0_:=QA (Qfh qq_b hb);have n1_:=QA (hbox);have n2_:=QA (qq_s hg:w.heap.size≤gb650);have n3_:=n2_;clear HB;have HB:=n0_;have BK650:=n1_;have GW650:=n2_;have GE650:=n3_;clear n0_ n1_ n2_ n3_;clear hb hbox hg) |((with_reducible refine Qfs (N:=2) rfl ?_);refine qq_e 2 #[.string (⟨#[]⟩:ByteArray),.int .i64 0,.int .i64 0] 257 ?_;intro gb651 hg w3 hbox hb;have n0_:=QA (Qeh (g:=gb650) (o:=.cells #[.string a0_0,.int .i64 a0_1,.int .i64 a0_2] 257 (0,0)) qq_0 hb);have n1_:=QA (Qfh qq_b hb);have n2_:=QA (hbox);have n3_:=QA (qq_s hg:w.heap.size≤gb651);have n4_:=n3_;have n5_:=QA ((by rw[hg];exact Nat.ne_of_lt (Qdr (g:=gb650) (o:=.cells #[.string a0_0,.int .i64 a0_1,.int .i64 a0_2] 257 (0,0)) qq_0):gb650≠gb651));have n6_:=QA ((by rw[hg];exact Nat.ne_of_gt (Qdr (g:=gb650) (o:=.cells #[.string a0_0,.int .i64 a0_1,.int .i64 a0_2] 257 (0,0)) qq_0):gb651≠gb650));clear BK650 HB;have BK650:=n0_;have HB:=n1_;have BK651:=n2_;have GW651:=n3_;have GE651:=n4_;have NB650_651:=n5_;have NB651_650:=n6_;clear n0_ n1_ n2_ n3_ n4_ n5_ n6_;clear hb hbox hg))
 go_loopg [4,5,9] k (fun kq v4 v5 v9 w'=>∃(x4_1:Int) (x5_1:Int) (x9_1:Int) (x651000_1:ByteArray) (x651001_1:Int) (x651002_1:Int) (x652000_1:ByteArray) (x652001_1:Int) (x652002_1:Int),v4=.int .u64 x4_1∧v5=.int .u64 x5_1∧v9=.int .i64 x9_1∧Aside0 (Qaz.l0 kq x4_1 x5_1 x9_1 x651000_1 x651001_1 x651002_1=some (r1,r2,r3,r4))∧Aside0 (kq≤k)∧Aside0 (w'.heap[gb650]? = some (.cells #[.string x651000_1,.int .i64 x651001_1,.int .i64 x651002_1] 257 (0,0)))∧Aside0 (w'.heap[gb651]? = some (.cells #[.string x652000_1,.int .i64 x652001_1,.int .i64 x652002_1] 257 (0,0)))∧Aside0 (Below w.heap.size w w'))
 case atStart=>exact⟨(0),(1),(0),(a0_0),(a0_1),(a0_2),((⟨#[]⟩:ByteArray)),(0),(0),qq_5,qq_5,qq_5,H',⟨Nat.le_refl _⟩,⟨by(with_reducible repeat(first|apply Qeg|apply Qef|apply Qee));exact BK650.out⟩,⟨by(with_reducible repeat(first|apply Qeg|apply Qef|apply Qee));exact BK651.out⟩,⟨qq_b⟩⟩
 case round =>
  clear H'
  obtain⟨x4_1,x5_1,x9_1,x651000_1,x651001_1,x651002_1,x652000_1,x652001_1,x652002_1,rfl,rfl,rfl,HA,HK1,BK650,BK651,HB⟩:=hrel
  cases gk with
  | zero=>exact absurd HA.out (by simp[Qaz.l0])
  | succ k1 =>
   have H:=HA.out
   clear HA
   simp only[Qaz.l0]at H
   by_cases c4:x9_1<10
   ·rw [if_pos c4]at H
    have c4b0:decide (x9_1<10)=true:=decide_eq_true c4
    clear c4
    replace H:=Option.bind_eq_some_iff.mp H
    obtain⟨⟨t652,t653,t654,t655⟩,A50,H⟩:=H
    replace H:(if t654=0 then(if x9_1=9 then(Qaz.j1 k1 x4_1 x5_1 x9_1 t655 x9_1 (decide (t655 > 1)) t652 t653 t654)else(Qaz.j1 k1 x4_1 x5_1 x9_1 t655 x9_1 false t652 t653 t654))else(some (t652,t653,t654,0)))=some (r1,r2,r3,r4):=H
    have A5:=QA A50
    clear A50
    by_cases c6:t654=0
    ·rw [if_pos c6]at H
     have c6b0:(t654 == 0)=true:=beq_iff_eq.mpr c6
     have c6b1:(t654 != 0)=false:=bne_eq_false_iff_eq.mpr c6
     clear c6
     have HC7:=QA H
     clear H
     have hnb8:=NB650_651.out
     have hnc8:=NB651_650.out
     have hcz9_0:=qq_c (.string x651000_1) BK650.out 0 rfl
     have hcz9_1:=qq_c (.int .i64 x651001_1) BK650.out 1 rfl
     have hcz9_2:=qq_c (.int .i64 x651002_1) BK650.out 2 rfl
     have hfz9_0:=Qdt BK650.out 0
     have hfz9_1:=Qdt BK650.out 1
     have hfz9_2:=Qdt BK650.out 2
     go_upto_region 10 with(first |((with_reducible refine Qin (f:=221) rfl ?_);refine Qgp (some 14) rfl rfl Tryz.func221 qq_6 rfl #[.agg #[.string x651000_1,.int .i64 x651001_1,.int .i64 x651002_1],.int .i64 1] rfl qq_1 ?_;(with_reducible refine(Qav.calls k1 x651000_1 x651001_1 x651002_1 1 t652 t653 t654 t655 _ A5.out).mono ?_);rintro e w10 ⟨rfl,hb⟩;refine⟨_,rfl,?_⟩;have n0_:=QA (Qeh (g:=gb650) (o:=.cells #[.string x651000_1,.int .i64 x651001_1,.int .i64 x651002_1] 257 (0,0)) qq_0 hb);have n1_:=QA (Qeh (g:=gb651) (o:=.cells #[.string x652000_1,.int .i64 x652001_1,.int .i64 x652002_1] 257 (0,0)) qq_0 hb);have n2_:=QA (Qfh qq_b hb);clear BK650 BK651 HB;have BK650:=n0_;have BK651:=n1_;have HB:=n2_;clear n0_ n1_ n2_;(try clear hb);(try clear hb2);(try clear hk);(try clear hi)) |((with_reducible refine Qfs (N:=7) rfl ?_);refine qq_e 7 #[.string (⟨#[]⟩:ByteArray),.int .i64 0,.int .i64 0] 257 ?_;intro gb656 hg w11 hbox hb;have n0_:=QA (Qeh (g:=gb650) (o:=.cells #[.string x651000_1,.int .i64 x651001_1,.int .i64 x651002_1] 257 (0,0)) qq_0 hb);have n1_:=QA (Qeh (g:=gb651) (o:=.cells #[.string x652000_1,.int .i64 x652001_1,.int .i64 x652002_1] 257 (0,0)) qq_0 hb);have n2_:=QA (Qfh qq_b hb);have n3_:=QA (hbox);have n4_:=QA (qq_s hg:w.heap.size≤gb656);have n5_:=n4_;have n6_:=QA ((by rw[hg];exact Nat.ne_of_lt (Qdr (g:=gb650) (o:=.cells #[.string x651000_1,.int .i64 x651001_1,.int .i64 x651002_1] 257 (0,0)) qq_0):gb650≠gb656));have n7_:=QA ((by rw[hg];exact Nat.ne_of_gt (Qdr (g:=gb650) (o:=.cells #[.string x651000_1,.int .i64 x651001_1,.int .i64 x651002_1] 257 (0,0)) qq_0):gb656≠gb650));have n8_:=QA ((by rw[hg];exact Nat.ne_of_lt (Qdr (g:=gb651) (o:=.cells #[.string x652000_1,.int .i64 x652001_1,.int .i64 x652002_1] 257 (0,0)) qq_0):gb651≠gb656));have n9_:=QA ((by rw[hg];exact Nat.ne_of_gt (Qdr (g:=gb651) (o:=.cells #[.string x652000_1,.int .i64 x652001_1,.int .i64 x652002_1] 257 (0,0)) qq_0):gb656≠gb651));clear BK650 BK651 HB;have BK650:=n0_;have BK651:=n1_;have HB:=n2_;have BK656:=n3_;have GW656:=n4_;have GE656:=n5_;have NB650_656:=n6_;have NB656_650:=n7_;have NB651_656:=n8_;have NB656_651:=n9_;clear n0_ n1_ n2_ n3_ n4_ n5_ n6_ n7_ n8_ n9_ hb hbox hg;have hnb12:=NB656_650.out;have hnc12:=NB650_656.out;have hnb13:=NB656_651.out;have hnc13:=NB651_656.out;have hcz14_0:=qq_c (.string (⟨#[]⟩:ByteArray)) BK656.out 0 rfl;have hcz14_1:=qq_c (.int .i64 0) BK656.out 1 rfl;have hcz14_2:=qq_c (.int .i64 0) BK656.out 2 rfl;have hfz14_0:=Qdt BK656.out 0;have hfz14_1:=Qdt BK656.out 1;have hfz14_2:=Qdt BK656.out 2;have hcz15_0:=qq_c (.string x651000_1) BK650.out 0 rfl;have hcz15_1:=qq_c (.int .i64 x651001_1) BK650.out 1 rfl;have hcz15_2:=qq_c (.int .i64 x651002_1) BK650.out 2 rfl;have hfz15_0:=Qdt BK650.out 0;have hfz15_1:=Qdt BK650.out 1;have hfz15_2:=Qdt BK650.out 2))
     (try simp only[Act.put,List.setIfInBounds_toArray,List.set_cons_zero,List.set_cons_succ])
     go_cut [27] (fun v27 wc=>∃(kq:Nat) (x27_6:Bool),v27=.bool x27_6∧Aside0 (Qaz.j1 kq x4_1 x5_1 x9_1 t655 x9_1 x27_6 t652 t653 t654=some (r1,r2,r3,r4))∧Aside0 (kq≤k1)∧Aside0 (wc.heap[gb650]? = some (.cells #[.string t652,.int .i64 t653,.int .i64 t654] 257 (0,0)))∧Aside0 (wc.heap[gb651]? = some (.cells #[.string x652000_1,.int .i64 x652001_1,.int .i64 x652002_1] 257 (0,0)))∧Aside0 (wc.heap[gb656]? = some (.cells #[.string t652,.int .i64 t653,.int .i64 t654] 257 (0,0)))∧Aside0 (Below w.heap.size w wc))
     case first =>
      have H:=HC7.out
      clear HC7
      by_cases c16:x9_1=9
      ·rw[if_pos c16]at H
       have c16b0:(x9_1 == 9)=true:=beq_iff_eq.mpr c16
       have c16b1:(x9_1 != 9)=false:=bne_eq_false_iff_eq.mpr c16
       clear c16
       (first|rw[c16b0] |(simp only[Qgr,Qgs];rw[c16b0])|skip)
       have H':=QA H
       clear H
       go_wp2
       go_meet
       case rel=>exact⟨_,(decide (t655 > 1)),qq_5,H',⟨by have:=HK1.out;first|omega|exact Nat.le_refl _⟩,⟨by(with_reducible repeat(first|apply Qeg|apply Qef|apply Qee));refine Qfn (cs:=#[.string t652,.int .i64 t653,.int .i64 x651002_1]) ?_ 2 _ rfl;(with_reducible repeat(first|apply Qeg|apply Qef|apply Qee));refine Qfn (cs:=#[.string t652,.int .i64 x651001_1,.int .i64 x651002_1]) ?_ 1 _ rfl;(with_reducible repeat(first|apply Qeg|apply Qef|apply Qee));refine Qfn (cs:=#[.string x651000_1,.int .i64 x651001_1,.int .i64 x651002_1]) ?_ 0 _ rfl;(with_reducible repeat(first|apply Qeg|apply Qef|apply Qee));refine Qdq ?_ NB650_656.out _;(with_reducible repeat(first|apply Qeg|apply Qef|apply Qee));refine Qdq ?_ NB650_656.out _;(with_reducible repeat(first|apply Qeg|apply Qef|apply Qee));refine Qdq ?_ NB650_656.out _;(with_reducible repeat(first|apply Qeg|apply Qef|apply Qee));exact BK650.out⟩,⟨by(with_reducible repeat(first|apply Qeg|apply Qef|apply Qee));refine Qdq ?_ NB651_650.out _;(with_reducible repeat(first|apply Qeg|apply Qef|apply Qee));refine Qdq ?_ NB651_650.out _;(with_reducible repeat(first|apply Qeg|apply Qef|apply Qee));refine Qdq ?_ NB651_650.out _;(with_reducible repeat(first|apply Qeg|apply Qef|apply Qee));refine Qdq ?_ NB651_656.out _;(with_reducible repeat(first|apply Qeg|apply Qef|apply Qee));refine Qdq ?_ NB651_656.out _;(with_reducible repeat(first|apply Qeg|apply Qef|apply Qee));refine Qdq ?_ NB651_656.out _;(with_reducible repeat(first|apply Qeg|apply Qef|apply Qee));exact BK651.out⟩,⟨by(with_reducible repeat(first|apply Qeg|apply Qef|apply Qee));refine Qdq ?_ NB656_650.out _;(with_reducible repeat(first|apply Qeg|apply Qef|apply Qee));refine Qdq ?_ NB656_650.out _;(with_reducible repeat(first|apply Qeg|apply Qef|apply Qee));refine Qdq ?_ NB656_650.out _;(with_reducible repeat(first|apply Qeg|apply Qef|apply Qee));refine Qfn (cs:=#[.string t652,.int .i64 t653,.int .i64 0]) ?_ 2 _ rfl;(with_reducible repeat(first|apply Qeg|apply Qef|apply Qee));refine Qfn (cs:=#[.string t652,.int .i64 0,.int .i64 0]) ?_ 1 _ rfl;(with_reducible repeat(first|apply Qeg|apply Qef|apply Qee));refine Qfn (cs:=#[.string (⟨#[]⟩:ByteArray),.int .i64 0,.int .i64 0]) ?_ 0 _ rfl;(with_reducible repeat(first|apply Qeg|apply Qef|apply Qee));exact BK656.out⟩,⟨qq_b⟩⟩
      ·rw[if_neg c16]at H
       have c16b0:(x9_1 == 9)=false:=beq_eq_false_iff_ne.mpr c16
       have c16b1:(x9_1 != 9)=true:=bne_iff_ne.mpr c16
       (first|rw[c16b0] |(simp only[Qgr,Qgs];rw[c16b0])|skip)
       have H':=QA H
       clear H
       go_wp2
       go_meet
       case rel=>exact⟨_,(false),qq_5,H',⟨by have:=HK1.out;first|omega|exact Nat.le_refl _⟩,⟨by(with_reducible repeat(first|apply Qeg|apply Qef|apply Qee));refine Qfn (cs:=#[.string t652,.int .i64 t653,.int .i64 x651002_1]) ?_ 2 _ rfl;(with_reducible repeat(first|apply Qeg|apply Qef|apply Qee));refine Qfn (cs:=#[.string t652,.int .i64 x651001_1,.int .i64 x651002_1]) ?_ 1 _ rfl;(with_reducible repeat(first|apply Qeg|apply Qef|apply Qee));refine Qfn (cs:=#[.string x651000_1,.int .i64 x651001_1,.int .i64 x651002_1]) ?_ 0 _ rfl;(with_reducible repeat(first|apply Qeg|apply Qef|apply Qee));refine Qdq ?_ NB650_656.out _;(with_reducible repeat(first|apply Qeg|apply Qef|apply Qee));refine Qdq ?_ NB650_656.out _;(with_reducible repeat(first|apply Qeg|apply Qef|apply Qee));refine Qdq ?_ NB650_656.out _;(with_reducible repeat(first|apply Qeg|apply Qef|apply Qee));exact BK650.out⟩,⟨by(with_reducible repeat(first|apply Qeg|apply Qef|apply Qee));refine Qdq ?_ NB651_650.out _;(with_reducible repeat(first|apply Qeg|apply Qef|apply Qee));refine Qdq ?_ NB651_650.out _;(with_reducible repeat(first|apply Qeg|apply Qef|apply Qee));refine Qdq ?_ NB651_650.out _;(with_reducible repeat(first|apply Qeg|apply Qef|apply Qee));refine Qdq ?_ NB651_656.out _;(with_reducible repeat(first|apply Qeg|apply Qef|apply Qee));refine Qdq ?_ NB651_656.out _;(with_reducible repeat(first|apply Qeg|apply Qef|apply Qee));refine Qdq ?_ NB651_656.out _;(with_reducible repeat(first|apply Qeg|apply Qef|apply Qee));exact BK651.out⟩,⟨by(with_reducible repeat(first|apply Qeg|apply Qef|apply Qee));refine Qdq ?_ NB656_650.out _;(with_reducible repeat(first|apply Qeg|apply Qef|apply Qee));refine Qdq ?_ NB656_650.out _;(with_reducible repeat(first|apply Qeg|apply Qef|apply Qee));refine Qdq ?_ NB656_650.out _;(with_reducible repeat(first|apply Qeg|apply Qef|apply Qee));refine Qfn (cs:=#[.string t652,.int .i64 t653,.int .i64 0]) ?_ 2 _ rfl;(with_reducible repeat(first|apply Qeg|apply Qef|apply Qee));refine Qfn (cs:=#[.string t652,.int .i64 0,.int .i64 0]) ?_ 1 _ rfl;(with_reducible repeat(first|apply Qeg|apply Qef|apply Qee));refine Qfn (cs:=#[.string (⟨#[]⟩:ByteArray),.int .i64 0,.int .i64 0]) ?_ 0 _ rfl;(with_reducible repeat(first|apply Qeg|apply Qef|apply Qee));exact BK656.out⟩,⟨qq_b⟩⟩
     case rest =>
      clear HC7
      try clear c4
      try clear c4b0
      try clear c6
      try clear c6b0
      try clear c6b1
      try clear c16
      try clear c16b0
      try clear c16b1
      try clear hcz14_0
      try clear hcz14_1
      try clear hcz14_2
      try clear hcz15_0
      try clear hcz15_1
      try clear hcz15_2
      try clear hcz9_0
      try clear hcz9_1
      try clear hcz9_2
      try clear hfz14_0
      try clear hfz14_1
      try clear hfz14_2
      try clear hfz15_0
      try clear hfz15_1
      try clear hfz15_2
      try clear hfz9_0
      try clear hfz9_1
      try clear hfz9_2
      obtain⟨kq,x27_6,rfl,HA,HJ6,BK650,BK651,BK656,HB⟩:=hcut
      cases kq with
      | zero=>exact absurd HA.out (by simp[Qaz.j1])
      | succ kj6 =>
       have H:=HA.out
       clear HA
       simp only[Qaz.j1]at H
       by_cases c17:x27_6=true
       ·subst c17
        have H1:((Qau.f t652 t653 t654 3).bind fun bt657=>(some (bt657.1,bt657.2.1,bt657.2.2,0)))=some (r1,r2,r3,r4):=by rw[if_pos rfl]at H;exact H
        clear H
        have H:=H1
        clear H1
        replace H:=Option.bind_eq_some_iff.mp H
        obtain⟨⟨t657,t658,t659⟩,A180,H⟩:=H
        replace H:(some (t657,t658,t659,0))=some (r1,r2,r3,r4):=H
        have A18:=QA A180
        clear A180
        simp only[Option.some.injEq,Prod.mk.injEq]at H
        obtain⟨rfl,rfl,rfl,rfl⟩:=H
        have hnb19:=NB650_651.out
        have hnc19:=NB651_650.out
        have hnb20:=NB650_656.out
        have hnc20:=NB656_650.out
        have hcz21_0:=qq_c (.string t652) BK650.out 0 rfl
        have hcz21_1:=qq_c (.int .i64 t653) BK650.out 1 rfl
        have hcz21_2:=qq_c (.int .i64 t654) BK650.out 2 rfl
        have hfz21_0:=Qdt BK650.out 0
        have hfz21_1:=Qdt BK650.out 1
        have hfz21_2:=Qdt BK650.out 2
        go_wp2_with (first |((with_reducible refine Qin (f:=222) rfl ?_);refine Qgp (some 29) rfl rfl Tryz.func222 qq_6 rfl #[.agg #[.string t652,.int .i64 t653,.int .i64 t654],.int .i64 3] rfl qq_1 ?_;(with_reducible refine(Qau.calls t652 t653 t654 3 t657 t658 t659 _ A18.out).mono ?_);rintro e w22 ⟨rfl,hb⟩;refine⟨_,rfl,?_⟩;have n0_:=QA (Qeh (g:=gb650) (o:=.cells #[.string t652,.int .i64 t653,.int .i64 t654] 257 (0,0)) qq_0 hb);have n1_:=QA (Qeh (g:=gb651) (o:=.cells #[.string x652000_1,.int .i64 x652001_1,.int .i64 x652002_1] 257 (0,0)) qq_0 hb);have n2_:=QA (Qeh (g:=gb656) (o:=.cells #[.string t652,.int .i64 t653,.int .i64 t654] 257 (0,0)) qq_0 hb);have n3_:=QA (Qfh qq_b hb);clear BK650 BK651 BK656 HB;have BK650:=n0_;have BK651:=n1_;have BK656:=n2_;have HB:=n3_;clear n0_ n1_ n2_ n3_;(try clear hb);(try clear hb2);(try clear hk);(try clear hi);have hnb23:=NB651_656.out;have hnc23:=NB656_651.out;have hcz24_0:=qq_c (.string x652000_1) BK651.out 0 rfl;have hcz24_1:=qq_c (.int .i64 x652001_1) BK651.out 1 rfl;have hcz24_2:=qq_c (.int .i64 x652002_1) BK651.out 2 rfl;have hfz24_0:=Qdt BK651.out 0;have hfz24_1:=Qdt BK651.out 1;have hfz24_2:=Qdt BK651.out 2))
        refine bodyPost_ret (Qej rfl _ _ gb651 257 #[.string t657,.int .i64 t658,.int .i64 t659] (0,0) _ rfl (by(with_reducible repeat(first|apply Qeg|apply Qef|apply Qee));refine Qfn (cs:=#[.string t657,.int .i64 t658,.int .i64 x652002_1]) ?_ 2 _ rfl;(with_reducible repeat(first|apply Qeg|apply Qef|apply Qee));refine Qfn (cs:=#[.string t657,.int .i64 x652001_1,.int .i64 x652002_1]) ?_ 1 _ rfl;(with_reducible repeat(first|apply Qeg|apply Qef|apply Qee));refine Qfn (cs:=#[.string x652000_1,.int .i64 x652001_1,.int .i64 x652002_1]) ?_ 0 _ rfl;(with_reducible repeat(first|apply Qeg|apply Qef|apply Qee));exact BK651.out) Tryz.underlying257 rfl qq_6) rfl ?_
        exact⟨by first|rfl |(simp[Qis,Qit]<;>rfl) |(simp[*,Qis,Qit]<;>rfl),qq_b⟩
       ·replace c17:=Bool.eq_false_iff.mpr c17
        subst c17
        have H1:(if t655≥128 then(Qaz.l0 kj6 (IntKind.u64.wrap (x4_1+(IntKind.u64.wrap ((Int.tmod t655 128)*x5_1)))) (IntKind.u64.wrap (x5_1*128)) (wrap64 (x9_1+1)) t652 t653 t654)else(if t655=0 then(if x9_1 > 0 then((Qau.f t652 t653 t654 4).bind fun bt660=>(some (bt660.1,bt660.2.1,bt660.2.2,0)))else(some (t652,t653,t654,IntKind.u64.wrap (x4_1+(IntKind.u64.wrap ((Int.tmod t655 128)*x5_1))))))else(some (t652,t653,t654,IntKind.u64.wrap (x4_1+(IntKind.u64.wrap ((Int.tmod t655 128)*x5_1)))))))=some (r1,r2,r3,r4):=by rw[if_neg (show ¬(false=true)by decide)]at H;exact H
        clear H
        have H:=H1
        clear H1
        by_cases c25:t655≥128
        ·rw[if_pos c25]at H
         have c25b0:decide (128≤t655)=true:=decide_eq_true c25
         clear c25
         have H':=QA H
         clear H
         go_wp2
         go_roundg kj6
         case measure=>have:=HK1.out;have:=HJ6.out;omega
         case rel=>exact⟨(IntKind.u64.wrap (x4_1+(IntKind.u64.wrap ((Int.tmod t655 128)*x5_1)))),(IntKind.u64.wrap (x5_1*128)),(wrap64 (x9_1+1)),(t652),(t653),(t654),(x652000_1),(x652001_1),(x652002_1),qq_5,qq_5,qq_5,H',⟨by have:=HK1.out;have:=HJ6.out;omega⟩,⟨by(with_reducible repeat(first|apply Qeg|apply Qef|apply Qee));exact BK650.out⟩,⟨by(with_reducible repeat(first|apply Qeg|apply Qef|apply Qee));exact BK651.out⟩,⟨qq_b⟩⟩
        ·rw[if_neg c25]at H
         have c25b0:decide (128≤t655)=false:=decide_eq_false c25
         clear c25
         by_cases c26:t655=0
         ·rw[if_pos c26]at H
          have c26b0:(t655 == 0)=true:=beq_iff_eq.mpr c26
          have c26b1:(t655 != 0)=false:=bne_eq_false_iff_eq.mpr c26
          clear c26
          by_cases c27:x9_1 > 0
          ·rw[if_pos c27]at H
           have c27b0:decide (0<x9_1)=true:=decide_eq_true c27
           clear c27
           replace H:=Option.bind_eq_some_iff.mp H
           obtain⟨⟨t660,t661,t662⟩,A280,H⟩:=H
           replace H:(some (t660,t661,t662,0))=some (r1,r2,r3,r4):=H
           have A28:=QA A280
           clear A280
           simp only[Option.some.injEq,Prod.mk.injEq]at H
           obtain⟨rfl,rfl,rfl,rfl⟩:=H
           have hnb29:=NB650_651.out
           have hnc29:=NB651_650.out
           have hnb30:=NB650_656.out
           have hnc30:=NB656_650.out
           have hcz31_0:=qq_c (.string t652) BK650.out 0 rfl
           have hcz31_1:=qq_c (.int .i64 t653) BK650.out 1 rfl
           have hcz31_2:=qq_c (.int .i64 t654) BK650.out 2 rfl
           have hfz31_0:=Qdt BK650.out 0
           have hfz31_1:=Qdt BK650.out 1
           have hfz31_2:=Qdt BK650.out 2
           go_wp2_with (first |((with_reducible refine Qin (f:=222) rfl ?_);refine Qgp (some 47) rfl rfl Tryz.func222 qq_6 rfl #[.agg #[.string t652,.int .i64 t653,.int .i64 t654],.int .i64 4] rfl qq_1 ?_;(with_reducible refine(Qau.calls t652 t653 t654 4 t660 t661 t662 _ A28.out).mono ?_);rintro e w32 ⟨rfl,hb⟩;refine⟨_,rfl,?_⟩;have n0_:=QA (Qeh (g:=gb650) (o:=.cells #[.string t652,.int .i64 t653,.int .i64 t654] 257 (0,0)) qq_0 hb);have n1_:=QA (Qeh (g:=gb651) (o:=.cells #[.string x652000_1,.int .i64 x652001_1,.int .i64 x652002_1] 257 (0,0)) qq_0 hb);have n2_:=QA (Qeh (g:=gb656) (o:=.cells #[.string t652,.int .i64 t653,.int .i64 t654] 257 (0,0)) qq_0 hb);have n3_:=QA (Qfh qq_b hb);clear BK650 BK651 BK656 HB;have BK650:=n0_;have BK651:=n1_;have BK656:=n2_;have HB:=n3_;clear n0_ n1_ n2_ n3_;(try clear hb);(try clear hb2);(try clear hk);(try clear hi);have hnb33:=NB651_656.out;have hnc33:=NB656_651.out;have hcz34_0:=qq_c (.string x652000_1) BK651.out 0 rfl;have hcz34_1:=qq_c (.int .i64 x652001_1) BK651.out 1 rfl;have hcz34_2:=qq_c (.int .i64 x652002_1) BK651.out 2 rfl;have hfz34_0:=Qdt BK651.out 0;have hfz34_1:=Qdt BK651.out 1;have hfz34_2:=Qdt BK651.out 2))
           refine bodyPost_ret (Qej rfl _ _ gb651 257 #[.string t660,.int .i64 t661,.int .i64 t662] (0,0) _ rfl (by(with_reducible repeat(first|apply Qeg|apply Qef|apply Qee));refine Qfn (cs:=#[.string t660,.int .i64 t661,.int .i64 x652002_1]) ?_ 2 _ rfl;(with_reducible repeat(first|apply Qeg|apply Qef|apply Qee));refine Qfn (cs:=#[.string t660,.int .i64 x652001_1,.int .i64 x652002_1]) ?_ 1 _ rfl;(with_reducible repeat(first|apply Qeg|apply Qef|apply Qee));refine Qfn (cs:=#[.string x652000_1,.int .i64 x652001_1,.int .i64 x652002_1]) ?_ 0 _ rfl;(with_reducible repeat(first|apply Qeg|apply Qef|apply Qee));exact BK651.out) Tryz.underlying257 rfl qq_6) rfl ?_
           exact⟨by first|rfl |(simp[Qis,Qit]<;>rfl) |(simp[*,Qis,Qit]<;>rfl),qq_b⟩
          ·rw[if_neg c27]at H
           have c27b0:decide (0<x9_1)=false:=decide_eq_false c27
           clear c27
           simp only[Option.some.injEq,Prod.mk.injEq]at H
           obtain⟨rfl,rfl,rfl,rfl⟩:=H
           have hnb35:=NB650_651.out
           have hnc35:=NB651_650.out
           have hnb36:=NB650_656.out
           have hnc36:=NB656_650.out
           have hcz37_0:=qq_c (.string t652) BK650.out 0 rfl
           have hcz37_1:=qq_c (.int .i64 t653) BK650.out 1 rfl
           have hcz37_2:=qq_c (.int .i64 t654) BK650.out 2 rfl
           have hfz37_0:=Qdt BK650.out 0
           have hfz37_1:=Qdt BK650.out 1
           have hfz37_2:=Qdt BK650.out 2
           have hnb38:=NB651_656.out
           have hnc38:=NB656_651.out
           have hcz39_0:=qq_c (.string x652000_1) BK651.out 0 rfl
           have hcz39_1:=qq_c (.int .i64 x652001_1) BK651.out 1 rfl
           have hcz39_2:=qq_c (.int .i64 x652002_1) BK651.out 2 rfl
           have hfz39_0:=Qdt BK651.out 0
           have hfz39_1:=Qdt BK651.out 1
           have hfz39_2:=Qdt BK651.out 2
           go_wp2
           refine bodyPost_ret (Qej rfl _ _ gb651 257 #[.string t652,.int .i64 t653,.int .i64 t654] (0,0) _ rfl (by(with_reducible repeat(first|apply Qeg|apply Qef|apply Qee));refine Qfn (cs:=#[.string t652,.int .i64 t653,.int .i64 x652002_1]) ?_ 2 _ rfl;(with_reducible repeat(first|apply Qeg|apply Qef|apply Qee));refine Qfn (cs:=#[.string t652,.int .i64 x652001_1,.int .i64 x652002_1]) ?_ 1 _ rfl;(with_reducible repeat(first|apply Qeg|apply Qef|apply Qee));refine Qfn (cs:=#[.string x652000_1,.int .i64 x652001_1,.int .i64 x652002_1]) ?_ 0 _ rfl;(with_reducible repeat(first|apply Qeg|apply Qef|apply Qee));exact BK651.out) Tryz.underlying257 rfl qq_6) rfl ?_
           exact⟨by first|rfl |(simp[Qis,Qit]<;>rfl) |(simp[*,Qis,Qit]<;>rfl),qq_b⟩
         ·rw[if_neg c26]at H
          have c26b0:(t655 == 0)=false:=beq_eq_false_iff_ne.mpr c26
          have c26b1:(t655 != 0)=true:=bne_iff_ne.mpr c26
          simp only[Option.some.injEq,Prod.mk.injEq]at H
          obtain⟨rfl,rfl,rfl,rfl⟩:=H
          have hnb40:=NB650_651.out
          have hnc40:=NB651_650.out
          have hnb41:=NB650_656.out
          have hnc41:=NB656_650.out
          have hcz42_0:=qq_c (.string t652) BK650.out 0 rfl
          have hcz42_1:=qq_c (.int .i64 t653) BK650.out 1 rfl
          have hcz42_2:=qq_c (.int .i64 t654) BK650.out 2 rfl
          have hfz42_0:=Qdt BK650.out 0
          have hfz42_1:=Qdt BK650.out 1
          have hfz42_2:=Qdt BK650.out 2
          have hnb43:=NB651_656.out
          have hnc43:=NB656_651.out
          have hcz44_0:=qq_c (.string x652000_1) BK651.out 0 rfl
          have hcz44_1:=qq_c (.int .i64 x652001_1) BK651.out 1 rfl
          have hcz44_2:=qq_c (.int .i64 x652002_1) BK651.out 2 rfl
          have hfz44_0:=Qdt BK651.out 0
          have hfz44_1:=Qdt BK651.out 1
          have hfz44_2:=Qdt BK651.out 2
          go_wp2
          refine bodyPost_ret (Qej rfl _ _ gb651 257 #[.string t652,.int .i64 t653,.int .i64 t654] (0,0) _ rfl (by(with_reducible repeat(first|apply Qeg|apply Qef|apply Qee));refine Qfn (cs:=#[.string t652,.int .i64 t653,.int .i64 x652002_1]) ?_ 2 _ rfl;(with_reducible repeat(first|apply Qeg|apply Qef|apply Qee));refine Qfn (cs:=#[.string t652,.int .i64 x652001_1,.int .i64 x652002_1]) ?_ 1 _ rfl;(with_reducible repeat(first|apply Qeg|apply Qef|apply Qee));refine Qfn (cs:=#[.string x652000_1,.int .i64 x652001_1,.int .i64 x652002_1]) ?_ 0 _ rfl;(with_reducible repeat(first|apply Qeg|apply Qef|apply Qee));exact BK651.out) Tryz.underlying257 rfl qq_6) rfl ?_
          exact⟨by first|rfl |(simp[Qis,Qit]<;>rfl) |(simp[*,Qis,Qit]<;>rfl),qq_b⟩
    ·rw[if_neg c6]at H
     have c6b0:(t654 == 0)=false:=beq_eq_false_iff_ne.mpr c6
     have c6b1:(t654 != 0)=true:=bne_iff_ne.mpr c6
     simp only[Option.some.injEq,Prod.mk.injEq]at H
     obtain⟨rfl,rfl,rfl,rfl⟩:=H
     have hnb45:=NB650_651.out
     have hnc45:=NB651_650.out
     have hcz46_0:=qq_c (.string x651000_1) BK650.out 0 rfl
     have hcz46_1:=qq_c (.int .i64 x651001_1) BK650.out 1 rfl
     have hcz46_2:=qq_c (.int .i64 x651002_1) BK650.out 2 rfl
     have hfz46_0:=Qdt BK650.out 0
     have hfz46_1:=Qdt BK650.out 1
     have hfz46_2:=Qdt BK650.out 2
     go_wp2_with (first |((with_reducible refine Qin (f:=221) rfl ?_);refine Qgp (some 14) rfl rfl Tryz.func221 qq_6 rfl #[.agg #[.string x651000_1,.int .i64 x651001_1,.int .i64 x651002_1],.int .i64 1] rfl qq_1 ?_;(with_reducible refine(Qav.calls k1 x651000_1 x651001_1 x651002_1 1 t652 t653 t654 t655 _ A5.out).mono ?_);rintro e w47 ⟨rfl,hb⟩;refine⟨_,rfl,?_⟩;have n0_:=QA (Qeh (g:=gb650) (o:=.cells #[.string x651000_1,.int .i64 x651001_1,.int .i64 x651002_1] 257 (0,0)) qq_0 hb);have n1_:=QA (Qeh (g:=gb651) (o:=.cells #[.string x652000_1,.int .i64 x652001_1,.int .i64 x652002_1] 257 (0,0)) qq_0 hb);have n2_:=QA (Qfh qq_b hb);clear BK650 BK651 HB;have BK650:=n0_;have BK651:=n1_;have HB:=n2_;clear n0_ n1_ n2_;(try clear hb);(try clear hb2);(try clear hk);(try clear hi)) |((with_reducible refine Qfs (N:=7) rfl ?_);refine qq_e 7 #[.string (⟨#[]⟩:ByteArray),.int .i64 0,.int .i64 0] 257 ?_;intro gb656 hg w48 hbox hb;have n0_:=QA (Qeh (g:=gb650) (o:=.cells #[.string x651000_1,.int .i64 x651001_1,.int .i64 x651002_1] 257 (0,0)) qq_0 hb);have n1_:=QA (Qeh (g:=gb651) (o:=.cells #[.string x652000_1,.int .i64 x652001_1,.int .i64 x652002_1] 257 (0,0)) qq_0 hb);have n2_:=QA (Qfh qq_b hb);have n3_:=QA (hbox);have n4_:=QA (qq_s hg:w.heap.size≤gb656);have n5_:=n4_;have n6_:=QA ((by rw[hg];exact Nat.ne_of_lt (Qdr (g:=gb650) (o:=.cells #[.string x651000_1,.int .i64 x651001_1,.int .i64 x651002_1] 257 (0,0)) qq_0):gb650≠gb656));have n7_:=QA ((by rw[hg];exact Nat.ne_of_gt (Qdr (g:=gb650) (o:=.cells #[.string x651000_1,.int .i64 x651001_1,.int .i64 x651002_1] 257 (0,0)) qq_0):gb656≠gb650));have n8_:=QA ((by rw[hg];exact Nat.ne_of_lt (Qdr (g:=gb651) (o:=.cells #[.string x652000_1,.int .i64 x652001_1,.int .i64 x652002_1] 257 (0,0)) qq_0):gb651≠gb656));have n9_:=QA ((by rw[hg];exact Nat.ne_of_gt (Qdr (g:=gb651) (o:=.cells #[.string x652000_1,.int .i64 x652001_1,.int .i64 x652002_1] 257 (0,0)) qq_0):gb656≠gb651));clear BK650 BK651 HB;have BK650:=n0_;have BK651:=n1_;have HB:=n2_;have BK656:=n3_;have GW656:=n4_;have GE656:=n5_;have NB650_656:=n6_;have NB656_650:=n7_;have NB651_656:=n8_;have NB656_651:=n9_;clear n0_ n1_ n2_ n3_ n4_ n5_ n6_ n7_ n8_ n9_ hb hbox hg;have hnb49:=NB656_650.out;have hnc49:=NB650_656.out;have hnb50:=NB656_651.out;have hnc50:=NB651_656.out;have hcz51_0:=qq_c (.string (⟨#[]⟩:ByteArray)) BK656.out 0 rfl;have hcz51_1:=qq_c (.int .i64 0) BK656.out 1 rfl;have hcz51_2:=qq_c (.int .i64 0) BK656.out 2 rfl;have hfz51_0:=Qdt BK656.out 0;have hfz51_1:=Qdt BK656.out 1;have hfz51_2:=Qdt BK656.out 2;have hcz52_0:=qq_c (.string x651000_1) BK650.out 0 rfl;have hcz52_1:=qq_c (.int .i64 x651001_1) BK650.out 1 rfl;have hcz52_2:=qq_c (.int .i64 x651002_1) BK650.out 2 rfl;have hfz52_0:=Qdt BK650.out 0;have hfz52_1:=Qdt BK650.out 1;have hfz52_2:=Qdt BK650.out 2;have hcz53_0:=qq_c (.string x652000_1) BK651.out 0 rfl;have hcz53_1:=qq_c (.int .i64 x652001_1) BK651.out 1 rfl;have hcz53_2:=qq_c (.int .i64 x652002_1) BK651.out 2 rfl;have hfz53_0:=Qdt BK651.out 0;have hfz53_1:=Qdt BK651.out 1;have hfz53_2:=Qdt BK651.out 2))
     refine bodyPost_ret (Qej rfl _ _ gb651 257 #[.string t652,.int .i64 t653,.int .i64 t654] (0,0) _ rfl (by(with_reducible repeat(first|apply Qeg|apply Qef|apply Qee));refine Qfn (cs:=#[.string t652,.int .i64 t653,.int .i64 x652002_1]) ?_ 2 _ rfl;(with_reducible repeat(first|apply Qeg|apply Qef|apply Qee));refine Qfn (cs:=#[.string t652,.int .i64 x652001_1,.int .i64 x652002_1]) ?_ 1 _ rfl;(with_reducible repeat(first|apply Qeg|apply Qef|apply Qee));refine Qfn (cs:=#[.string x652000_1,.int .i64 x652001_1,.int .i64 x652002_1]) ?_ 0 _ rfl;(with_reducible repeat(first|apply Qeg|apply Qef|apply Qee));refine Qdq ?_ NB651_650.out _;(with_reducible repeat(first|apply Qeg|apply Qef|apply Qee));refine Qdq ?_ NB651_650.out _;(with_reducible repeat(first|apply Qeg|apply Qef|apply Qee));refine Qdq ?_ NB651_650.out _;(with_reducible repeat(first|apply Qeg|apply Qef|apply Qee));refine Qdq ?_ NB651_656.out _;(with_reducible repeat(first|apply Qeg|apply Qef|apply Qee));refine Qdq ?_ NB651_656.out _;(with_reducible repeat(first|apply Qeg|apply Qef|apply Qee));refine Qdq ?_ NB651_656.out _;(with_reducible repeat(first|apply Qeg|apply Qef|apply Qee));exact BK651.out) Tryz.underlying257 rfl qq_6) rfl ?_
     exact⟨by first|rfl |(simp[Qis,Qit]<;>rfl) |(simp[*,Qis,Qit]<;>rfl),qq_b⟩
   ·rw[if_neg c4]at H
    have c4b0:decide (x9_1<10)=false:=decide_eq_false c4
    clear c4
    simp only[Option.some.injEq,Prod.mk.injEq]at H
    obtain⟨rfl,rfl,rfl,rfl⟩:=H
    have hnb54:=NB650_651.out
    have hnc54:=NB651_650.out
    have hcz55_0:=qq_c (.string x651000_1) BK650.out 0 rfl
    have hcz55_1:=qq_c (.int .i64 x651001_1) BK650.out 1 rfl
    have hcz55_2:=qq_c (.int .i64 x651002_1) BK650.out 2 rfl
    have hfz55_0:=Qdt BK650.out 0
    have hfz55_1:=Qdt BK650.out 1
    have hfz55_2:=Qdt BK650.out 2
    have hcz56_0:=qq_c (.string x652000_1) BK651.out 0 rfl
    have hcz56_1:=qq_c (.int .i64 x652001_1) BK651.out 1 rfl
    have hcz56_2:=qq_c (.int .i64 x652002_1) BK651.out 2 rfl
    have hfz56_0:=Qdt BK651.out 0
    have hfz56_1:=Qdt BK651.out 1
    have hfz56_2:=Qdt BK651.out 2
    go_wp2
    refine bodyPost_ret (Qej rfl _ _ gb651 257 #[.string x651000_1,.int .i64 x651001_1,.int .i64 x651002_1] (0,0) _ rfl (by(with_reducible repeat(first|apply Qeg|apply Qef|apply Qee));refine Qfn (cs:=#[.string x651000_1,.int .i64 x651001_1,.int .i64 x652002_1]) ?_ 2 _ rfl;(with_reducible repeat(first|apply Qeg|apply Qef|apply Qee));refine Qfn (cs:=#[.string x651000_1,.int .i64 x652001_1,.int .i64 x652002_1]) ?_ 1 _ rfl;(with_reducible repeat(first|apply Qeg|apply Qef|apply Qee));refine Qfn (cs:=#[.string x652000_1,.int .i64 x652001_1,.int .i64 x652002_1]) ?_ 0 _ rfl;(with_reducible repeat(first|apply Qeg|apply Qef|apply Qee));exact BK651.out) Tryz.underlying257 rfl qq_6) rfl ?_
    exact⟨by first|rfl |(simp[Qis,Qit]<;>rfl) |(simp[*,Qis,Qit]<;>rfl),qq_b⟩
end Go.Proofs.YtnnofopfbeklbaaGreat.C
end
