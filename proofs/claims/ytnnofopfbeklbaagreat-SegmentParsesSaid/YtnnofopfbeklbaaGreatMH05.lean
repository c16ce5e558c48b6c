/- Texts of this claim's author and of the print of its functions, merged by merge.py. -/
import Derived.Test.YtnnofopfbeklbaaGreatMH02
set_option linter.unusedVariables false
set_option linter.unusedSimpArgs false
set_option maxHeartbeats 8000000
set_option maxRecDepth 100000
section
namespace Go.Proofs.YtnnofopfbeklbaaGreat.C
open Go.RowKit Go.Proofs.YtnnofopfbeklbaaGreatW.PrintWords Go.Proofs.YtnnofopfbeklbaaGreatW.PrintLast Go.Proofs.YtnnofopfbeklbaaGreatW.PrintMore
attribute [local go_sem] Qif Qig Qih Qii Qij Qik Qil Qim
def Qax.j0:Nat→Int→Bool→ByteArray→Int→Int→Option (ByteArray × Int × Int × ByteArray)
 | 0,_,_,_,_,_=>none
 | k+1,x1,x12,x639000,x639001,x639002=>if x12=true then(some (x639000,x639001,x639002,(⟨#[]⟩:ByteArray)))else(if x1 > (x639000.size:Int)then(some (x639000,x639001,2,(⟨#[]⟩:ByteArray)))else(if 0≤x1 then(if x1≤(x639000.size:Int)then(some (x639000.extract (x1:Int).toNat x639000.size,wrap64 (x639001+x1),0,x639000.extract 0 (x1:Int).toNat))else(none))else(none)))
def Qax.f(k:Nat)(a0_0:ByteArray)(a0_1:Int)(a0_2:Int)(a1:Int):Option (ByteArray × Int × Int × ByteArray):=if a0_2=0 then(Qax.j0 k a1 (decide (a1≤0)) a0_0 a0_1 a0_2)else(Qax.j0 k a1 true a0_0 a0_1 a0_2)
def Qax.T6:Bool × List (List Nat × List Nat):=(true,[([],[]),([0],[0]),([],[]),([1,2],[1,2]),([],[]),([4],[4]),([],[]),([5,6],[5,6]),([3,7],[3,7]),([],[]),([9],[9]),([],[]),([10,11],[10,11]),([8,0,1,2,3,4,5,6,7,8],[8]),([12,13,0,1,2,3,4,5,6,7,8,9,10,11,12,13],[12])])
def Qax.B6:List Nat:=[0,1,0,7,0,16,0,112,255,0,512,0,3584,511,16383]
theorem Qax.tab6:rtab .any (Qhx Tryz.f223 6)=Qax.T6:=by kernel_rfl
theorem Qax.bits6:Qhr Qax.T6.2 Qax.B6=true:=by kernel_rfl
theorem Qax.calls (k:Nat) (a0_0:ByteArray) (a0_1:Int) (a0_2:Int) (a1:Int) (r1:ByteArray) (r2:Int) (r3:Int) (r4:ByteArray) (w:World) (h:Qax.f k a0_0 a0_1 a0_2 a1=some (r1,r2,r3,r4)) :
  Calls Tryz.prog 223 #[.agg #[.string a0_0,.int .i64 a0_1,.int .i64 a0_2],.int .i64 a1] w fun e w'=>e=.returned (.tuple #[.agg #[.string r1,.int .i64 r2,.int .i64 r3],.string r4])∧Below w.heap.size w w':=by
 have hu257:=Tryz.underlying257
 have HB:=QA (Below.refl w.heap.size w)
 have H:(if a0_2=0 then(Qax.j0 k a1 (decide (a1≤0)) a0_0 a0_1 a0_2)else(Qax.j0 k a1 true a0_0 a0_1 a0_2))=some (r1,r2,r3,r4):=h
 clear h
 have HC3:=QA H
 clear H
 go_enter Tryz.func223,Tryz.ntmps223
 go_upto_region 1 with(first |((with_reducible refine Qfs (N:=2) rfl ?_);refine qq_e 2 #[.string a0_0,.int .i64 a0_1,.int .i64 a0_2] 257 ?_;intro gb638 hg w4 hbox hb;have n0_:=QA (Qfh qq_b hb);have n1_:=QA (hbox);have n2_:=QA (qq_s hg:w.heap.size≤gb638);have n3_:=n2_;clear HB;have HB:=n0_;have BK638:=n1_;have GW638:=n2_;have GE638:=n3_;clear n0_ n1_ n2_ n3_;clear hb hbox hg) |((with_reducible refine Qfs (N:=4) rfl ?_);refine qq_e 4 #[.string (⟨#[]⟩:ByteArray),.int .i64 0,.int .i64 0] 257 ?_;intro gb639 hg w5 hbox hb;have n0_:=QA (Qeh (g:=gb638) (o:=.cells #[.string a0_0,.int .i64 a0_1,.int .i64 a0_2] 257 (0,0)) qq_0 hb);have n1_:=QA (Qfh qq_b hb);have n2_:=QA (hbox);have n3_:=QA (qq_s hg:w.heap.size≤gb639);have n4_:=n3_;have n5_:=QA ((by rw[hg];exact Nat.ne_of_lt (Qdr (g:=gb638) (o:=.cells #[.string a0_0,.int .i64 a0_1,.int .i64 a0_2] 257 (0,0)) qq_0):gb638≠gb639));have n6_:=QA ((by rw[hg];exact Nat.ne_of_gt (Qdr (g:=gb638) (o:=.cells #[.string a0_0,.int .i64 a0_1,.int .i64 a0_2] 257 (0,0)) qq_0):gb639≠gb638));clear BK638 HB;have BK638:=n0_;have HB:=n1_;have BK639:=n2_;have GW639:=n3_;have GE639:=n4_;have NB638_639:=n5_;have NB639_638:=n6_;clear n0_ n1_ n2_ n3_ n4_ n5_ n6_;clear hb hbox hg))
 (try simp only[Act.put,List.setIfInBounds_toArray,List.set_cons_zero,List.set_cons_succ])
 go_cut [12] (fun v12 wc=>∃(kq:Nat) (x12_2:Bool),v12=.bool x12_2∧Aside0 (Qax.j0 kq a1 x12_2 a0_0 a0_1 a0_2=some (r1,r2,r3,r4))∧Aside0 (kq≤k)∧Aside0 (wc.heap[gb638]? = some (.cells #[.string a0_0,.int .i64 a0_1,.int .i64 a0_2] 257 (0,0)))∧Aside0 (wc.heap[gb639]? = some (.cells #[.string (⟨#[]⟩:ByteArray),.int .i64 0,.int .i64 0] 257 (0,0)))∧Aside0 (Below w.heap.size w wc))
 case first =>
  have H:=HC3.out
  clear HC3
  by_cases c6:a0_2=0
  ·rw[if_pos c6]at H
   have c6b0:(a0_2 == 0)=true:=beq_iff_eq.mpr c6
   have c6b1:(a0_2 != 0)=false:=bne_eq_false_iff_eq.mpr c6
   clear c6
   (first|rw[c6b0] |(simp only[Qgr,Qgs];rw[c6b0])|skip)
   have H':=QA H
   clear H
   have hnb7:=NB638_639.out
   have hnc7:=NB639_638.out
   have hcz8_0:=qq_c (.string a0_0) BK638.out 0 rfl
   have hcz8_1:=qq_c (.int .i64 a0_1) BK638.out 1 rfl
   have hcz8_2:=qq_c (.int .i64 a0_2) BK638.out 2 rfl
   have hfz8_0:=Qdt BK638.out 0
   have hfz8_1:=Qdt BK638.out 1
   have hfz8_2:=Qdt BK638.out 2
   go_wp2
   go_meet
   case rel=>exact⟨_,(decide (a1≤0)),qq_5,H',⟨by first|omega|exact Nat.le_refl _⟩,⟨by(with_reducible repeat(first|apply Qeg|apply Qef|apply Qee));exact BK638.out⟩,⟨by(with_reducible repeat(first|apply Qeg|apply Qef|apply Qee));exact BK639.out⟩,⟨qq_b⟩⟩
  ·rw[if_neg c6]at H
   have c6b0:(a0_2 == 0)=false:=beq_eq_false_iff_ne.mpr c6
   have c6b1:(a0_2 != 0)=true:=bne_iff_ne.mpr c6
   (first|rw[c6b0] |(simp only[Qgr,Qgs];rw[c6b0])|skip)
   have H':=QA H
   clear H
   have hnb9:=NB638_639.out
   have hnc9:=NB639_638.out
   have hcz10_0:=qq_c (.string a0_0) BK638.out 0 rfl
   have hcz10_1:=qq_c (.int .i64 a0_1) BK638.out 1 rfl
   have hcz10_2:=qq_c (.int .i64 a0_2) BK638.out 2 rfl
   have hfz10_0:=Qdt BK638.out 0
   have hfz10_1:=Qdt BK638.out 1
   have hfz10_2:=Qdt BK638.out 2
   go_wp2
   go_meet
   case rel=>exact⟨_,(true),qq_5,H',⟨by first|omega|exact Nat.le_refl _⟩,⟨by(with_reducible repeat(first|apply Qeg|apply Qef|apply Qee));exact BK638.out⟩,⟨by(with_reducible repeat(first|apply Qeg|apply Qef|apply Qee));exact BK639.out⟩,⟨qq_b⟩⟩
 case rest =>
  clear HC3
  try clear c6
  try clear c6b0
  try clear c6b1
  try clear hcz10_0
  try clear hcz10_1
  try clear hcz10_2
  try clear hcz8_0
  try clear hcz8_1
  try clear hcz8_2
  try clear hfz10_0
  try clear hfz10_1
  try clear hfz10_2
  try clear hfz8_0
  try clear hfz8_1
  try clear hfz8_2
  obtain⟨kq,x12_2,rfl,HA,HJ2,BK638,BK639,HB⟩:=hcut
  cases kq with
  | zero=>exact absurd HA.out (by simp[Qax.j0])
  | succ kj2 =>
   have H:=HA.out
   clear HA
   simp only[Qax.j0]at H
   by_cases c11:x12_2=true
   ·subst c11
    have H1:(some (a0_0,a0_1,a0_2,(⟨#[]⟩:ByteArray)))=some (r1,r2,r3,r4):=by rw[if_pos rfl]at H;exact H
    clear H
    have H:=H1
    clear H1
    simp only[Option.some.injEq,Prod.mk.injEq]at H
    obtain⟨rfl,rfl,rfl,rfl⟩:=H
    have hnb12:=NB638_639.out
    have hnc12:=NB639_638.out
    have hcz13_0:=qq_c (.string a0_0) BK638.out 0 rfl
    have hcz13_1:=qq_c (.int .i64 a0_1) BK638.out 1 rfl
    have hcz13_2:=qq_c (.int .i64 a0_2) BK638.out 2 rfl
    have hfz13_0:=Qdt BK638.out 0
    have hfz13_1:=Qdt BK638.out 1
    have hfz13_2:=Qdt BK638.out 2
    have hcz14_0:=qq_c (.string (⟨#[]⟩:ByteArray)) BK639.out 0 rfl
    have hcz14_1:=qq_c (.int .i64 0) BK639.out 1 rfl
    have hcz14_2:=qq_c (.int .i64 0) BK639.out 2 rfl
    have hfz14_0:=Qdt BK639.out 0
    have hfz14_1:=Qdt BK639.out 1
    have hfz14_2:=Qdt BK639.out 2
    go_wp2
    refine bodyPost_ret (Qej rfl _ _ gb639 257 #[.string a0_0,.int .i64 a0_1,.int .i64 a0_2] (0,0) _ rfl (by(with_reducible repeat(first|apply Qeg|apply Qef|apply Qee));refine Qfn (cs:=#[.string a0_0,.int .i64 a0_1,.int .i64 0]) ?_ 2 _ rfl;(with_reducible repeat(first|apply Qeg|apply Qef|apply Qee));refine Qfn (cs:=#[.string a0_0,.int .i64 0,.int .i64 0]) ?_ 1 _ rfl;(with_reducible repeat(first|apply Qeg|apply Qef|apply Qee));refine Qfn (cs:=#[.string (⟨#[]⟩:ByteArray),.int .i64 0,.int .i64 0]) ?_ 0 _ rfl;(with_reducible repeat(first|apply Qeg|apply Qef|apply Qee));exact BK639.out) Tryz.underlying257 rfl qq_6) rfl ?_
    exact⟨by first|rfl |(simp[Qis,Qit]<;>rfl) |(simp[*,Qis,Qit]<;>rfl),qq_b⟩
   ·replace c11:=Bool.eq_false_iff.mpr c11
    subst c11
    have H1:(if a1 > (a0_0.size:Int)then(some (a0_0,a0_1,2,(⟨#[]⟩:ByteArray)))else(if 0≤a1 then(if a1≤(a0_0.size:Int)then(some (a0_0.extract (a1:Int).toNat a0_0.size,wrap64 (a0_1+a1),0,a0_0.extract 0 (a1:Int).toNat))else(none))else(none)))=some (r1,r2,r3,r4):=by rw[if_neg (show ¬(false=true)by decide)]at H;exact H
    clear H
    have H:=H1
    clear H1
    by_cases c15:a1 > (a0_0.size:Int)
    ·rw[if_pos c15]at H
     have c15b0:decide ((a0_0.size:Int)<a1)=true:=decide_eq_true c15
     clear c15
     simp only[Option.some.injEq,Prod.mk.injEq]at H
     obtain⟨rfl,rfl,rfl,rfl⟩:=H
     have hnb16:=NB638_639.out
     have hnc16:=NB639_638.out
     have hcz17_0:=qq_c (.string a0_0) BK638.out 0 rfl
     have hcz17_1:=qq_c (.int .i64 a0_1) BK638.out 1 rfl
     have hcz17_2:=qq_c (.int .i64 a0_2) BK638.out 2 rfl
     have hfz17_0:=Qdt BK638.out 0
     have hfz17_1:=Qdt BK638.out 1
     have hfz17_2:=Qdt BK638.out 2
     have hcz18_0:=qq_c (.string (⟨#[]⟩:ByteArray)) BK639.out 0 rfl
     have hcz18_1:=qq_c (.int .i64 0) BK639.out 1 rfl
     have hcz18_2:=qq_c (.int .i64 0) BK639.out 2 rfl
     have hfz18_0:=Qdt BK639.out 0
     have hfz18_1:=Qdt BK639.out 1
     have hfz18_2:=Qdt BK639.out 2
     go_wp2
     refine bodyPost_ret (Qej rfl _ _ gb639 257 #[.string a0_0,.int .i64 a0_1,.int .i64 2] (0,0) _ rfl (by(with_reducible repeat(first|apply Qeg|apply Qef|apply Qee));refine Qfn (cs:=#[.string a0_0,.int .i64 a0_1,.int .i64 0]) ?_ 2 _ rfl;(with_reducible repeat(first|apply Qeg|apply Qef|apply Qee));refine Qfn (cs:=#[.string a0_0,.int .i64 0,.int .i64 0]) ?_ 1 _ rfl;(with_reducible repeat(first|apply Qeg|apply Qef|apply Qee));refine Qfn (cs:=#[.string (⟨#[]⟩:ByteArray),.int .i64 0,.int .i64 0]) ?_ 0 _ rfl;(with_reducible repeat(first|apply Qeg|apply Qef|apply Qee));refine Qdq ?_ NB639_638.out _;(with_reducible repeat(first|apply Qeg|apply Qef|apply Qee));exact BK639.out) Tryz.underlying257 rfl qq_6) rfl ?_
     exact⟨by first|rfl |(simp[Qis,Qit]<;>rfl) |(simp[*,Qis,Qit]<;>rfl),qq_b⟩
    ·rw [if_neg c15]at H
     have c15b0:decide ((a0_0.size:Int)<a1)=false:=decide_eq_false c15
     clear c15
     by_cases c19:0≤a1
     ·rw[if_pos c19]at H
      have c19b0:=eq_true c19
      have c19b1:decide (0≤a1)=true:=decide_eq_true c19
      clear c19
      by_cases c20:a1≤(a0_0.size:Int)
      ·rw[if_pos c20]at H
       have c20b0:=eq_true c20
       have c20b1:decide (a1≤(a0_0.size:Int))=true:=decide_eq_true c20
       clear c20
       have c21b0:=eq_true (of_decide_eq_true qq_4:0≤a1)
       have c22b0:=eq_true (of_decide_eq_true qq_4:a1≤(a0_0.size:Int))
       simp only[Option.some.injEq,Prod.mk.injEq]at H
       obtain⟨rfl,rfl,rfl,rfl⟩:=H
       have hnb23:=NB638_639.out
       have hnc23:=NB639_638.out
       have hcz24_0:=qq_c (.string a0_0) BK638.out 0 rfl
       have hcz24_1:=qq_c (.int .i64 a0_1) BK638.out 1 rfl
       have hcz24_2:=qq_c (.int .i64 a0_2) BK638.out 2 rfl
       have hfz24_0:=Qdt BK638.out 0
       have hfz24_1:=Qdt BK638.out 1
       have hfz24_2:=Qdt BK638.out 2
       try go_wp2
       have n0_:=QA (Qef BK638.out)
       have n1_:=QA (Qef BK639.out)
       have n2_:=QA (Qfo HB.out)
       clear BK638 BK639 HB
       have BK638:=n0_
       have BK639:=n1_
       have HB:=n2_
       clear n0_ n1_ n2_
       refine Qge (n:=15) (S:=fun w'=>w'.cell? ⟨gb638,0,none⟩=some (.string a0_0)∧w'.cell? ⟨gb638,1,none⟩=some (.int .i64 a0_1)∧w'.cell? ⟨gb638,2,none⟩=some (.int .i64 a0_2)) (ds:=[]) #[false,false,false,false,false,false,false,false,false,false,false,false,false,false,false] qq_6 rfl rfl ⟨(Qds BK638.out 0).trans rfl,(Qds BK638.out 1).trans rfl,(Qds BK638.out 2).trans rfl⟩ (fun hHeld=>?_);refine Qhv Qax.tab6 Qax.bits6 (fun HT_ HW_=>?_)
       generalize wc.drew=w25 at BK638 BK639 HB hHeld ⊢
       refine Qgh (i:=0) (N:=some 21) (v:=?_) (a':=?_) #[true,false,false,false,false,false,false,false,false,false,false,false,false,false,false] rfl rfl (Qhn HT_.out qq_6) (fun _ _ _ h=>h) (Or.inl ⟨by rfl,?_⟩) ?_ ?_
       rotate_left
       ·intro w'
        go_simp
        with_reducible rfl
       rotate_left
       ·exact qq_2
       refine Qgh (i:=2) (N:=some 23) (v:=?_) (a':=?_) #[true,false,true,false,false,false,false,false,false,false,false,false,false,false,false] rfl rfl (Qhn HT_.out qq_6) (fun _ _ _ h=>h) (Or.inl ⟨by rfl,?_⟩) ?_ ?_
       rotate_left
       ·intro w'
        go_simp
        with_reducible rfl
       rotate_left
       ·exact qq_2
       refine Qgh (i:=4) (N:=some 25) (v:=?_) (a':=?_) #[true,false,true,false,true,false,false,false,false,false,false,false,false,false,false] rfl rfl (Qhn HT_.out qq_6) (fun _ _ _ h=>h) (Or.inl ⟨by rfl,?_⟩) ?_ ?_
       rotate_left
       ·intro w'
        go_simp
        with_reducible rfl
       rotate_left
       ·exact qq_2
       refine Qgh (i:=6) (N:=some 27) (v:=?_) (a':=?_) #[true,false,true,false,true,false,true,false,false,false,false,false,false,false,false] rfl rfl (Qhn HT_.out qq_6) (fun _ _ _ h=>h) (Or.inl ⟨by rfl,?_⟩) ?_ ?_
       rotate_left
       ·intro w'
        go_simp
        with_reducible rfl
       rotate_left
       ·exact qq_2
       refine Qgh (i:=9) (N:=some 30) (v:=?_) (a':=?_) #[true,false,true,false,true,false,true,false,false,true,false,false,false,false,false] rfl rfl (Qhn HT_.out qq_6) (fun _ _ _ h=>h) (Or.inl ⟨by rfl,?_⟩) ?_ ?_
       rotate_left
       ·intro w'
        go_simp
        with_reducible rfl
       rotate_left
       ·exact qq_2
       refine Qgh (i:=11) (N:=some 32) (v:=?_) (a':=?_) #[true,false,true,false,true,false,true,false,false,true,false,true,false,false,false] rfl rfl (Qhn HT_.out qq_6) (fun _ _ _ h=>h) (Or.inl ⟨by rfl,?_⟩) ?_ ?_
       rotate_left
       ·intro w'
        go_simp
        with_reducible rfl
       rotate_left
       ·exact qq_2
       refine Qgg (i:=1) (N:=some 22) (v:=?_) (a':=?_) #[true,true,true,false,true,false,true,false,false,true,false,true,false,false,false] rfl rfl (Qhu HT_.out HW_.out qq_6) (fun _ _ _ h=>h) (Or.inl ⟨by rfl,?_⟩) hHeld ?_ ?_
       rotate_left
       ·rintro w' ⟨s0,s1,s2⟩
        go_simp
        with_reducible rfl
       rotate_left
       ·exact qq_2
       refine Qgh (i:=3) (N:=some 24) (v:=?_) (a':=?_) #[true,true,true,true,true,false,true,false,false,true,false,true,false,false,false] rfl rfl (Qhn HT_.out qq_6) (fun _ _ _ h=>h) (Or.inl ⟨by rfl,?_⟩) ?_ ?_
       rotate_left
       ·intro w'
        go_simp
        with_reducible rfl
       rotate_left
       ·exact qq_2
       refine Qgg (i:=5) (N:=some 26) (v:=?_) (a':=?_) #[true,true,true,true,true,true,true,false,false,true,false,true,false,false,false] rfl rfl (Qhu HT_.out HW_.out qq_6) (fun _ _ _ h=>h) (Or.inl ⟨by rfl,?_⟩) hHeld ?_ ?_
       rotate_left
       ·rintro w' ⟨s0,s1,s2⟩
        go_simp
        with_reducible rfl
       rotate_left
       ·exact qq_2
       refine Qgh (i:=7) (N:=some 28) (v:=?_) (a':=?_) #[true,true,true,true,true,true,true,true,false,true,false,true,false,false,false] rfl rfl (Qhn HT_.out qq_6) (fun _ _ _ h=>h) (Or.inl ⟨by rfl,?_⟩) ?_ ?_
       rotate_left
       ·intro w'
        go_simp
        with_reducible rfl
       rotate_left
       ·exact qq_2
       refine Qgh (i:=8) (N:=some 29) (v:=?_) (a':=?_) #[true,true,true,true,true,true,true,true,true,true,false,true,false,false,false] rfl rfl (Qhn HT_.out qq_6) (fun _ _ _ h=>h) (Or.inl ⟨by rfl,?_⟩) ?_ ?_
       rotate_left
       ·intro w'
        go_simp
        with_reducible rfl
       rotate_left
       ·exact qq_2
       refine Qgg (i:=10) (N:=some 31) (v:=?_) (a':=?_) #[true,true,true,true,true,true,true,true,true,true,true,true,false,false,false] rfl rfl (Qhu HT_.out HW_.out qq_6) (fun _ _ _ h=>h) (Or.inl ⟨by rfl,?_⟩) hHeld ?_ ?_
       rotate_left
       ·rintro w' ⟨s0,s1,s2⟩
        go_simp
        with_reducible rfl
       rotate_left
       ·exact qq_2
       refine Qgh (i:=12) (N:=some 33) (v:=?_) (a':=?_) #[true,true,true,true,true,true,true,true,true,true,true,true,true,false,false] rfl rfl (Qhn HT_.out qq_6) (fun _ _ _ h=>h) (Or.inl ⟨by rfl,?_⟩) ?_ ?_
       rotate_left
       ·intro w'
        go_simp
        with_reducible rfl
       rotate_left
       ·exact qq_2
       refine one_ (i:=13) (N:=none) #[true,true,true,true,true,true,true,true,true,true,true,true,true,true,false] rfl rfl (Qho HT_.out qq_6) (by decide) (fun K hK=>?_)
       have hs26:w25.cell? ⟨gb639,0,none⟩=some (.string (⟨#[]⟩:ByteArray)):=(Qds BK639.out 0).trans rfl
       have hfs26:=Qdt BK639.out 0
       have hns26_0:=NB638_639.out
       have hms26_0:=NB639_638.out
       have hs27:w25.cell? ⟨gb639,1,none⟩=some (.int .i64 0):=(Qds BK639.out 1).trans rfl
       have hfs27:=Qdt BK639.out 1
       have hns27_0:=NB638_639.out
       have hms27_0:=NB639_638.out
       have hs28:w25.cell? ⟨gb639,2,none⟩=some (.int .i64 0):=(Qds BK639.out 2).trans rfl
       have hfs28:=Qdt BK639.out 2
       have hns28_0:=NB638_639.out
       have hms28_0:=NB639_638.out
       refine skip_ (w1:=?_) (by rfl) rfl ?_ ?_
       rotate_left
       ·go_simp
        rfl
       refine hK.out _ _ ⟨((Qfm (p:=⟨gb639,_,none⟩) NB638_639.out _).trans (((Qfm (p:=⟨gb639,_,none⟩) NB638_639.out _).trans (((Qfm (p:=⟨gb639,_,none⟩) NB638_639.out _).trans (hHeld.1)))))),((Qfm (p:=⟨gb639,_,none⟩) NB638_639.out _).trans (((Qfm (p:=⟨gb639,_,none⟩) NB638_639.out _).trans (((Qfm (p:=⟨gb639,_,none⟩) NB638_639.out _).trans (hHeld.2.1)))))),((Qfm (p:=⟨gb639,_,none⟩) NB638_639.out _).trans (((Qfm (p:=⟨gb639,_,none⟩) NB638_639.out _).trans (((Qfm (p:=⟨gb639,_,none⟩) NB638_639.out _).trans (hHeld.2.2))))))⟩ (fun hHeld=>?_)
       clear hK K
       refine Qgh (i:=14) (N:=some 5) (v:=?_) (a':=?_) #[true,true,true,true,true,true,true,true,true,true,true,true,true,true,true] rfl rfl (Qhn HT_.out qq_6) (fun _ _ _ h=>h) (Or.inl ⟨by rfl,?_⟩) ?_ ?_
       rotate_left
       ·intro w'
        go_simp
        with_reducible rfl
       rotate_left
       ·exact qq_2
       refine Qgj (Qhq HT_.out qq_6) ?_
       try go_wp2
       refine bodyPost_ret (Qej rfl _ _ gb639 257 #[.string (a0_0.extract (a1:Int).toNat a0_0.size),.int .i64 (wrap64 (a0_1+a1)),.int .i64 0] (0,0) _ rfl (by(with_reducible repeat(first|apply Qeg|apply Qef|apply Qee));refine Qfn (cs:=#[.string (a0_0.extract (a1:Int).toNat a0_0.size),.int .i64 (wrap64 (a0_1+a1)),.int .i64 0]) ?_ 2 _ rfl;(with_reducible repeat(first|apply Qeg|apply Qef|apply Qee));refine Qfn (cs:=#[.string (a0_0.extract (a1:Int).toNat a0_0.size),.int .i64 0,.int .i64 0]) ?_ 1 _ rfl;(with_reducible repeat(first|apply Qeg|apply Qef|apply Qee));refine Qfn (cs:=#[.string (⟨#[]⟩:ByteArray),.int .i64 0,.int .i64 0]) ?_ 0 _ rfl;(with_reducible repeat(first|apply Qeg|apply Qef|apply Qee));exact BK639.out) Tryz.underlying257 rfl qq_6) rfl ?_
       exact⟨by first|rfl |(simp[Qis,Qit]<;>rfl) |(simp[*,Qis,Qit]<;>rfl),qq_b⟩
      ·rw[if_neg c20]at H
       exact absurd H (by simp)
     ·rw[if_neg c19]at H
      exact absurd H (by simp)
def Qav.f(k:Nat)(a0_0:ByteArray)(a0_1:Int)(a0_2:Int)(a1:Int):Option (ByteArray × Int × Int × Int):=(Qax.f k a0_0 a0_1 a0_2 a1).bind fun bt642=>((Qay.f k bt642.2.2.2).bind fun t647=>(some (bt642.1,bt642.2.1,bt642.2.2.1,t647)))
theorem Qav.calls(k:Nat)(a0_0:ByteArray)(a0_1:Int)(a0_2:Int)(a1:Int)(r1:ByteArray)(r2:Int)(r3:Int)(r4:Int)(w:World)(h:Qav.f k a0_0 a0_1 a0_2 a1=some (r1,r2,r3,r4)) :
  Calls Tryz.prog 221 #[.agg #[.string a0_0,.int .i64 a0_1,.int .i64 a0_2],.int .i64 a1] w fun e w'=>e=.returned (.tuple #[.agg #[.string r1,.int .i64 r2,.int .i64 r3],.int .u64 r4])∧Below w.heap.size w w':=by
 have hu257:=Tryz.underlying257
 have HB:=QA (Below.refl w.heap.size w)
 have H:((Qax.f k a0_0 a0_1 a0_2 a1).bind fun bt642=>((Qay.f k bt642.2.2.2).bind fun t647=>(some (bt642.1,bt642.2.1,bt642.2.2.1,t647))))=some (r1,r2,r3,r4):=h
 clear h
 replace H:=Option.bind_eq_some_iff.mp H
 obtain⟨⟨t642,t643,t644,t645⟩,A30,H⟩:=H
 replace H:((Qay.f k t645).bind fun t647=>(some (t642,t643,t644,t647)))=some (r1,r2,r3,r4):=H
 have A3:=QA A30
 clear A30
 replace H:=Option.bind_eq_some_iff.mp H
 obtain⟨t647,A40,H⟩:=H
 replace H:(some (t642,t643,t644,t647))=some (r1,r2,r3,r4):=H
 have A4:=QA A40
 clear A40
 simp only[Option.some.injEq,Prod.mk.injEq]at H
 obtain⟨rfl,rfl,rfl,rfl⟩:=H
 go_enter Tryz.func221,Tryz.ntmps221
 try go_wp2_with (first |((with_reducible refine Qfs (N:=2) rfl ?_);refine qq_e 2 #[.string a0_0,.int .i64 a0_1,.int .i64 a0_2] 257 ?_;intro gb640 hg w5 hbox hb;have n0_:=QA (Qfh qq_b hb);have n1_:=QA (hbox);have n2_:=QA (qq_s hg:w.heap.size≤gb640);have n3_:=n2_;clear HB;have HB:=n0_;have BK640:=n1_;have GW640:=n2_;have GE640:=n3_;clear n0_ n1_ n2_ n3_;clear hb hbox hg) |((with_reducible refine Qfs (N:=4) rfl ?_);refine qq_e 4 #[.string (⟨#[]⟩:ByteArray),.int .i64 0,.int .i64 0] 257 ?_;intro gb641 hg w6 hbox hb;have n0_:=QA (Qeh (g:=gb640) (o:=.cells #[.string a0_0,.int .i64 a0_1,.int .i64 a0_2] 257 (0,0)) qq_0 hb);have n1_:=QA (Qfh qq_b hb);have n2_:=QA (hbox);have n3_:=QA (qq_s hg:w.heap.size≤gb641);have n4_:=n3_;have n5_:=QA ((by rw[hg];exact Nat.ne_of_lt (Qdr (g:=gb640) (o:=.cells #[.string a0_0,.int .i64 a0_1,.int .i64 a0_2] 257 (0,0)) qq_0):gb640≠gb641));have n6_:=QA ((by rw[hg];exact Nat.ne_of_gt (Qdr (g:=gb640) (o:=.cells #[.string a0_0,.int .i64 a0_1,.int .i64 a0_2] 257 (0,0)) qq_0):gb641≠gb640));clear BK640 HB;have BK640:=n0_;have HB:=n1_;have BK641:=n2_;have GW641:=n3_;have GE641:=n4_;have NB640_641:=n5_;have NB641_640:=n6_;clear n0_ n1_ n2_ n3_ n4_ n5_ n6_ hb hbox hg;have hnb7:=NB640_641.out;have hnc7:=NB641_640.out;have hcz8_0:=qq_c (.string a0_0) BK640.out 0 rfl;have hcz8_1:=qq_c (.int .i64 a0_1) BK640.out 1 rfl;have hcz8_2:=qq_c (.int .i64 a0_2) BK640.out 2 rfl;have hfz8_0:=Qdt BK640.out 0;have hfz8_1:=Qdt BK640.out 1;have hfz8_2:=Qdt BK640.out 2) |((with_reducible refine Qin (f:=223) rfl ?_);refine Qgp (some 11) rfl rfl Tryz.func223 qq_6 rfl #[.agg #[.string a0_0,.int .i64 a0_1,.int .i64 a0_2],.int .i64 a1] rfl qq_1 ?_;(with_reducible refine(Qax.calls k a0_0 a0_1 a0_2 a1 t642 t643 t644 t645 _ A3.out).mono ?_);rintro e w9 ⟨rfl,hb⟩;refine⟨_,rfl,?_⟩;have n0_:=QA (Qeh (g:=gb640) (o:=.cells #[.string a0_0,.int .i64 a0_1,.int .i64 a0_2] 257 (0,0)) qq_0 hb);have n1_:=QA (Qeh (g:=gb641) (o:=.cells #[.string (⟨#[]⟩:ByteArray),.int .i64 0,.int .i64 0] 257 (0,0)) qq_0 hb);have n2_:=QA (Qfh qq_b hb);clear BK640 BK641 HB;have BK640:=n0_;have BK641:=n1_;have HB:=n2_;clear n0_ n1_ n2_;(try clear hb);(try clear hb2);(try clear hk);(try clear hi)) |((with_reducible refine Qfs (N:=6) rfl ?_);refine qq_e 6 #[.string (⟨#[]⟩:ByteArray),.int .i64 0,.int .i64 0] 257 ?_;intro gb646 hg w10 hbox hb;have n0_:=QA (Qeh (g:=gb640) (o:=.cells #[.string a0_0,.int .i64 a0_1,.int .i64 a0_2] 257 (0,0)) qq_0 hb);have n1_:=QA (Qeh (g:=gb641) (o:=.cells #[.string (⟨#[]⟩:ByteArray),.int .i64 0,.int .i64 0] 257 (0,0)) qq_0 hb);have n2_:=QA (Qfh qq_b hb);have n3_:=QA (hbox);have n4_:=QA (qq_s hg:w.heap.size≤gb646);have n5_:=n4_;have n6_:=QA ((by rw[hg];exact Nat.ne_of_lt (Qdr (g:=gb640) (o:=.cells #[.string a0_0,.int .i64 a0_1,.int .i64 a0_2] 257 (0,0)) qq_0):gb640≠gb646));have n7_:=QA ((by rw[hg];exact Nat.ne_of_gt (Qdr (g:=gb640) (o:=.cells #[.string a0_0,.int .i64 a0_1,.int .i64 a0_2] 257 (0,0)) qq_0):gb646≠gb640));have n8_:=QA ((by rw[hg];exact Nat.ne_of_lt (Qdr (g:=gb641) (o:=.cells #[.string (⟨#[]⟩:ByteArray),.int .i64 0,.int .i64 0] 257 (0,0)) qq_0):gb641≠gb646));have n9_:=QA ((by rw[hg];exact Nat.ne_of_gt (Qdr (g:=gb641) (o:=.cells #[.string (⟨#[]⟩:ByteArray),.int .i64 0,.int .i64 0] 257 (0,0)) qq_0):gb646≠gb641));clear BK640 BK641 HB;have BK640:=n0_;have BK641:=n1_;have HB:=n2_;have BK646:=n3_;have GW646:=n4_;have GE646:=n5_;have NB640_646:=n6_;have NB646_640:=n7_;have NB641_646:=n8_;have NB646_641:=n9_;clear n0_ n1_ n2_ n3_ n4_ n5_ n6_ n7_ n8_ n9_ hb hbox hg;have hnb11:=NB646_640.out;have hnc11:=NB640_646.out;have hnb12:=NB646_641.out;have hnc12:=NB641_646.out;have hcz13_0:=qq_c (.string (⟨#[]⟩:ByteArray)) BK646.out 0 rfl;have hcz13_1:=qq_c (.int .i64 0) BK646.out 1 rfl;have hcz13_2:=qq_c (.int .i64 0) BK646.out 2 rfl;have hfz13_0:=Qdt BK646.out 0;have hfz13_1:=Qdt BK646.out 1;have hfz13_2:=Qdt BK646.out 2))
 have n0_:Aside0 ((((w10.setCell ⟨gb646,0,none⟩ (.string t642)).setCell ⟨gb646,1,none⟩ (.int .i64 t643)).setCell ⟨gb646,2,none⟩ (.int .i64 t644)).heap[gb640]? = some (.cells #[.string a0_0,.int .i64 a0_1,.int .i64 a0_2] 257 (0,0))):=⟨by(with_reducible repeat(first|apply Qeg|apply Qef|apply Qee));refine Qdq ?_ NB640_646.out _;(with_reducible repeat(first|apply Qeg|apply Qef|apply Qee));refine Qdq ?_ NB640_646.out _;(with_reducible repeat(first|apply Qeg|apply Qef|apply Qee));refine Qdq ?_ NB640_646.out _;(with_reducible repeat(first|apply Qeg|apply Qef|apply Qee));exact BK640.out⟩
 have n1_:Aside0 ((((w10.setCell ⟨gb646,0,none⟩ (.string t642)).setCell ⟨gb646,1,none⟩ (.int .i64 t643)).setCell ⟨gb646,2,none⟩ (.int .i64 t644)).heap[gb641]? = some (.cells #[.string (⟨#[]⟩:ByteArray),.int .i64 0,.int .i64 0] 257 (0,0))):=⟨by(with_reducible repeat(first|apply Qeg|apply Qef|apply Qee));refine Qdq ?_ NB641_646.out _;(with_reducible repeat(first|apply Qeg|apply Qef|apply Qee));refine Qdq ?_ NB641_646.out _;(with_reducible repeat(first|apply Qeg|apply Qef|apply Qee));refine Qdq ?_ NB641_646.out _;(with_reducible repeat(first|apply Qeg|apply Qef|apply Qee));exact BK641.out⟩
 have n2_:Aside0 ((((w10.setCell ⟨gb646,0,none⟩ (.string t642)).setCell ⟨gb646,1,none⟩ (.int .i64 t643)).setCell ⟨gb646,2,none⟩ (.int .i64 t644)).heap[gb646]? = some (.cells #[.string t642,.int .i64 t643,.int .i64 t644] 257 (0,0))):=⟨by(with_reducible repeat(first|apply Qeg|apply Qef|apply Qee));refine Qfn (cs:=#[.string t642,.int .i64 t643,.int .i64 0]) ?_ 2 _ rfl;(with_reducible repeat(first|apply Qeg|apply Qef|apply Qee));refine Qfn (cs:=#[.string t642,.int .i64 0,.int .i64 0]) ?_ 1 _ rfl;(with_reducible repeat(first|apply Qeg|apply Qef|apply Qee));refine Qfn (cs:=#[.string (⟨#[]⟩:ByteArray),.int .i64 0,.int .i64 0]) ?_ 0 _ rfl;(with_reducible repeat(first|apply Qeg|apply Qef|apply Qee));exact BK646.out⟩
 have n3_:Aside0 (Below w.heap.size w (((w10.setCell ⟨gb646,0,none⟩ (.string t642)).setCell ⟨gb646,1,none⟩ (.int .i64 t643)).setCell ⟨gb646,2,none⟩ (.int .i64 t644))):=⟨qq_b⟩
 (try clear BK640)
 (try clear BK641)
 (try clear BK646)
 (try clear HB)
 generalize (((w10.setCell ⟨gb646,0,none⟩ (.string t642)).setCell ⟨gb646,1,none⟩ (.int .i64 t643)).setCell ⟨gb646,2,none⟩ (.int .i64 t644))=w14 at n0_ n1_ n2_ n3_ ⊢
 have BK640:=n0_
 have BK641:=n1_
 have BK646:=n2_
 have HB:=n3_
 clear n0_ n1_ n2_ n3_
 have n0_:=QA (Qef BK640.out)
 have n1_:=QA (Qef BK641.out)
 have n2_:=QA (Qef BK646.out)
 have n3_:=QA (Qfo HB.out)
 clear BK640 BK641 BK646 HB
 have BK640:=n0_
 have BK641:=n1_
 have BK646:=n2_
 have HB:=n3_
 clear n0_ n1_ n2_ n3_
 refine Qge (n:=5) (S:=fun w'=>w'.cell? ⟨gb646,0,none⟩=some (.string t642)∧w'.cell? ⟨gb646,1,none⟩=some (.int .i64 t643)∧w'.cell? ⟨gb646,2,none⟩=some (.int .i64 t644)) (ds:=[]) #[false,false,false,false,false] qq_6 rfl rfl ⟨(Qds BK646.out 0).trans rfl,(Qds BK646.out 1).trans rfl,(Qds BK646.out 2).trans rfl⟩ (fun hHeld=>?_)
 generalize w14.drew=w15 at BK640 BK641 BK646 HB hHeld ⊢
 refine Qgh (i:=1) (N:=some 15) (v:=?_) (a':=?_) #[false,true,false,false,false] rfl rfl qq_6 (fun _ _ _ h=>h) (Or.inl ⟨by rfl,?_⟩) ?_ ?_
 rotate_left
 ·intro w'
  go_simp
  with_reducible rfl
 rotate_left
 ·exact qq_2
 refine Qgg (i:=0) (N:=some 14) (v:=?_) (a':=?_) #[true,true,false,false,false] rfl rfl qq_6 (fun _ _ _ h=>h) (Or.inl ⟨by rfl,?_⟩) hHeld ?_ ?_
 rotate_left
 ·rintro w' ⟨s0,s1,s2⟩
  go_simp
  with_reducible rfl
 rotate_left
 ·exact qq_2
 refine one_ (i:=2) (N:=some 16) #[true,true,true,false,false] rfl rfl qq_6 (by decide) (fun K hK=>?_)
 refine Qgo Tryz.func107 qq_6 rfl #[.string t645] (by rfl) rfl rfl qq_1 ?_
 with_reducible refine(Qay.calls k t645 t647 _ A4.out).mono ?_
 rintro e w' ⟨rfl,⟨nd,rfl⟩⟩
 refine⟨_,rfl,?_⟩
 refine hK.out _ _ ⟨(Qds BK646.out 0).trans rfl,(Qds BK646.out 1).trans rfl,(Qds BK646.out 2).trans rfl⟩ (fun hHeld=>?_)
 clear hK K
 refine Qgm (a':=?_) ?_ ?_
 rotate_left
 ·show Act.put _ (some 16) _=_
  simp only[Act.put,List.setIfInBounds_toArray,List.set_cons_zero,List.set_cons_succ,Qgr,Qgs]
  rfl
 refine one_ (i:=3) (N:=none) #[true,true,true,true,false] rfl rfl qq_6 (by decide) (fun K hK=>?_)
 have hs16:w15.cell? ⟨gb641,0,none⟩=some (.string (⟨#[]⟩:ByteArray)):=(Qds BK641.out 0).trans rfl
 have hfs16:=Qdt BK641.out 0
 have hns16_0:=NB640_641.out
 have hns16_2:=NB646_641.out
 have hms16_0:=NB641_640.out
 have hms16_2:=NB641_646.out
 have hs17:w15.cell? ⟨gb641,1,none⟩=some (.int .i64 0):=(Qds BK641.out 1).trans rfl
 have hfs17:=Qdt BK641.out 1
 have hns17_0:=NB640_641.out
 have hns17_2:=NB646_641.out
 have hms17_0:=NB641_640.out
 have hms17_2:=NB641_646.out
 have hs18:w15.cell? ⟨gb641,2,none⟩=some (.int .i64 0):=(Qds BK641.out 2).trans rfl
 have hfs18:=Qdt BK641.out 2
 have hns18_0:=NB640_641.out
 have hns18_2:=NB646_641.out
 have hms18_0:=NB641_640.out
 have hms18_2:=NB641_646.out
 refine skip_ (w1:=?_) (by rfl) rfl ?_ ?_
 rotate_left
 ·go_simp
  rfl
 refine hK.out _ _ ⟨((Qfm (p:=⟨gb641,_,none⟩) NB646_641.out _).trans (((Qfm (p:=⟨gb641,_,none⟩) NB646_641.out _).trans (((Qfm (p:=⟨gb641,_,none⟩) NB646_641.out _).trans (hHeld.1)))))),((Qfm (p:=⟨gb641,_,none⟩) NB646_641.out _).trans (((Qfm (p:=⟨gb641,_,none⟩) NB646_641.out _).trans (((Qfm (p:=⟨gb641,_,none⟩) NB646_641.out _).trans (hHeld.2.1)))))),((Qfm (p:=⟨gb641,_,none⟩) NB646_641.out _).trans (((Qfm (p:=⟨gb641,_,none⟩) NB646_641.out _).trans (((Qfm (p:=⟨gb641,_,none⟩) NB646_641.out _).trans (hHeld.2.2))))))⟩ (fun hHeld=>?_)
 clear hK K
 refine Qgh (i:=4) (N:=some 5) (v:=?_) (a':=?_) #[true,true,true,true,true] rfl rfl qq_6 (fun _ _ _ h=>h) (Or.inl ⟨by rfl,?_⟩) ?_ ?_
 rotate_left
 ·intro w'
  go_simp
  with_reducible rfl
 rotate_left
 ·exact qq_2
 refine Qgj qq_6 ?_
 try go_wp2
 refine bodyPost_ret (Qej rfl _ _ gb641 257 #[.string t642,.int .i64 t643,.int .i64 t644] (0,0) _ rfl (by(with_reducible repeat(first|apply Qeg|apply Qef|apply Qee));refine Qfn (cs:=#[.string t642,.int .i64 t643,.int .i64 0]) ?_ 2 _ rfl;(with_reducible repeat(first|apply Qeg|apply Qef|apply Qee));refine Qfn (cs:=#[.string t642,.int .i64 0,.int .i64 0]) ?_ 1 _ rfl;(with_reducible repeat(first|apply Qeg|apply Qef|apply Qee));refine Qfn (cs:=#[.string (⟨#[]⟩:ByteArray),.int .i64 0,.int .i64 0]) ?_ 0 _ rfl;(with_reducible repeat(first|apply Qeg|apply Qef|apply Qee));exact BK641.out) Tryz.underlying257 rfl qq_6) rfl ?_
 exact⟨by first|rfl |(simp[Qis,Qit]<;>rfl) |(simp[*,Qis,Qit]<;>rfl),qq_b⟩
end Go.Proofs.YtnnofopfbeklbaaGreat.C
end
