/- Texts of this claim's author and of the print of its functions, merged by merge.py. -/
import Derived.Test.YtnnofopfbeklbaaGreatMH02
import Derived.Test.YtnnofopfbeklbaaGreatMH03
import Derived.Test.YtnnofopfbeklbaaGreatMH04
set_option linter.unusedVariables false
set_option linter.unusedSimpArgs false
set_option maxHeartbeats 8000000
set_option maxRecDepth 100000
section
namespace Go.Proofs.YtnnofopfbeklbaaGreat.C
open Go.RowKit Go.Proofs.YtnnofopfbeklbaaGreatW.PrintWords Go.Proofs.YtnnofopfbeklbaaGreatW.PrintLast Go.Proofs.YtnnofopfbeklbaaGreatW.PrintMore
attribute [local go_sem] Qif Qig Qih Qii Qij Qik Qil Qim
def Qbw.l0:Nat→ByteArray→List (S122)→Int→Int→Option (ByteArray)
 | 0,_,_,_,_=>none
 | k+1,x3,x6,x7,x8=>if x8<x7 then(if 0≤x8 then(if x8<(x6.length:Int)then((Qaw.f k ((Qjj x6 x8).f0) 8).bind fun t465=>(if x3.size+t465.size≤9223372036854775807 then((Qaw.f k (IntKind.u64.wrap ((Qjj x6 x8).f1)) 4).bind fun t466=>(if(x3++t465).size+t466.size≤9223372036854775807 then(Qbw.l0 k ((x3++t465)++t466) x6 x7 (wrap64 (x8+1)))else(none)))else(none)))else(none))else(none))else(some x3)
def Qbw.f(k:Nat)(l0:List (S122)):Option (ByteArray):=Qbw.l0 k (⟨#[]⟩:ByteArray) l0 (l0.length:Int) 0
def Qbw.T5:Bool × List (List Nat × List Nat):=(true,[([],[]),([],[]),([1],[1]),([2],[2]),([0,3],[0,3]),([],[]),([5],[5]),([6],[6]),([7,3],[7]),([4,8],[4,8]),([9,8,0,1,2,3,4,5,6,7,8,9],[0,9])])
def Qbw.B5:List Nat:=[0,0,2,6,15,0,32,96,238,511,1023]
theorem Qbw.tab5:rtab .any (Qhx Tryz.f121 5)=Qbw.T5:=by kernel_rfl
theorem Qbw.bits5:Qhr Qbw.T5.2 Qbw.B5=true:=by kernel_rfl
theorem Qbw.calls (k:Nat) (A0:Option Addr) (c0:Nat) (l0:List (S122)) (r:ByteArray) (w:World) (hr0:Kd.C k122 w A0 l0.length l0) (hc0:l0.length≤c0) (h:Qbw.f k l0=some r) :
  Calls Tryz.prog 121 #[.slice A0 l0.length c0] w fun e w'=>e=.returned (.string r)∧Below w.heap.size w w':=by
 have hu122:=Tryz.underlying122
 have HR0:=QA hr0
 have HC0:=QA hc0
 clear hr0 hc0
 have HB:=QA (Below.refl w.heap.size w)
 have H:(Qbw.l0 k (⟨#[]⟩:ByteArray) l0 (l0.length:Int) 0)=some r:=h
 clear h
 have H':=QA H
 clear H
 go_enter Tryz.func121,Tryz.ntmps121
 go_wp2
 go_loopg [3,8] k (fun kq v3 v8 w'=>∃(x3_1:ByteArray) (x8_1:Int),v3=.string x3_1∧v8=.int .i64 x8_1∧Aside0 (Qbw.l0 kq x3_1 l0 (l0.length:Int) x8_1=some r)∧Aside0 (kq≤k)∧Aside0 (Below w.heap.size w w'))
 case atStart=>exact⟨((⟨#[]⟩:ByteArray)),(0),qq_5,qq_5,H',⟨Nat.le_refl _⟩,⟨qq_b⟩⟩
 case round =>
  clear H'
  obtain⟨x3_1,x8_1,rfl,rfl,HA,HK1,HB⟩:=hrel
  cases gk with
  | zero=>exact absurd HA.out (by simp[Qbw.l0])
  | succ k1 =>
   have H:=HA.out
   clear HA
   simp only[Qbw.l0]at H
   by_cases c2:x8_1<(l0.length:Int)
   ·rw [if_pos c2]at H
    have c2b0:decide (x8_1<(l0.length:Int))=true:=decide_eq_true c2
    clear c2
    by_cases c3:0≤x8_1
    ·rw [if_pos c3]at H
     have c3b0:decide (0≤x8_1)=true:=decide_eq_true c3
     clear c3
     by_cases c4:x8_1<(l0.length:Int)
     ·rw [if_pos c4]at H
      have c4b0:decide (x8_1<(l0.length:Int))=true:=decide_eq_true c4
      clear c4
      replace H:=Option.bind_eq_some_iff.mp H
      obtain⟨t465,A50,H⟩:=H
      replace H:(if x3_1.size+t465.size≤9223372036854775807 then((Qaw.f k1 (IntKind.u64.wrap ((Qjj l0 x8_1).f1)) 4).bind fun t466=>(if(x3_1++t465).size+t466.size≤9223372036854775807 then(Qbw.l0 k1 ((x3_1++t465)++t466) l0 (l0.length:Int) (wrap64 (x8_1+1)))else(none)))else(none))=some r:=H
      have A5:=QA A50
      clear A50
      by_cases c6:x3_1.size+t465.size≤9223372036854775807
      ·rw[if_pos c6]at H
       have c6b0:=eq_true c6
       have c6b1:decide (x3_1.size+t465.size≤9223372036854775807)=true:=decide_eq_true c6
       try have c6b2:(9223372036854775807<x3_1.size+t465.size)=False:=eq_false (Nat.not_lt.2 c6)
       replace H:=Option.bind_eq_some_iff.mp H
       obtain⟨t466,A70,H⟩:=H
       replace H:(if(x3_1++t465).size+t466.size≤9223372036854775807 then(Qbw.l0 k1 ((x3_1++t465)++t466) l0 (l0.length:Int) (wrap64 (x8_1+1)))else(none))=some r:=H
       have A7:=QA A70
       clear A70
       by_cases c8:(x3_1++t465).size+t466.size≤9223372036854775807
       ·rw[if_pos c8]at H
        have c8b0:=eq_true c8
        have c8b1:decide ((x3_1++t465).size+t466.size≤9223372036854775807)=true:=decide_eq_true c8
        try have c8b2:(9223372036854775807<(x3_1++t465).size+t466.size)=False:=eq_false (Nat.not_lt.2 c8)
        try have c8b3:=c8b2
        try simp only[ByteArray.size_append,(show ∀x_:UInt8,(⟨#[x_]⟩:ByteArray).size=1 from fun _=>rfl),(show ∀x_ y_:UInt8,(⟨#[x_,y_]⟩:ByteArray).size=2 from fun _ _=>rfl)]at c8b3
        try have c8b4:=c8b2
        try simp only[ByteArray.size_append,ByteArray.size_extract,(show ∀x_:UInt8,(⟨#[x_]⟩:ByteArray).size=1 from fun _=>rfl),(show ∀x_ y_:UInt8,(⟨#[x_,y_]⟩:ByteArray).size=2 from fun _ _=>rfl)]at c8b4
        have H':=QA H
        clear H
        have p463:0≤(x8_1:Int):=of_decide_eq_true qq_4
        have q463:x8_1<(l0.length:Int):=of_decide_eq_true qq_4
        obtain⟨ad463,e463,hx463_0,hx463_1⟩:=Qjk HR0.out x8_1 p463 q463
        cases e463
        replace hx463_0:=qq_h HB.out hx463_0
        replace hx463_1:=qq_h HB.out hx463_1
        replace p463:=eq_true p463
        replace q463:=eq_true q463
        try go_wp2_with (first |((with_reducible refine Qfs (N:=5) rfl ?_);refine qq_e 5 #[.int .u64 0,.int .u32 0] 122 ?_;intro gb464 hg w9 hbox hb;have n0_:=QA (Qfh qq_b hb);have n1_:=QA (hbox);have n2_:=QA (qq_s hg:w.heap.size≤gb464);have n3_:=n2_;clear HB;have HB:=n0_;have BK464:=n1_;have GW464:=n2_;have GE464:=n3_;clear n0_ n1_ n2_ n3_ hb hbox hg;have hcz10_0:=qq_c (.int .u64 0) BK464.out 0 rfl;have hcz10_1:=qq_c (.int .u32 0) BK464.out 1 rfl;have hfz10_0:=Qdt BK464.out 0;have hfz10_1:=Qdt BK464.out 1))
        have n0_:Aside0 (((w9.setCell ⟨gb464,0,none⟩ (.int .u64 ((Qjj l0 x8_1).f0))).setCell ⟨gb464,1,none⟩ (.int .u32 ((Qjj l0 x8_1).f1))).heap[gb464]? = some (.cells #[.int .u64 ((Qjj l0 x8_1).f0),.int .u32 ((Qjj l0 x8_1).f1)] 122 (0,0))):=⟨by(with_reducible repeat(first|apply Qeg|apply Qef|apply Qee));refine Qfn (cs:=#[.int .u64 ((Qjj l0 x8_1).f0),.int .u32 0]) ?_ 1 _ rfl;(with_reducible repeat(first|apply Qeg|apply Qef|apply Qee));refine Qfn (cs:=#[.int .u64 0,.int .u32 0]) ?_ 0 _ rfl;(with_reducible repeat(first|apply Qeg|apply Qef|apply Qee));exact BK464.out⟩
        have n1_:Aside0 (Below w.heap.size w ((w9.setCell ⟨gb464,0,none⟩ (.int .u64 ((Qjj l0 x8_1).f0))).setCell ⟨gb464,1,none⟩ (.int .u32 ((Qjj l0 x8_1).f1)))):=⟨qq_b⟩
        (try clear BK464)
        (try clear HB)
        generalize ((w9.setCell ⟨gb464,0,none⟩ (.int .u64 ((Qjj l0 x8_1).f0))).setCell ⟨gb464,1,none⟩ (.int .u32 ((Qjj l0 x8_1).f1)))=w11 at n0_ n1_ ⊢
        have BK464:=n0_
        have HB:=n1_
        clear n0_ n1_
        have n0_:=QA (Qef BK464.out)
        have n1_:=QA (Qfo HB.out)
        clear BK464 HB
        have BK464:=n0_
        have HB:=n1_
        clear n0_ n1_
        refine Qge (n:=11) (S:=fun w'=>w'.cell? ⟨gb464,0,none⟩=some (.int .u64 ((Qjj l0 x8_1).f0))∧w'.cell? ⟨gb464,1,none⟩=some (.int .u32 ((Qjj l0 x8_1).f1))) (ds:=[]) #[false,false,false,false,false,false,false,false,false,false,false] qq_6 rfl rfl ⟨(Qds BK464.out 0).trans rfl,(Qds BK464.out 1).trans rfl⟩ (fun hHeld=>?_);refine Qhv Qbw.tab5 Qbw.bits5 (fun HT_ HW_=>?_)
        generalize w11.drew=w12 at BK464 HB hHeld ⊢
        refine Qgh (i:=0) (N:=some 12) (v:=?_) (a':=?_) #[true,false,false,false,false,false,false,false,false,false,false] rfl rfl (Qhn HT_.out qq_6) (fun _ _ _ h=>h) (Or.inl ⟨by rfl,?_⟩) ?_ ?_
        rotate_left
        ·intro w'
         go_simp
         with_reducible rfl
        rotate_left
        ·exact qq_2
        refine Qgh (i:=1) (N:=some 13) (v:=?_) (a':=?_) #[true,true,false,false,false,false,false,false,false,false,false] rfl rfl (Qhn HT_.out qq_6) (fun _ _ _ h=>h) (Or.inl ⟨by rfl,?_⟩) ?_ ?_
        rotate_left
        ·intro w'
         go_simp
         with_reducible rfl
        rotate_left
        ·exact qq_2
        refine Qgh (i:=5) (N:=some 17) (v:=?_) (a':=?_) #[true,true,false,false,false,true,false,false,false,false,false] rfl rfl (Qhn HT_.out qq_6) (fun _ _ _ h=>h) (Or.inl ⟨by rfl,?_⟩) ?_ ?_
        rotate_left
        ·intro w'
         go_simp
         with_reducible rfl
        rotate_left
        ·exact qq_2
        refine Qgg (i:=2) (N:=some 14) (v:=?_) (a':=?_) #[true,true,true,false,false,true,false,false,false,false,false] rfl rfl (Qhu HT_.out HW_.out qq_6) (fun _ _ _ h=>h) (Or.inl ⟨by rfl,?_⟩) hHeld ?_ ?_
        rotate_left
        ·rintro w' ⟨s0,s1⟩
         go_simp
         with_reducible rfl
        rotate_left
        ·exact qq_2
        refine Qgg (i:=6) (N:=some 18) (v:=?_) (a':=?_) #[true,true,true,false,false,true,true,false,false,false,false] rfl rfl (Qhu HT_.out HW_.out qq_6) (fun _ _ _ h=>h) (Or.inl ⟨by rfl,?_⟩) hHeld ?_ ?_
        rotate_left
        ·rintro w' ⟨s0,s1⟩
         go_simp
         with_reducible rfl
        rotate_left
        ·exact qq_2
        refine Qgh (i:=7) (N:=some 19) (v:=?_) (a':=?_) #[true,true,true,false,false,true,true,true,false,false,false] rfl rfl (Qhn HT_.out qq_6) (fun _ _ _ h=>h) (Or.inl ⟨by rfl,?_⟩) ?_ ?_
        rotate_left
        ·intro w'
         go_simp
         with_reducible rfl
        rotate_left
        ·exact qq_2
        refine one_ (i:=3) (N:=some 15) #[true,true,true,true,false,true,true,true,false,false,false] rfl rfl (Qho HT_.out qq_6) (by decide) (fun K hK=>?_)
        refine Qgo Tryz.func103 qq_6 rfl #[.int .u64 ((Qjj l0 x8_1).f0),.int .i64 8] (by rfl) rfl rfl qq_1 ?_
        with_reducible refine(Qaw.calls k1 ((Qjj l0 x8_1).f0) 8 t465 _ A5.out).mono ?_
        rintro e w13 ⟨rfl,hb⟩
        refine⟨_,rfl,?_⟩
        have n0_:=QA (Qeh (g:=gb464) (o:=.cells #[.int .u64 ((Qjj l0 x8_1).f0),.int .u32 ((Qjj l0 x8_1).f1)] 122 (0,0)) qq_0 hb)
        have n1_:=QA (Qfh qq_b hb)
        clear BK464 HB
        have BK464:=n0_
        have HB:=n1_
        clear n0_ n1_
        (try clear hb)
        (try clear hb2)
        (try clear hk)
        (try clear hi)
        refine hK.out _ _ ⟨(Qds BK464.out 0).trans rfl,(Qds BK464.out 1).trans rfl⟩ (fun hHeld=>?_)
        clear hK K
        refine Qgm (a':=?_) ?_ ?_
        rotate_left
        ·show Act.put _ (some 15) _=_
         simp only[Act.put,List.setIfInBounds_toArray,List.set_cons_zero,List.set_cons_succ,Qgr,Qgs]
         rfl
        refine Qgh (i:=4) (N:=some 16) (v:=?_) (a':=?_) #[true,true,true,true,true,true,true,true,false,false,false] rfl rfl (Qhn HT_.out qq_6) (fun _ _ _ h=>h) (Or.inl ⟨by rfl,?_⟩) ?_ ?_
        rotate_left
        ·intro w'
         go_simp
         with_reducible rfl
        rotate_left
        ·exact qq_2
        refine one_ (i:=8) (N:=some 20) #[true,true,true,true,true,true,true,true,true,false,false] rfl rfl (Qho HT_.out qq_6) (by decide) (fun K hK=>?_)
        refine Qgo Tryz.func103 qq_6 rfl #[.int .u64 (IntKind.u64.wrap ((Qjj l0 x8_1).f1)),.int .i64 4] (by rfl) rfl rfl qq_1 ?_
        with_reducible refine(Qaw.calls k1 (IntKind.u64.wrap ((Qjj l0 x8_1).f1)) 4 t466 _ A7.out).mono ?_
        rintro e w14 ⟨rfl,hb⟩
        refine⟨_,rfl,?_⟩
        have n0_:=QA (Qeh (g:=gb464) (o:=.cells #[.int .u64 ((Qjj l0 x8_1).f0),.int .u32 ((Qjj l0 x8_1).f1)] 122 (0,0)) qq_0 hb)
        have n1_:=QA (Qfh qq_b hb)
        clear BK464 HB
        have BK464:=n0_
        have HB:=n1_
        clear n0_ n1_
        (try clear hb)
        (try clear hb2)
        (try clear hk)
        (try clear hi)
        refine hK.out _ _ ⟨(Qds BK464.out 0).trans rfl,(Qds BK464.out 1).trans rfl⟩ (fun hHeld=>?_)
        clear hK K
        refine Qgm (a':=?_) ?_ ?_
        rotate_left
        ·show Act.put _ (some 20) _=_
         simp only[Act.put,List.setIfInBounds_toArray,List.set_cons_zero,List.set_cons_succ,Qgr,Qgs]
         rfl
        refine Qgh (i:=9) (N:=some 21) (v:=?_) (a':=?_) #[true,true,true,true,true,true,true,true,true,true,false] rfl rfl (Qhn HT_.out qq_6) (fun _ _ _ h=>h) (Or.inl ⟨by rfl,?_⟩) ?_ ?_
        rotate_left
        ·intro w'
         go_simp
         with_reducible rfl
        rotate_left
        ·exact qq_2
        refine Qgh (i:=10) (N:=some 3) (v:=?_) (a':=?_) #[true,true,true,true,true,true,true,true,true,true,true] rfl rfl (Qhn HT_.out qq_6) (fun _ _ _ h=>h) (Or.inl ⟨by rfl,?_⟩) ?_ ?_
        rotate_left
        ·intro w'
         go_simp
         with_reducible rfl
        rotate_left
        ·exact qq_2
        refine Qgj (Qhq HT_.out qq_6) ?_
        try go_wp2
        go_roundg k1
        case measure=>have:=HK1.out;omega
        case rel=>exact⟨((x3_1++t465)++t466),(wrap64 (x8_1+1)),qq_5,qq_5,H',⟨by have:=HK1.out;omega⟩,⟨qq_b⟩⟩
       ·rw[if_neg c8]at H
        exact absurd H (by simp)
      ·rw[if_neg c6]at H
       exact absurd H (by simp)
     ·rw[if_neg c4]at H
      exact absurd H (by simp)
    ·rw[if_neg c3]at H
     exact absurd H (by simp)
   ·rw[if_neg c2]at H
    have c2b0:decide (x8_1<(l0.length:Int))=false:=decide_eq_false c2
    clear c2
    obtain rfl:=Option.some.inj H
    go_wp2
    go_ret
    exact⟨by first|rfl |(simp[Qis,Qit]<;>rfl) |(simp[*,Qis,Qit]<;>rfl),qq_b⟩
def Qby.l0:Nat→List Int→List (S122)→Int→Int→Option (List Int)
 | 0,_,_,_,_=>none
 | k+1,x3,x6,x7,x8=>if x8<x7 then(if 0≤x8 then(if x8<(x6.length:Int)then(if(Int.tmod x8 16)=0 then(if x3.length<17592186044416 then(Qby.l0 k (x3++[(Qjj x6 x8).f0]) x6 x7 (wrap64 (x8+1)))else(none))else(Qby.l0 k x3 x6 x7 (wrap64 (x8+1))))else(none))else(none))else(some x3)
def Qby.f(k:Nat)(l0:List (S122)):Option (List Int):=Qby.l0 k ([]:List Int) l0 (l0.length:Int) 0
theorem Qby.calls (k:Nat) (A0:Option Addr) (c0:Nat) (l0:List (S122)) (r:List Int) (w:World) (hr0:Kd.C k122 w A0 l0.length l0) (hc0:l0.length≤c0) (h:Qby.f k l0=some r) :
  Calls Tryz.prog 123 #[.slice A0 l0.length c0] w fun e w'=>∃v0_:Value,e=.returned (v0_)∧Kd.R (Kd.int .u64) 34 w' w.heap.size (fun _=>True) v0_ r∧Below w.heap.size w w':=by
 have hu122:=Tryz.underlying122
 have HR0:=QA hr0
 have HC0:=QA hc0
 clear hr0 hc0
 have HB:=QA (Below.refl w.heap.size w)
 have H:(Qby.l0 k ([]:List Int) l0 (l0.length:Int) 0)=some r:=h
 clear h
 have H':=QA H
 clear H
 go_enter Tryz.func123,Tryz.ntmps123
 go_wp2
 go_loopg [3,8] k (fun kq v3 v8 w'=>∃(x3_1:List Int) (x8_1:Int),v8=.int .i64 x8_1∧Aside0 (Qby.l0 kq x3_1 l0 (l0.length:Int) x8_1=some r)∧Aside0 (kq≤k)∧Aside0 (Kd.R (Kd.int .u64) 34 w' w.heap.size (fun _=>True) v3 x3_1)∧Aside0 (Below w.heap.size w w'))
 case atStart=>exact⟨(([]:List Int)),(0),qq_5,H',⟨Nat.le_refl _⟩,⟨by first|exact Kd.R_nil _ _ _ _ _|exact Kd.N_nil _ _ _ _ _|exact Kd.V_nil _ _ _ _ _|exact Kd.Q_nil _ _ _ _ _|exact Kd.S_nil _ _ _ _ _⟩,⟨qq_b⟩⟩
 case round =>
  clear H'
  obtain⟨x3_1,x8_1,rfl,HA,HK1,HO_3,HB⟩:=hrel
  cases gk with
  | zero=>exact absurd HA.out (by simp[Qby.l0])
  | succ k1 =>
   have H:=HA.out
   clear HA
   simp only[Qby.l0]at H
   by_cases c2:x8_1<(l0.length:Int)
   ·rw [if_pos c2]at H
    have c2b0:decide (x8_1<(l0.length:Int))=true:=decide_eq_true c2
    clear c2
    by_cases c3:0≤x8_1
    ·rw [if_pos c3]at H
     have c3b0:decide (0≤x8_1)=true:=decide_eq_true c3
     clear c3
     by_cases c4:x8_1<(l0.length:Int)
     ·rw[if_pos c4]at H
      have c4b0:decide (x8_1<(l0.length:Int))=true:=decide_eq_true c4
      clear c4
      by_cases c5:(Int.tmod x8_1 16)=0
      ·rw[if_pos c5]at H
       have c5b0:((Int.tmod x8_1 16) == 0)=true:=beq_iff_eq.mpr c5
       have c5b1:((Int.tmod x8_1 16) != 0)=false:=bne_eq_false_iff_eq.mpr c5
       clear c5
       by_cases c6:x3_1.length<17592186044416
       ·rw[if_pos c6]at H
        have LMc6:=QA c6
        clear c6
        obtain⟨y471,hy471⟩:∃y_:List Int,y_=(x3_1++[(Qjj l0 x8_1).f0]):=⟨_,rfl⟩
        replace H:(Qby.l0 k1 y471 l0 (l0.length:Int) (wrap64 (x8_1+1)))=some r:=by first |(rw[hy471];with_reducible exact H) |(have H2_:=(Option.bind_some _ _).symm.trans H;rw[hy471];with_reducible exact H2_) |(have H2_:=(Option.bind_some _ _).symm.trans H;with_reducible exact H2_)|with_reducible exact H |(rw[hy471];exact H)|exact H
        have Ny471:=QA hy471
        clear hy471
        have H':=QA H
        clear H
        have p469:0≤(x8_1:Int):=of_decide_eq_true qq_4
        have q469:x8_1<(l0.length:Int):=of_decide_eq_true qq_4
        obtain⟨ad469,e469,hx469_0,hx469_1⟩:=Qjk HR0.out x8_1 p469 q469
        cases e469
        replace hx469_0:=qq_h HB.out hx469_0
        replace hx469_1:=qq_h HB.out hx469_1
        replace p469:=eq_true p469
        replace q469:=eq_true q469
        go_wp2_with (first |((with_reducible refine Qfs (N:=5) rfl ?_);refine qq_e 5 #[.int .u64 0,.int .u32 0] 122 ?_;intro gb470 hg w7 hbox hb;have n0_:=QA (Kd.R_below qq_3 hb);have n1_:=QA (Qfh qq_b hb);have n2_:=QA (hbox);have n3_:=QA (qq_s hg:w.heap.size≤gb470);have n4_:=n3_;clear HO_3 HB;have HO_3:=n0_;have HB:=n1_;have BK470:=n2_;have GW470:=n3_;have GE470:=n4_;clear n0_ n1_ n2_ n3_ n4_ hb hbox hg;have hcz8_0:=qq_c (.int .u64 0) BK470.out 0 rfl;have hcz8_1:=qq_c (.int .u32 0) BK470.out 1 rfl;have hfz8_0:=Qdt BK470.out 0;have hfz8_1:=Qdt BK470.out 1) |((with_reducible refine Qio (b:=.append) (xs:=#[.tmp 16,.tmp 19]) rfl ?_);at_builtin;refine Kd.R_append (Kd.int .u64) (w0:=w) w.heap.size rfl (.tmp 16) (.tmp 19) 70 34 (.int .u64 0) 8 rfl Tryz.underlying70 Qiv rfl (by decide) (by omega) u3 x3_1 ((Qjj l0 x8_1).f0) [.int .u64 ((Qjj l0 x8_1).f0)] (fun _=>True) (fun _=>False) rfl qq_11 ?aP (fun _ hk=>hk.elim) ?aF ?aO ?aB ?aS ?aL ?_;(case aP=>exact rfl);(case aB=>exact qq_b);(case aF=>exact(fun _ _=>trivial));(case aO=>exact(by(with_reducible repeat(first|apply Kd.R_alloc|apply Kd.R_drewN|apply Kd.R_drew));exact Kd.R_mono (Kd.R_far (p:=⟨gb470,1,none⟩) (Kd.R_far (p:=⟨gb470,0,none⟩) (Kd.R_types HO_3.out BK470.out (by decide)) (fun _ hk=>hk.2) (.int .u64 ((Qjj l0 x8_1).f0))) (fun _ hk=>hk.2) (.int .u32 ((Qjj l0 x8_1).f1))) (fun _ hk=>trivial)));(case aS=>exact(Qfg qq_b));(case aL=>have:=LMc6.out;omega);intro v472 w9 ho hb hg hat;rw[← Ny471.out]at ho;have n0_:=QA (Qdu (g:=gb470) (o:=.cells #[.int .u64 ((Qjj l0 x8_1).f0),.int .u32 ((Qjj l0 x8_1).f1)] 122 (0,0)) (by(with_reducible repeat(first|apply Qeg|apply Qef|apply Qee));refine Qfn (cs:=#[.int .u64 ((Qjj l0 x8_1).f0),.int .u32 0]) ?_ 1 _ rfl;(with_reducible repeat(first|apply Qeg|apply Qef|apply Qee));refine Qfn (cs:=#[.int .u64 0,.int .u32 0]) ?_ 0 _ rfl;(with_reducible repeat(first|apply Qeg|apply Qef|apply Qee));exact BK470.out) hg (Kd.R_ne HO_3.out BK470.out (by decide)));have n1_:=QA (hb);have n2_:=QA (ho);clear BK470 HB HO_3;have BK470:=n0_;have HB:=n1_;have HO473:=n2_;clear n0_ n1_ n2_;clear ho hb hg hat))
        go_roundg k1
        case measure=>have:=HK1.out;omega
        case rel=>exact⟨(y471),(wrap64 (x8_1+1)),qq_5,H',⟨by have:=HK1.out;omega⟩,⟨by(with_reducible repeat(first|apply Kd.R_alloc|apply Kd.R_drewN|apply Kd.R_drew));exact HO473.out⟩,⟨qq_b⟩⟩
       ·rw[if_neg c6]at H
        exact absurd H (by simp)
      ·rw[if_neg c5]at H
       have c5b0:((Int.tmod x8_1 16) == 0)=false:=beq_eq_false_iff_ne.mpr c5
       have c5b1:((Int.tmod x8_1 16) != 0)=true:=bne_iff_ne.mpr c5
       have H':=QA H
       clear H
       have p469:0≤(x8_1:Int):=of_decide_eq_true qq_4
       have q469:x8_1<(l0.length:Int):=of_decide_eq_true qq_4
       obtain⟨ad469,e469,hx469_0,hx469_1⟩:=Qjk HR0.out x8_1 p469 q469
       cases e469
       replace hx469_0:=qq_h HB.out hx469_0
       replace hx469_1:=qq_h HB.out hx469_1
       replace p469:=eq_true p469
       replace q469:=eq_true q469
       go_wp2_with (first |((with_reducible refine Qfs (N:=5) rfl ?_);refine qq_e 5 #[.int .u64 0,.int .u32 0] 122 ?_;intro gb470 hg w10 hbox hb;have n0_:=QA (Kd.R_below qq_3 hb);have n1_:=QA (Qfh qq_b hb);have n2_:=QA (hbox);have n3_:=QA (qq_s hg:w.heap.size≤gb470);have n4_:=n3_;clear HO_3 HB;have HO_3:=n0_;have HB:=n1_;have BK470:=n2_;have GW470:=n3_;have GE470:=n4_;clear n0_ n1_ n2_ n3_ n4_ hb hbox hg;have hcz11_0:=qq_c (.int .u64 0) BK470.out 0 rfl;have hcz11_1:=qq_c (.int .u32 0) BK470.out 1 rfl;have hfz11_0:=Qdt BK470.out 0;have hfz11_1:=Qdt BK470.out 1))
       go_roundg k1
       case measure=>have:=HK1.out;omega
       case rel=>exact⟨(x3_1),(wrap64 (x8_1+1)),qq_5,H',⟨by have:=HK1.out;omega⟩,⟨by(with_reducible repeat(first|apply Kd.R_alloc|apply Kd.R_drewN|apply Kd.R_drew));exact Kd.R_mono (Kd.R_far (p:=⟨gb470,1,none⟩) (Kd.R_far (p:=⟨gb470,0,none⟩) (Kd.R_types HO_3.out BK470.out (by decide)) (fun _ hk=>hk.2) (.int .u64 ((Qjj l0 x8_1).f0))) (fun _ hk=>hk.2) (.int .u32 ((Qjj l0 x8_1).f1))) (fun _ hk=>trivial)⟩,⟨qq_b⟩⟩
     ·rw[if_neg c4]at H
      exact absurd H (by simp)
    ·rw[if_neg c3]at H
     exact absurd H (by simp)
   ·rw[if_neg c2]at H
    have c2b0:decide (x8_1<(l0.length:Int))=false:=decide_eq_false c2
    clear c2
    obtain rfl:=Option.some.inj H
    go_wp2
    go_ret
    exact⟨_,by first|rfl |(simp[Qis,Qit]<;>rfl) |(simp[*,Qis,Qit]<;>rfl),by(with_reducible repeat(first|apply Kd.R_alloc|apply Kd.R_drewN|apply Kd.R_drew));exact HO_3.out,qq_b⟩
def Qbz.l0:Nat→ByteArray→List Int→Int→Int→Option (ByteArray)
 | 0,_,_,_,_=>none
 | k+1,x3,x6,x7,x8=>if x8<x7 then(if 0≤x8 then(if x8<(x6.length:Int)then((Qaw.f k (rd x6 x8) 8).bind fun t468=>(if x3.size+t468.size≤9223372036854775807 then(Qbz.l0 k (x3++t468) x6 x7 (wrap64 (x8+1)))else(none)))else(none))else(none))else(some x3)
def Qbz.f(k:Nat)(l0:List Int):Option (ByteArray):=Qbz.l0 k (⟨#[]⟩:ByteArray) l0 (l0.length:Int) 0
theorem Qbz.calls(k:Nat)(A0:Option Addr)(c0:Nat)(l0:List Int)(r:ByteArray)(w:World)(hr0:Kd.C (Kd.int .u64) w A0 l0.length l0)(hc0:l0.length≤c0)(h:Qbz.f k l0=some r) :
  Calls Tryz.prog 122 #[.slice A0 l0.length c0] w fun e w'=>e=.returned (.string r)∧Below w.heap.size w w':=by
 have HR0:=QA hr0
 have HC0:=QA hc0
 clear hr0 hc0
 have HB:=QA (Below.refl w.heap.size w)
 have H:(Qbz.l0 k (⟨#[]⟩:ByteArray) l0 (l0.length:Int) 0)=some r:=h
 clear h
 have H':=QA H
 clear H
 go_enter Tryz.func122,Tryz.ntmps122
 go_wp2
 go_loopg [3,8] k (fun kq v3 v8 w'=>∃(x3_1:ByteArray) (x8_1:Int),v3=.string x3_1∧v8=.int .i64 x8_1∧Aside0 (Qbz.l0 kq x3_1 l0 (l0.length:Int) x8_1=some r)∧Aside0 (kq≤k)∧Aside0 (Below w.heap.size w w'))
 case atStart=>exact⟨((⟨#[]⟩:ByteArray)),(0),qq_5,qq_5,H',⟨Nat.le_refl _⟩,⟨qq_b⟩⟩
 case round =>
  clear H'
  obtain⟨x3_1,x8_1,rfl,rfl,HA,HK1,HB⟩:=hrel
  cases gk with
  | zero=>exact absurd HA.out (by simp[Qbz.l0])
  | succ k1 =>
   have H:=HA.out
   clear HA
   simp only[Qbz.l0]at H
   by_cases c2:x8_1<(l0.length:Int)
   ·rw [if_pos c2]at H
    have c2b0:decide (x8_1<(l0.length:Int))=true:=decide_eq_true c2
    clear c2
    by_cases c3:0≤x8_1
    ·rw[if_pos c3]at H
     have c3b0:decide (0≤x8_1)=true:=decide_eq_true c3
     clear c3
     by_cases c4:x8_1<(l0.length:Int)
     ·rw[if_pos c4]at H
      have c4b0:decide (x8_1<(l0.length:Int))=true:=decide_eq_true c4
      clear c4
      replace H:=Option.bind_eq_some_iff.mp H
      obtain⟨t468,A50,H⟩:=H
      replace H:(if x3_1.size+t468.size≤9223372036854775807 then(Qbz.l0 k1 (x3_1++t468) l0 (l0.length:Int) (wrap64 (x8_1+1)))else(none))=some r:=H
      have A5:=QA A50
      clear A50
      by_cases c6:x3_1.size+t468.size≤9223372036854775807
      ·rw[if_pos c6]at H
       have c6b0:=eq_true c6
       have c6b1:decide (x3_1.size+t468.size≤9223372036854775807)=true:=decide_eq_true c6
       try have c6b2:(9223372036854775807<x3_1.size+t468.size)=False:=eq_false (Nat.not_lt.2 c6)
       have H':=QA H
       clear H
       have p467:0≤(x8_1:Int):=of_decide_eq_true qq_4
       have q467:x8_1<(l0.length:Int):=of_decide_eq_true qq_4
       obtain⟨ad467,e467,hx467_0⟩:=Kd.at_int HR0.out x8_1 p467 q467
       cases e467
       replace hx467_0:=qq_h HB.out hx467_0
       replace p467:=eq_true p467
       replace q467:=eq_true q467
       go_wp2_with (first |((with_reducible refine Qin (f:=103) rfl ?_);refine Qgp (some 14) rfl rfl Tryz.func103 qq_6 rfl #[.int .u64 (rd l0 x8_1),.int .i64 8] rfl qq_1 ?_;(with_reducible refine(Qaw.calls k1 (rd l0 x8_1) 8 t468 _ A5.out).mono ?_);rintro e w7 ⟨rfl,hb⟩;refine⟨_,rfl,?_⟩;have n0_:=QA (Qfh qq_b hb);clear HB;have HB:=n0_;clear n0_;(try clear hb);(try clear hb2);(try clear hk);(try clear hi)))
       go_roundg k1
       case measure=>have:=HK1.out;omega
       case rel=>exact⟨(x3_1++t468),(wrap64 (x8_1+1)),qq_5,qq_5,H',⟨by have:=HK1.out;omega⟩,⟨qq_b⟩⟩
      ·rw[if_neg c6]at H
       exact absurd H (by simp)
     ·rw[if_neg c4]at H
      exact absurd H (by simp)
    ·rw[if_neg c3]at H
     exact absurd H (by simp)
   ·rw[if_neg c2]at H
    have c2b0:decide (x8_1<(l0.length:Int))=false:=decide_eq_false c2
    clear c2
    obtain rfl:=Option.some.inj H
    go_wp2
    go_ret
    exact⟨by first|rfl |(simp[Qis,Qit]<;>rfl) |(simp[*,Qis,Qit]<;>rfl),qq_b⟩
def Qcb.l0:Nat→List Int→Int→Int→Option (ByteArray)
 | 0,_,_,_=>none
 | k+1,x3,x9,x10=>if x10<x9 then(if 0≤x10 then(if x10<(x3.length:Int)then(Qcb.l0 k (x3.set (x10:Int).toNat 255) x9 (wrap64 (x10+1)))else(none))else(none))else(some (strOfNums x3))
def Qcb.f(k:Nat)(a0:Int):Option (ByteArray):=if 0≤(mx 0 a0)then(if(mx 0 a0:Int).toNat≤281474976710656 then((some (List.replicate (mx 0 a0:Int).toNat 0:List Int)).bind fun y483=>(Qcb.l0 k y483 (y483.length:Int) 0))else(none))else(none)
theorem Qcb.calls (k:Nat) (a0:Int) (r:ByteArray) (w:World) (h:Qcb.f k a0=some r) :
  Calls Tryz.prog 72 #[.int .i64 a0] w fun e w'=>e=.returned (.string r)∧Below w.heap.size w w':=by
 have HB:=QA (Below.refl w.heap.size w)
 have H:(if 0≤(mx 0 a0)then(if(mx 0 a0:Int).toNat≤281474976710656 then((some (List.replicate (mx 0 a0:Int).toNat 0:List Int)).bind fun y483=>(Qcb.l0 k y483 (y483.length:Int) 0))else(none))else(none))=some r:=h
 clear h
 obtain⟨ji2,hji2⟩:∃j_:Int,(mx 0 a0)=j_:=⟨_,rfl⟩
 replace H:(if 0≤(ji2)then(if(ji2:Int).toNat≤281474976710656 then((some (List.replicate (ji2:Int).toNat 0:List Int)).bind fun y483=>(Qcb.l0 k y483 (y483.length:Int) 0))else(none))else(none))=some r:=by first |(rw[hji2]at H;exact H) |(simp only[hji2]at H ⊢;exact H)
 (try(have hji2l:0≤ji2:=by(rw[← hji2];unfold mx;(repeat' split)<;>omega)))
 (try(have hji2m:0≤ji2:=by omega))
 have hji2_:(if 0<a0 then a0 else 0)=ji2:=hji2
 by_cases c3:0≤(ji2)
 ·rw [if_pos c3]at H
  have c3b0:=eq_true c3
  have c3b1:decide (0≤(ji2))=true:=decide_eq_true c3
  clear c3
  by_cases c4:(ji2:Int).toNat≤281474976710656
  ·rw [if_pos c4]at H
   have c4b0:=eq_true c4
   have c4b1:decide ((ji2:Int).toNat≤281474976710656)=true:=decide_eq_true c4
   clear c4
   obtain⟨y483,hy483⟩:∃y_:List Int,y_=(List.replicate (ji2:Int).toNat 0):=⟨_,rfl⟩
   replace H:(Qcb.l0 k y483 (y483.length:Int) 0)=some r:=by first |(rw[hy483];with_reducible exact H) |(have H2_:=(Option.bind_some _ _).symm.trans H;rw[hy483];with_reducible exact H2_) |(have H2_:=(Option.bind_some _ _).symm.trans H;with_reducible exact H2_)|with_reducible exact H |(rw[hy483];exact H)|exact H
   have Ny483:=QA hy483
   clear hy483
   have H':=QA H
   clear H
   go_enter Tryz.func72,Tryz.ntmps72
   go_wp2_with (first |((with_reducible refine Qfs (N:=7) rfl ?_);refine Kd.R_make (Kd.int .u8) _ 5 rfl (N:=7) rfl 52 _ _ rfl ji2 rfl rfl Tryz.underlying52 (.int .u8 0) 1 Qiu rfl (by decide) (by omega) 0 (ok:=fun _=>True) (okp:=fun _=>True) rfl (fun _ hk=>hk) trivial (of_decide_eq_true qq_4) (Nat.le_trans (Nat.mul_le_mul_right _ (of_decide_eq_true qq_4:ji2.toNat≤281474976710656)) (by omega)) (Below.refl _ _) (Nat.le_refl _) ?_;intro v484 w5 ho6 hb hg_ hnew_;clear hg_ hnew_;(first|rw[← Ny483.out]at ho6 |(simp only[Int.reduceToNat]at ho6;rw[← Ny483.out]at ho6));have n0_:=QA (Kd.R_lower ho6 (Qfg qq_b));have n1_:=QA (Qfh qq_b hb);clear HB;have HO485:=n0_;have HB:=n1_;clear n0_ n1_ hb ho6;obtain⟨Ao7,co7,eo7⟩:=Kd.R_slice HO485.out;subst eo7))
   go_loopg [10] k (fun kq v10 w'=>∃(x3_1:List Int) (x10_1:Int),v10=.int .i64 x10_1∧Aside0 (Qcb.l0 kq x3_1 (y483.length:Int) x10_1=some r)∧Aside0 (kq≤k)∧Aside0 (Kd.R (Kd.int .u8) 5 w' w.heap.size (fun _=>True) (.slice Ao7 y483.length co7) x3_1)∧Aside0 (Below w.heap.size w w'))
   case atStart=>exact⟨(y483),(0),qq_5,H',⟨Nat.le_refl _⟩,⟨by(with_reducible repeat(first|apply Kd.R_alloc|apply Kd.R_drewN|apply Kd.R_drew));exact HO485.out⟩,⟨qq_b⟩⟩
   case round =>
    clear H'
    try clear c3
    try clear c3b0
    try clear c3b1
    try clear c4
    try clear c4b0
    try clear c4b1
    obtain⟨x3_1,x10_1,rfl,HA,HK1,HO_3,HB⟩:=hrel
    have hl3_1:=(Kd.R_reads' HO_3.out).1
    rw[hl3_1]at HO_3
    (try simp only[hl3_1])
    cases gk with
    | zero=>exact absurd HA.out (by simp[Qcb.l0])
    | succ k1 =>
     have H:=HA.out
     clear HA
     simp only[Qcb.l0]at H
     by_cases c8:x10_1<(y483.length:Int)
     ·rw[if_pos c8]at H
      have c8b0:decide (x10_1<(y483.length:Int))=true:=decide_eq_true c8
      clear c8
      by_cases c9:0≤x10_1
      ·rw[if_pos c9]at H
       have c9b0:decide (0≤x10_1)=true:=decide_eq_true c9
       clear c9
       by_cases c10:x10_1<(x3_1.length:Int)
       ·rw[if_pos c10]at H
        have c10b0:decide (x10_1<(x3_1.length:Int))=true:=decide_eq_true c10
        clear c10
        obtain⟨y486,hy486⟩:∃y_:List Int,y_=(x3_1.set (x10_1:Int).toNat 255):=⟨_,rfl⟩
        replace H:(Qcb.l0 k1 y486 (y483.length:Int) (wrap64 (x10_1+1)))=some r:=by first |(rw[hy486];with_reducible exact H) |(have H2_:=(Option.bind_some _ _).symm.trans H;rw[hy486];with_reducible exact H2_) |(have H2_:=(Option.bind_some _ _).symm.trans H;with_reducible exact H2_)|with_reducible exact H |(rw[hy486];exact H)|exact H
        have Ny486:=QA hy486
        clear hy486
        have H':=QA H
        clear H
        have p11:0≤(x10_1:Int):=of_decide_eq_true qq_4
        have q11:(x10_1:Int)<((x3_1.length:Int):Int):=of_decide_eq_true qq_4
        obtain⟨go11,co11,eo11,gb11,gl11,cl11,HG11⟩:=Kd.R_form HO_3.out (by omega)
        (first|cases eo11 |(injection eo11 with ea_ en_ ec_;(first|subst ea_ |(injection ea_ with ea_;subst ea_));subst ec_;clear en_))
        have GB11:=QA gb11
        have GG11:=QA HG11
        clear gb11 gl11 HG11
        obtain⟨hx11_0,hf11_0⟩:=Kd.R_celln 0 HO_3.out (x10_1:Int) p11 q11
        replace p11:=eq_true p11
        replace q11:=eq_true q11
        have HP12:=Kd.R_putg HO_3.out (x10_1:Int) 255
        go_wp2_with (first |((with_reducible refine Qft (t:=5) (p:=15) rfl ?_);refine Qfr (t:=5) (p:=15) (v:=?vo_w13) (w1:=(wr.setCell ⟨go11,(x10_1:Int).toNat,none⟩ (.int .u8 255))) ?hg ?ho ?hn ?hr ?_;(case ho=>rfl);(case hg=>rfl);(case hn=>rfl);(case hr=>exact qq_11);intro w13 hw;have hg:wr.grownBy w13 (some go11):=(by rw[hw];exact HP12.2);have hp_:Kd.R (Kd.int .u8) 5 w13 w.heap.size (fun _=>True) (.slice (some ⟨go11,0,none⟩) x3_1.length co7) y486:=(by rw[hw,Ny486.out];exact HP12.1);clear HP12;have n0_:=QA (hp_);have n1_:=QA ((by rw[hw];exact Qfj (HB.out) GB11.out:Below w.heap.size w w13));clear HO_3 HB;have HO_3:=n0_;have HB:=n1_;clear n0_ n1_;clear hg hw hp_))
        (try simp only[← hl3_1])
        go_roundg k1
        case measure=>have:=HK1.out;omega
        case rel=>exact⟨(y486),(wrap64 (x10_1+1)),qq_5,H',⟨by have:=HK1.out;omega⟩,⟨by(try simp only[hl3_1]);(with_reducible repeat(first|apply Kd.R_alloc|apply Kd.R_drewN|apply Kd.R_drew));exact HO_3.out⟩,⟨qq_b⟩⟩
       ·rw[if_neg c10]at H
        exact absurd H (by simp)
      ·rw[if_neg c9]at H
       exact absurd H (by simp)
     ·rw[if_neg c8]at H
      have c8b0:decide (x10_1<(y483.length:Int))=false:=decide_eq_false c8
      first |(have c8b9:=c8b0;simp only[hl3_1]at c8b9)|skip
      clear c8
      obtain rfl:=Option.some.inj H
      have hcv14:=Qdd (P:=Tryz.prog) Tryz.underlying52 Tryz.underlying5 Tryz.underlying9 (Kd.own_of_R HO_3.out)
      go_wp2
      go_ret
      exact⟨by first|rfl |(simp[Qis,Qit]<;>rfl) |(simp only[← hji2];first|rfl |(simp[Qis,Qit]<;>rfl)) |(simp[*,Qis,Qit]<;>rfl),qq_b⟩
  ·rw[if_neg c4]at H
   exact absurd H (by simp)
 ·rw[if_neg c3]at H
  exact absurd H (by simp)
def Qap.f(a0_0:Int)(a0_1:Int):Option (Int):=(Qao.f a0_0 a0_1).bind fun t113=>(if t113=0 then(if 0≤a0_0 then(some (shl .i64 1 a0_0))else(none))else(some 0))
theorem Qap.calls(a0_0:Int)(a0_1:Int)(r:Int)(w:World)(h:Qap.f a0_0 a0_1=some r) :
  Calls Tryz.prog 78 #[.agg #[.int .u8 a0_0,.int .u32 a0_1]] w fun e w'=>e=.returned (.int .i64 r)∧Below w.heap.size w w':=by
 have hu27:=Tryz.underlying27
 have HB:=QA (Below.refl w.heap.size w)
 have H:((Qao.f a0_0 a0_1).bind fun t113=>(if t113=0 then(if 0≤a0_0 then(some (shl .i64 1 a0_0))else(none))else(some 0)))=some r:=h
 clear h
 replace H:=Option.bind_eq_some_iff.mp H
 obtain⟨t113,A20,H⟩:=H
 replace H:(if t113=0 then(if 0≤a0_0 then(some (shl .i64 1 a0_0))else(none))else(some 0))=some r:=H
 have A2:=QA A20
 clear A20
 by_cases c3:t113=0
 ·rw[if_pos c3]at H
  have c3b0:(t113 == 0)=true:=beq_iff_eq.mpr c3
  have c3b1:(t113 != 0)=false:=bne_eq_false_iff_eq.mpr c3
  clear c3
  by_cases c4:0≤a0_0
  ·rw[if_pos c4]at H
   have c4b0:=eq_true c4
   have c4b1:decide (0≤a0_0)=true:=decide_eq_true c4
   clear c4
   obtain⟨ji5,hji5⟩:∃j_:Int,(shl .i64 1 a0_0)=j_:=⟨_,rfl⟩
   replace H:(some ji5)=some r:=by first |(rw[hji5]at H;exact H) |(simp only[hji5]at H ⊢;exact H)
   (try rw[hji5]at A2)
   have hji5_:(IntKind.i64.wrap (1*2^min a0_0.toNat 64))=ji5:=hji5
   have hji5z:a0_0≤64→(IntKind.i64.wrap (1*2^a0_0.toNat))=ji5:=Qip hji5
   have hji5u:(IntKind.i64.wrap (2^min a0_0.toNat 64))=ji5:=by have h_:=hji5_;rw[Int.one_mul]at h_;exact h_
   have hji5v:a0_0≤64→(IntKind.i64.wrap (2^a0_0.toNat))=ji5:=fun hle_=>by have h_:=hji5z hle_;rw[Int.one_mul]at h_;exact h_
   have hji5y:(wrap64 (1*2^min a0_0.toNat 64))=ji5:=(Qgr _).symm.trans hji5_
   have hji5x:a0_0≤64→(wrap64 (1*2^a0_0.toNat))=ji5:=fun h_=>(Qgr _).symm.trans (hji5z h_)
   obtain rfl:=Option.some.inj H
   go_enter Tryz.func78,Tryz.ntmps78
   go_wp2_with (first |((with_reducible refine Qfs (N:=1) rfl ?_);refine qq_e 1 #[.int .u8 a0_0,.int .u32 a0_1] 27 ?_;intro gb112 hg w6 hbox hb;have n0_:=QA (Qfh qq_b hb);have n1_:=QA (hbox);have n2_:=QA (qq_s hg:w.heap.size≤gb112);have n3_:=n2_;clear HB;have HB:=n0_;have BK112:=n1_;have GW112:=n2_;have GE112:=n3_;clear n0_ n1_ n2_ n3_ hb hbox hg;have hcz7_0:=qq_c (.int .u8 a0_0) BK112.out 0 rfl;have hcz7_1:=qq_c (.int .u32 a0_1) BK112.out 1 rfl;have hfz7_0:=Qdt BK112.out 0;have hfz7_1:=Qdt BK112.out 1) |((with_reducible refine Qin (f:=85) rfl ?_);refine Qgp (some 4) rfl rfl Tryz.func85 qq_6 rfl #[.agg #[.int .u8 a0_0,.int .u32 a0_1]] rfl qq_1 ?_;(with_reducible refine(Qao.calls a0_0 a0_1 t113 _ A2.out).mono ?_);rintro e w8 ⟨rfl,hb⟩;refine⟨_,rfl,?_⟩;have n0_:=QA (Qeh (g:=gb112) (o:=.cells #[.int .u8 a0_0,.int .u32 a0_1] 27 (0,0)) qq_0 hb);have n1_:=QA (Qfh qq_b hb);clear BK112 HB;have BK112:=n0_;have HB:=n1_;clear n0_ n1_;(try clear hb);(try clear hb2);(try clear hk);(try clear hi);have hcz9_0:=qq_c (.int .u8 a0_0) BK112.out 0 rfl;have hcz9_1:=qq_c (.int .u32 a0_1) BK112.out 1 rfl;have hfz9_0:=Qdt BK112.out 0;have hfz9_1:=Qdt BK112.out 1))
   go_ret
   exact⟨by first|rfl |(simp[Qis,Qit]<;>rfl) |(simp only[← hji5];first|rfl |(simp[Qis,Qit]<;>rfl)) |(simp[*,Qis,Qit]<;>rfl),qq_b⟩
  ·rw[if_neg c4]at H
   exact absurd H (by simp)
 ·rw[if_neg c3]at H
  have c3b0:(t113 == 0)=false:=beq_eq_false_iff_ne.mpr c3
  have c3b1:(t113 != 0)=true:=bne_iff_ne.mpr c3
  obtain rfl:=Option.some.inj H
  go_enter Tryz.func78,Tryz.ntmps78
  go_wp2_with (first |((with_reducible refine Qfs (N:=1) rfl ?_);refine qq_e 1 #[.int .u8 a0_0,.int .u32 a0_1] 27 ?_;intro gb112 hg w10 hbox hb;have n0_:=QA (Qfh qq_b hb);have n1_:=QA (hbox);have n2_:=QA (qq_s hg:w.heap.size≤gb112);have n3_:=n2_;clear HB;have HB:=n0_;have BK112:=n1_;have GW112:=n2_;have GE112:=n3_;clear n0_ n1_ n2_ n3_ hb hbox hg;have hcz11_0:=qq_c (.int .u8 a0_0) BK112.out 0 rfl;have hcz11_1:=qq_c (.int .u32 a0_1) BK112.out 1 rfl;have hfz11_0:=Qdt BK112.out 0;have hfz11_1:=Qdt BK112.out 1) |((with_reducible refine Qin (f:=85) rfl ?_);refine Qgp (some 4) rfl rfl Tryz.func85 qq_6 rfl #[.agg #[.int .u8 a0_0,.int .u32 a0_1]] rfl qq_1 ?_;(with_reducible refine(Qao.calls a0_0 a0_1 t113 _ A2.out).mono ?_);rintro e w12 ⟨rfl,hb⟩;refine⟨_,rfl,?_⟩;have n0_:=QA (Qeh (g:=gb112) (o:=.cells #[.int .u8 a0_0,.int .u32 a0_1] 27 (0,0)) qq_0 hb);have n1_:=QA (Qfh qq_b hb);clear BK112 HB;have BK112:=n0_;have HB:=n1_;clear n0_ n1_;(try clear hb);(try clear hb2);(try clear hk);(try clear hi)))
  go_ret
  exact⟨by first|rfl |(simp[Qis,Qit]<;>rfl) |(simp[*,Qis,Qit]<;>rfl),qq_b⟩
def Qcf.f(a0:Int):Option (Int):=some (wrap64 (Int.tdiv (wrap64 ((wrap64 ((mx 0 a0)+16))-1)) 16))
theorem Qcf.calls(a0:Int)(r:Int)(w:World)(h:Qcf.f a0=some r) :
  Calls Tryz.prog 183 #[.int .i64 a0] w fun e w'=>e=.returned (.int .i64 r)∧Below w.heap.size w w':=by
 have HB:=QA (Below.refl w.heap.size w)
 have H:(some (wrap64 (Int.tdiv (wrap64 ((wrap64 ((mx 0 a0)+16))-1)) 16)))=some r:=h
 clear h
 obtain⟨ji2,hji2⟩:∃j_:Int,(mx 0 a0)=j_:=⟨_,rfl⟩
 replace H:(some (wrap64 (Int.tdiv (wrap64 ((wrap64 ((ji2)+16))-1)) 16)))=some r:=by first |(rw[hji2]at H;exact H) |(simp only[hji2]at H ⊢;exact H)
 (try(have hji2l:0≤ji2:=by(rw[← hji2];unfold mx;(repeat' split)<;>omega)))
 (try(have hji2m:0≤ji2:=by omega))
 have hji2_:(if 0<a0 then a0 else 0)=ji2:=hji2
 obtain rfl:=Option.some.inj H
 go_enter Tryz.func183,Tryz.ntmps183
 go_wp2
 go_ret
 exact⟨by first|rfl |(simp[Qis,Qit]<;>rfl) |(simp only[← hji2];first|rfl |(simp[Qis,Qit]<;>rfl)) |(simp[*,Qis,Qit]<;>rfl),qq_b⟩
def pack_Room_Left.T1:Bool × List (List Nat × List Nat):=(true,[([],[]),([0],[0]),([1],[1]),([],[]),([3],[3]),([2,4],[2,4]),([],[]),([6],[6]),([7],[7]),([8,2],[8]),([5,9],[5,9]),([10],[10]),([11,9,0,1,2,3,4,5,6,7,8,9,10,11],[11])])
def pack_Room_Left.B1:List Nat:=[0,1,3,0,8,31,0,64,192,455,1023,2047,4095]
def Qab.f(a0:Int)(a1:Int):Option (Int × Int):=some (IntKind.u64.wrap ((IntKind.u64.wrap ((IntKind.u64.wrap ((a0/4294967296)*(a1/4294967296)))+((IntKind.u64.wrap ((IntKind.u64.wrap ((a0/4294967296)*(Go.bits .and .u64 a1 4294967295)))+((IntKind.u64.wrap ((Go.bits .and .u64 a0 4294967295)*(Go.bits .and .u64 a1 4294967295)))/4294967296)))/4294967296)))+((IntKind.u64.wrap ((Go.bits .and .u64 (IntKind.u64.wrap ((IntKind.u64.wrap ((a0/4294967296)*(Go.bits .and .u64 a1 4294967295)))+((IntKind.u64.wrap ((Go.bits .and .u64 a0 4294967295)*(Go.bits .and .u64 a1 4294967295)))/4294967296))) 4294967295)+(IntKind.u64.wrap ((Go.bits .and .u64 a0 4294967295)*(a1/4294967296)))))/4294967296)),IntKind.u64.wrap (a0*a1))
theorem Qab.calls(a0:Int)(a1:Int)(r1:Int)(r2:Int)(w:World)(h:Qab.f a0 a1=some (r1,r2)) :
  Calls Tryz.prog 218 #[.int .u64 a0,.int .u64 a1] w fun e w'=>e=.returned (.tuple #[.int .u64 r1,.int .u64 r2])∧Drawn0 w w':=by
 have H:(some (IntKind.u64.wrap ((IntKind.u64.wrap ((IntKind.u64.wrap ((a0/4294967296)*(a1/4294967296)))+((IntKind.u64.wrap ((IntKind.u64.wrap ((a0/4294967296)*(Go.bits .and .u64 a1 4294967295)))+((IntKind.u64.wrap ((Go.bits .and .u64 a0 4294967295)*(Go.bits .and .u64 a1 4294967295)))/4294967296)))/4294967296)))+((IntKind.u64.wrap ((Go.bits .and .u64 (IntKind.u64.wrap ((IntKind.u64.wrap ((a0/4294967296)*(Go.bits .and .u64 a1 4294967295)))+((IntKind.u64.wrap ((Go.bits .and .u64 a0 4294967295)*(Go.bits .and .u64 a1 4294967295)))/4294967296))) 4294967295)+(IntKind.u64.wrap ((Go.bits .and .u64 a0 4294967295)*(a1/4294967296)))))/4294967296)),IntKind.u64.wrap (a0*a1)))=some (r1,r2):=h
 clear h
 simp only[Option.some.injEq,Prod.mk.injEq]at H
 obtain⟨rfl,rfl⟩:=H
 go_enter Tryz.func218,Tryz.ntmps218
 go_wp2
 go_ret2
 exact⟨by first|rfl |(simp;done) |(simp[*];done),by repeat(first|exact Drawn0.refl _|apply Drawn0.step)⟩
def Qaa.f(a0:Int)(a1:Int):Option (Int × Int):=(Qab.f a0 a1).bind fun bt114=>(some (bt114.1,bt114.2))
theorem Qaa.calls(a0:Int)(a1:Int)(r1:Int)(r2:Int)(w:World)(h:Qaa.f a0 a1=some (r1,r2)) :
  Calls Tryz.prog 168 #[.int .u64 a0,.int .u64 a1] w fun e w'=>e=.returned (.tuple #[.int .u64 r1,.int .u64 r2])∧Drawn0 w w':=by
 have H:((Qab.f a0 a1).bind fun bt114=>(some (bt114.1,bt114.2)))=some (r1,r2):=h
 clear h
 replace H:=Option.bind_eq_some_iff.mp H
 obtain⟨⟨t114,t115⟩,A30,H⟩:=H
 replace H:(some (t114,t115))=some (r1,r2):=H
 have A3:=QA A30
 clear A30
 simp only[Option.some.injEq,Prod.mk.injEq]at H
 obtain⟨rfl,rfl⟩:=H
 go_enter Tryz.func168,Tryz.ntmps168
 go_wp2_with (first |((with_reducible refine Qin (f:=218) rfl ?_);refine Qgp (some 25) rfl rfl Tryz.func218 qq_6 rfl #[.int .u64 a0,.int .u64 a1] rfl qq_1 ?_;(with_reducible refine(Qab.calls a0 a1 t114 t115 _ A3.out).mono ?_);rintro e w' ⟨rfl,⟨nd,rfl⟩⟩;refine⟨_,rfl,?_⟩))
 go_ret2
 exact⟨by first|rfl |(simp;done) |(simp[*];done),by repeat(first|exact Drawn0.refl _|apply Drawn0.step)⟩
end Go.Proofs.YtnnofopfbeklbaaGreat.C
end
