/- Texts of this claim's author and of the print of its functions, merged by merge.py. -/
import Derived.Test.YtnnofopfbeklbaaGreatMH02
import Derived.Test.YtnnofopfbeklbaaGreatMH09
import Derived.Test.YtnnofopfbeklbaaGreatMH07
import Derived.Test.YtnnofopfbeklbaaGreatMH04
set_option linter.unusedVariables false
set_option linter.unusedSimpArgs false
set_option maxHeartbeats 8000000
set_option maxRecDepth 100000
section
namespace Go.Proofs.YtnnofopfbeklbaaGreat.C
open Go.RowKit Go.Proofs.YtnnofopfbeklbaaGreatW.PrintWords Go.Proofs.YtnnofopfbeklbaaGreatW.PrintLast Go.Proofs.YtnnofopfbeklbaaGreatW.PrintMore
attribute [local go_sem] Qif Qig Qih Qii Qij Qik Qil Qim
def Qcq.l0:Nat→List (S117)→Int→Option (Bool)
 | 0,_,_=>none
 | k+1,x0,x3=>if x3<(x0.length:Int)then(if 0≤(wrap64 (x3-1))then(if(wrap64 (x3-1))<(x0.length:Int)then(if 0≤x3 then((Qco.f k ((Qjf x0 (wrap64 (x3-1))).f0) ((Qjf x0 (wrap64 (x3-1))).f1) ((Qjf x0 x3).f0) ((Qjf x0 x3).f1)).bind fun t225=>(if t225≥0 then(some false)else(Qcq.l0 k x0 (wrap64 (x3+1)))))else(none))else(none))else(none))else(some true)
def Qcq.f(k:Nat)(l0:List (S117)):Option (Bool):=Qcq.l0 k l0 1
theorem Qcq.mono_l:∀k,(∀y0 y1,LeO (Qcq.l0 k y0 y1) (Qcq.l0 (k+1) y0 y1))
 | 0=>fun _ _ r h=>by simp[Qcq.l0]at h
 | k+1=>by
  have ih0:=Qcq.mono_l k
  ·intro y0 y1
   unfold Qcq.l0
   repeat' first
   |(with_reducible exact ih0 _ _)
   |(with_reducible exact Qco.mono _ _ _ _ _)
   |(with_reducible exact LeO.refl _)
   |(with_reducible exact LeO.none _)
   |(with_reducible refine LeO.ite ?_ ?_)
   |(with_reducible refine LeO.bind ?_ (fun _=>?_))
   | exact ih0 _ _
   | exact Qco.mono _ _ _ _ _
   | exact LeO.none _
   | refine LeO.ite ?_ ?_
   | refine LeO.bind ?_ (fun _=>?_)
theorem Qcq.mono:∀a0 k,LeO (Qcq.f k a0) (Qcq.f (k+1) a0):=by
 intro a0 k
 have ih0:=Qcq.mono_l k
 unfold Qcq.f
 repeat' first
   |(with_reducible exact ih0 _ _)
   |(with_reducible exact Qco.mono _ _ _ _ _)
   |(with_reducible exact LeO.refl _)
   |(with_reducible exact LeO.none _)
   |(with_reducible refine LeO.ite ?_ ?_)
   |(with_reducible refine LeO.bind ?_ (fun _=>?_))
   | exact ih0 _ _
   | exact Qco.mono _ _ _ _ _
   | exact LeO.none _
   | refine LeO.ite ?_ ?_
   | refine LeO.bind ?_ (fun _=>?_)
def Qcq.T4:Bool × List (List Nat × List Nat):=(true,[([],[]),([],[]),([1],[1]),([0,2],[0,2]),([3],[3]),([],[]),([],[]),([5,6],[5,6]),([7],[7]),([4,8],[4,8]),([9],[9])])
def Qcq.B4:List Nat:=[0,0,2,7,15,0,0,96,224,511,1023]
theorem Qcq.tab4:rtab .any (Qhx Tryz.f160 4)=Qcq.T4:=by kernel_rfl
theorem Qcq.bits4:Qhr Qcq.T4.2 Qcq.B4=true:=by kernel_rfl
theorem Qcq.calls (k:Nat) (A0:Option Addr) (c0:Nat) (l0:List (S117)) (r:Bool) (w:World) (hr0:Kd.C k117 w A0 l0.length l0) (hc0:l0.length≤c0) (h:Qcq.f k l0=some r) :
  Calls Tryz.prog 160 #[.slice A0 l0.length c0] w fun e w'=>e=.returned (.bool r)∧Below w.heap.size w w':=by
 have hu117:=Tryz.underlying117
 have HR0:=QA hr0
 have HC0:=QA hc0
 clear hr0 hc0
 have HB:=QA (Below.refl w.heap.size w)
 have H:(Qcq.l0 k l0 1)=some r:=h
 clear h
 have H':=QA H
 clear H
 go_enter Tryz.func160,Tryz.ntmps160
 go_wp2
 go_loopg [3] k (fun kq v3 w'=>∃(x3_1:Int),v3=.int .i64 x3_1∧Aside0 (Qcq.l0 kq l0 x3_1=some r)∧Aside0 (kq≤k)∧Aside0 (Below w.heap.size w w'))
 case atStart=>exact⟨(1),qq_5,H',⟨Nat.le_refl _⟩,⟨qq_b⟩⟩
 case round =>
  clear H'
  obtain⟨x3_1,rfl,HA,HK1,HB⟩:=hrel
  cases gk with
  | zero=>exact absurd HA.out (by simp[Qcq.l0])
  | succ k1 =>
   have H:=HA.out
   clear HA
   simp only[Qcq.l0]at H
   by_cases c2:x3_1<(l0.length:Int)
   ·rw [if_pos c2]at H
    have c2b0:decide (x3_1<(l0.length:Int))=true:=decide_eq_true c2
    clear c2
    obtain⟨ji3,hji3⟩:∃j_:Int,(wrap64 (x3_1-1))=j_:=⟨_,rfl⟩
    replace H:(if 0≤(ji3)then(if(ji3)<(l0.length:Int)then(if 0≤x3_1 then((Qco.f k1 ((Qjf l0 (ji3)).f0) ((Qjf l0 (ji3)).f1) ((Qjf l0 x3_1).f0) ((Qjf l0 x3_1).f1)).bind fun t225=>(if t225≥0 then(some false)else(Qcq.l0 k1 l0 (wrap64 (x3_1+1)))))else(none))else(none))else(none))=some r:=by first |(rw[hji3]at H;exact H) |(simp only[hji3]at H ⊢;exact H)
    have hji3w:(IntKind.i64.wrap (x3_1-1))=ji3:=(Qgr _).trans hji3
    by_cases c4:0≤(ji3)
    ·rw [if_pos c4]at H
     have c4b0:decide (0≤(ji3))=true:=decide_eq_true c4
     clear c4
     by_cases c5:(ji3)<(l0.length:Int)
     ·rw [if_pos c5]at H
      have c5b0:decide ((ji3)<(l0.length:Int))=true:=decide_eq_true c5
      clear c5
      by_cases c6:0≤x3_1
      ·rw[if_pos c6]at H
       have c6b0:decide (0≤x3_1)=true:=decide_eq_true c6
       clear c6
       replace H:=Option.bind_eq_some_iff.mp H
       obtain⟨t225,A70,H⟩:=H
       replace H:(if t225≥0 then(some false)else(Qcq.l0 k1 l0 (wrap64 (x3_1+1))))=some r:=H
       have A7:=QA A70
       clear A70
       by_cases c8:t225≥0
       ·rw[if_pos c8]at H
        have c8b0:decide (0≤t225)=true:=decide_eq_true c8
        clear c8
        obtain rfl:=Option.some.inj H
        try go_wp2
        have n0_:=QA (Qfo HB.out)
        clear HB
        have HB:=n0_
        clear n0_
        have p223:0≤((ji3):Int):=of_decide_eq_true qq_4
        have q223:(ji3)<(l0.length:Int):=of_decide_eq_true qq_4
        obtain⟨ad223,e223,hx223_0,hx223_1⟩:=Qjg HR0.out (ji3) p223 q223
        have hw223_1:=hx223_1
        have hw223_0:=hx223_0
        cases e223
        replace hx223_0:=qq_h HB.out hx223_0
        replace hx223_1:=qq_h HB.out hx223_1
        replace p223:=eq_true p223
        replace q223:=eq_true q223
        have p224:0≤(x3_1:Int):=of_decide_eq_true qq_4
        have q224:x3_1<(l0.length:Int):=of_decide_eq_true qq_4
        obtain⟨ad224,e224,hx224_0,hx224_1⟩:=Qjg HR0.out x3_1 p224 q224
        have hw224_1:=hx224_1
        have hw224_0:=hx224_0
        obtain rfl:ad223=ad224:=(by injection e224)
        replace hx224_0:=qq_h HB.out hx224_0
        replace hx224_1:=qq_h HB.out hx224_1
        replace p224:=eq_true p224
        replace q224:=eq_true q224
        refine Qge (n:=11) (S:=fun w'=>w'.cell? (ad223.add (((ji3)).toNat*2))=some (.int .u64 ((Qjf l0 (ji3)).f0))∧w'.cell? ⟨(ad223.add (((ji3)).toNat*2)).block,(ad223.add (((ji3)).toNat*2)).off+1,none⟩=some (.int .u32 ((Qjf l0 (ji3)).f1))∧w'.cell? (ad223.add ((x3_1).toNat*2))=some (.int .u64 ((Qjf l0 x3_1).f0))∧w'.cell? ⟨(ad223.add ((x3_1).toNat*2)).block,(ad223.add ((x3_1).toNat*2)).off+1,none⟩=some (.int .u32 ((Qjf l0 x3_1).f1))) (ds:=[]) #[false,false,false,false,false,false,false,false,false,false,false] qq_6 rfl rfl ⟨((HB.out.cell (World.block_lt_of_cell? w _ hw223_0)).trans hw223_0),((HB.out.cell (World.block_lt_of_cell? w _ hw223_1)).trans hw223_1),((HB.out.cell (World.block_lt_of_cell? w _ hw224_0)).trans hw224_0),((HB.out.cell (World.block_lt_of_cell? w _ hw224_1)).trans hw224_1)⟩ (fun hHeld=>?_);refine Qhv Qcq.tab4 Qcq.bits4 (fun HT_ HW_=>?_)
        generalize wr.drew=w9 at HB hx223_0 hx223_1 hx224_0 hx224_1 hHeld ⊢
        refine Qgh (i:=0) (N:=some 10) (v:=?_) (a':=?_) #[true,false,false,false,false,false,false,false,false,false,false] rfl rfl (Qhn HT_.out qq_6) (fun _ _ _ h=>h) (Or.inl ⟨by rfl,?_⟩) ?_ ?_
        rotate_left
        ·intro w'
         go_simp
         with_reducible rfl
        rotate_left
        ·exact qq_2
        refine Qgh (i:=1) (N:=some 11) (v:=?_) (a':=?_) #[true,true,false,false,false,false,false,false,false,false,false] rfl rfl (Qhn HT_.out qq_6) (fun _ _ _ h=>h) (Or.inl ⟨by rfl,?_⟩) ?_ ?_
        rotate_left
        ·intro w'
         go_simp
         with_reducible rfl
        rotate_left
        ·exact qq_2
        refine Qgh (i:=2) (N:=some 12) (v:=?_) (a':=?_) #[true,true,true,false,false,false,false,false,false,false,false] rfl rfl (Qhn HT_.out qq_6) (fun _ _ _ h=>h) (Or.inl ⟨by rfl,?_⟩) ?_ ?_
        rotate_left
        ·intro w'
         go_simp
         with_reducible rfl
        rotate_left
        ·exact qq_2
        refine Qgh (i:=3) (N:=some 13) (v:=?_) (a':=?_) #[true,true,true,true,false,false,false,false,false,false,false] rfl rfl (Qhn HT_.out qq_6) (fun _ _ _ h=>h) (Or.inl ⟨by rfl,?_⟩) ?_ ?_
        rotate_left
        ·intro w'
         go_simp
         with_reducible rfl
        rotate_left
        ·exact qq_2
        refine Qgh (i:=5) (N:=some 15) (v:=?_) (a':=?_) #[true,true,true,true,false,true,false,false,false,false,false] rfl rfl (Qhn HT_.out qq_6) (fun _ _ _ h=>h) (Or.inl ⟨by rfl,?_⟩) ?_ ?_
        rotate_left
        ·intro w'
         go_simp
         with_reducible rfl
        rotate_left
        ·exact qq_2
        refine Qgh (i:=6) (N:=some 16) (v:=?_) (a':=?_) #[true,true,true,true,false,true,true,false,false,false,false] rfl rfl (Qhn HT_.out qq_6) (fun _ _ _ h=>h) (Or.inl ⟨by rfl,?_⟩) ?_ ?_
        rotate_left
        ·intro w'
         go_simp
         with_reducible rfl
        rotate_left
        ·exact qq_2
        refine Qgh (i:=7) (N:=some 17) (v:=?_) (a':=?_) #[true,true,true,true,false,true,true,true,false,false,false] rfl rfl (Qhn HT_.out qq_6) (fun _ _ _ h=>h) (Or.inl ⟨by rfl,?_⟩) ?_ ?_
        rotate_left
        ·intro w'
         go_simp
         with_reducible rfl
        rotate_left
        ·exact qq_2
        refine Qgg (i:=4) (N:=some 14) (v:=?_) (a':=?_) #[true,true,true,true,true,true,true,true,false,false,false] rfl rfl (Qhu HT_.out HW_.out qq_6) (fun _ _ _ h=>h) (Or.inl ⟨by rfl,?_⟩) hHeld ?_ ?_
        rotate_left
        ·rintro w' ⟨s0,s1,s2,s3⟩
         go_simp
         with_reducible rfl
        rotate_left
        ·exact qq_2
        refine Qgg (i:=8) (N:=some 18) (v:=?_) (a':=?_) #[true,true,true,true,true,true,true,true,true,false,false] rfl rfl (Qhu HT_.out HW_.out qq_6) (fun _ _ _ h=>h) (Or.inl ⟨by rfl,?_⟩) hHeld ?_ ?_
        rotate_left
        ·rintro w' ⟨s0,s1,s2,s3⟩
         go_simp
         with_reducible rfl
        rotate_left
        ·exact qq_2
        refine one_ (i:=9) (N:=some 19) #[true,true,true,true,true,true,true,true,true,true,false] rfl rfl (Qho HT_.out qq_6) (by decide) (fun K hK=>?_)
        refine Qgo Tryz.func118 qq_6 rfl #[.agg #[.int .u64 ((Qjf l0 (ji3)).f0),.int .u32 ((Qjf l0 (ji3)).f1)],.agg #[.int .u64 ((Qjf l0 x3_1).f0),.int .u32 ((Qjf l0 x3_1).f1)]] (by rfl) rfl rfl (by(try simp only[List.map_toArray,List.map_cons,List.map_nil]);first|done |(simp only[hji3];rfl)|rfl |(simp only[List.length_drop,List.length_take];rfl)) ?_
        with_reducible refine(Qco.calls k1 ((Qjf l0 (ji3)).f0) ((Qjf l0 (ji3)).f1) ((Qjf l0 x3_1).f0) ((Qjf l0 x3_1).f1) t225 _ A7.out).mono ?_
        rintro e w10 ⟨rfl,hb⟩
        refine⟨_,rfl,?_⟩
        have n0_:=QA (Qfh qq_b hb)
        clear HB
        have HB:=n0_
        clear n0_
        (try clear hb)
        (try clear hb2)
        (try clear hk)
        (try clear hi)
        refine hK.out _ _ ⟨((HB.out.cell (World.block_lt_of_cell? w _ hw223_0)).trans hw223_0),((HB.out.cell (World.block_lt_of_cell? w _ hw223_1)).trans hw223_1),((HB.out.cell (World.block_lt_of_cell? w _ hw224_0)).trans hw224_0),((HB.out.cell (World.block_lt_of_cell? w _ hw224_1)).trans hw224_1)⟩ (fun hHeld=>?_)
        clear hK K
        refine Qgm (a':=?_) ?_ ?_
        rotate_left
        ·show Act.put _ (some 19) _=_
         simp only[Act.put,List.setIfInBounds_toArray,List.set_cons_zero,List.set_cons_succ,Qgr,Qgs]
         rfl
        refine Qgh (i:=10) (N:=some 20) (v:=?_) (a':=?_) #[true,true,true,true,true,true,true,true,true,true,true] rfl rfl (Qhn HT_.out qq_6) (fun _ _ _ h=>h) (Or.inl ⟨by rfl,?_⟩) ?_ ?_
        rotate_left
        ·intro w'
         go_simp
         with_reducible rfl
        rotate_left
        ·exact qq_2
        refine Qgj (Qhq HT_.out qq_6) ?_
        try go_wp2
        go_ret
        exact⟨by first|rfl |(simp[Qis,Qit]<;>rfl) |(simp only[← hji3];first|rfl |(simp[Qis,Qit]<;>rfl)) |(simp[*,Qis,Qit]<;>rfl),qq_b⟩
       ·rw[if_neg c8]at H
        have c8b0:decide (0≤t225)=false:=decide_eq_false c8
        clear c8
        have H':=QA H
        clear H
        try go_wp2
        have n0_:=QA (Qfo HB.out)
        clear HB
        have HB:=n0_
        clear n0_
        have p223:0≤((ji3):Int):=of_decide_eq_true qq_4
        have q223:(ji3)<(l0.length:Int):=of_decide_eq_true qq_4
        obtain⟨ad223,e223,hx223_0,hx223_1⟩:=Qjg HR0.out (ji3) p223 q223
        have hw223_1:=hx223_1
        have hw223_0:=hx223_0
        cases e223
        replace hx223_0:=qq_h HB.out hx223_0
        replace hx223_1:=qq_h HB.out hx223_1
        replace p223:=eq_true p223
        replace q223:=eq_true q223
        have p224:0≤(x3_1:Int):=of_decide_eq_true qq_4
        have q224:x3_1<(l0.length:Int):=of_decide_eq_true qq_4
        obtain⟨ad224,e224,hx224_0,hx224_1⟩:=Qjg HR0.out x3_1 p224 q224
        have hw224_1:=hx224_1
        have hw224_0:=hx224_0
        obtain rfl:ad223=ad224:=(by injection e224)
        replace hx224_0:=qq_h HB.out hx224_0
        replace hx224_1:=qq_h HB.out hx224_1
        replace p224:=eq_true p224
        replace q224:=eq_true q224
        refine Qge (n:=11) (S:=fun w'=>w'.cell? (ad223.add (((ji3)).toNat*2))=some (.int .u64 ((Qjf l0 (ji3)).f0))∧w'.cell? ⟨(ad223.add (((ji3)).toNat*2)).block,(ad223.add (((ji3)).toNat*2)).off+1,none⟩=some (.int .u32 ((Qjf l0 (ji3)).f1))∧w'.cell? (ad223.add ((x3_1).toNat*2))=some (.int .u64 ((Qjf l0 x3_1).f0))∧w'.cell? ⟨(ad223.add ((x3_1).toNat*2)).block,(ad223.add ((x3_1).toNat*2)).off+1,none⟩=some (.int .u32 ((Qjf l0 x3_1).f1))) (ds:=[]) #[false,false,false,false,false,false,false,false,false,false,false] qq_6 rfl rfl ⟨((HB.out.cell (World.block_lt_of_cell? w _ hw223_0)).trans hw223_0),((HB.out.cell (World.block_lt_of_cell? w _ hw223_1)).trans hw223_1),((HB.out.cell (World.block_lt_of_cell? w _ hw224_0)).trans hw224_0),((HB.out.cell (World.block_lt_of_cell? w _ hw224_1)).trans hw224_1)⟩ (fun hHeld=>?_);refine Qhv Qcq.tab4 Qcq.bits4 (fun HT_ HW_=>?_)
        generalize wr.drew=w11 at HB hx223_0 hx223_1 hx224_0 hx224_1 hHeld ⊢
        refine Qgh (i:=0) (N:=some 10) (v:=?_) (a':=?_) #[true,false,false,false,false,false,false,false,false,false,false] rfl rfl (Qhn HT_.out qq_6) (fun _ _ _ h=>h) (Or.inl ⟨by rfl,?_⟩) ?_ ?_
        rotate_left
        ·intro w'
         go_simp
         with_reducible rfl
        rotate_left
        ·exact qq_2
        refine Qgh (i:=1) (N:=some 11) (v:=?_) (a':=?_) #[true,true,false,false,false,false,false,false,false,false,false] rfl rfl (Qhn HT_.out qq_6) (fun _ _ _ h=>h) (Or.inl ⟨by rfl,?_⟩) ?_ ?_
        rotate_left
        ·intro w'
         go_simp
         with_reducible rfl
        rotate_left
        ·exact qq_2
        refine Qgh (i:=2) (N:=some 12) (v:=?_) (a':=?_) #[true,true,true,false,false,false,false,false,false,false,false] rfl rfl (Qhn HT_.out qq_6) (fun _ _ _ h=>h) (Or.inl ⟨by rfl,?_⟩) ?_ ?_
        rotate_left
        ·intro w'
         go_simp
         with_reducible rfl
        rotate_left
        ·exact qq_2
        refine Qgh (i:=3) (N:=some 13) (v:=?_) (a':=?_) #[true,true,true,true,false,false,false,false,false,false,false] rfl rfl (Qhn HT_.out qq_6) (fun _ _ _ h=>h) (Or.inl ⟨by rfl,?_⟩) ?_ ?_
        rotate_left
        ·intro w'
         go_simp
         with_reducible rfl
        rotate_left
        ·exact qq_2
        refine Qgh (i:=5) (N:=some 15) (v:=?_) (a':=?_) #[true,true,true,true,false,true,false,false,false,false,false] rfl rfl (Qhn HT_.out qq_6) (fun _ _ _ h=>h) (Or.inl ⟨by rfl,?_⟩) ?_ ?_
        rotate_left
        ·intro w'
         go_simp
         with_reducible rfl
        rotate_left
        ·exact qq_2
        refine Qgh (i:=6) (N:=some 16) (v:=?_) (a':=?_) #[true,true,true,true,false,true,true,false,false,false,false] rfl rfl (Qhn HT_.out qq_6) (fun _ _ _ h=>h) (Or.inl ⟨by rfl,?_⟩) ?_ ?_
        rotate_left
        ·intro w'
         go_simp
         with_reducible rfl
        rotate_left
        ·exact qq_2
        refine Qgh (i:=7) (N:=some 17) (v:=?_) (a':=?_) #[true,true,true,true,false,true,true,true,false,false,false] rfl rfl (Qhn HT_.out qq_6) (fun _ _ _ h=>h) (Or.inl ⟨by rfl,?_⟩) ?_ ?_
        rotate_left
        ·intro w'
         go_simp
         with_reducible rfl
        rotate_left
        ·exact qq_2
        refine Qgg (i:=4) (N:=some 14) (v:=?_) (a':=?_) #[true,true,true,true,true,true,true,true,false,false,false] rfl rfl (Qhu HT_.out HW_.out qq_6) (fun _ _ _ h=>h) (Or.inl ⟨by rfl,?_⟩) hHeld ?_ ?_
        rotate_left
        ·rintro w' ⟨s0,s1,s2,s3⟩
         go_simp
         with_reducible rfl
        rotate_left
        ·exact qq_2
        refine Qgg (i:=8) (N:=some 18) (v:=?_) (a':=?_) #[true,true,true,true,true,true,true,true,true,false,false] rfl rfl (Qhu HT_.out HW_.out qq_6) (fun _ _ _ h=>h) (Or.inl ⟨by rfl,?_⟩) hHeld ?_ ?_
        rotate_left
        ·rintro w' ⟨s0,s1,s2,s3⟩
         go_simp
         with_reducible rfl
        rotate_left
        ·exact qq_2
        refine one_ (i:=9) (N:=some 19) #[true,true,true,true,true,true,true,true,true,true,false] rfl rfl (Qho HT_.out qq_6) (by decide) (fun K hK=>?_)
        refine Qgo Tryz.func118 qq_6 rfl #[.agg #[.int .u64 ((Qjf l0 (ji3)).f0),.int .u32 ((Qjf l0 (ji3)).f1)],.agg #[.int .u64 ((Qjf l0 x3_1).f0),.int .u32 ((Qjf l0 x3_1).f1)]] (by rfl) rfl rfl (by(try simp only[List.map_toArray,List.map_cons,List.map_nil]);first|done |(simp only[hji3];rfl)|rfl |(simp only[List.length_drop,List.length_take];rfl)) ?_
        with_reducible refine(Qco.calls k1 ((Qjf l0 (ji3)).f0) ((Qjf l0 (ji3)).f1) ((Qjf l0 x3_1).f0) ((Qjf l0 x3_1).f1) t225 _ A7.out).mono ?_
        rintro e w12 ⟨rfl,hb⟩
        refine⟨_,rfl,?_⟩
        have n0_:=QA (Qfh qq_b hb)
        clear HB
        have HB:=n0_
        clear n0_
        (try clear hb)
        (try clear hb2)
        (try clear hk)
        (try clear hi)
        refine hK.out _ _ ⟨((HB.out.cell (World.block_lt_of_cell? w _ hw223_0)).trans hw223_0),((HB.out.cell (World.block_lt_of_cell? w _ hw223_1)).trans hw223_1),((HB.out.cell (World.block_lt_of_cell? w _ hw224_0)).trans hw224_0),((HB.out.cell (World.block_lt_of_cell? w _ hw224_1)).trans hw224_1)⟩ (fun hHeld=>?_)
        clear hK K
        refine Qgm (a':=?_) ?_ ?_
        rotate_left
        ·show Act.put _ (some 19) _=_
         simp only[Act.put,List.setIfInBounds_toArray,List.set_cons_zero,List.set_cons_succ,Qgr,Qgs]
         rfl
        refine Qgh (i:=10) (N:=some 20) (v:=?_) (a':=?_) #[true,true,true,true,true,true,true,true,true,true,true] rfl rfl (Qhn HT_.out qq_6) (fun _ _ _ h=>h) (Or.inl ⟨by rfl,?_⟩) ?_ ?_
        rotate_left
        ·intro w'
         go_simp
         with_reducible rfl
        rotate_left
        ·exact qq_2
        refine Qgj (Qhq HT_.out qq_6) ?_
        try go_wp2
        go_roundg k1
        case measure=>have:=HK1.out;omega
        case rel=>exact⟨(wrap64 (x3_1+1)),qq_5,H',⟨by have:=HK1.out;omega⟩,⟨qq_b⟩⟩
      ·rw[if_neg c6]at H
       exact absurd H (by simp)
     ·rw[if_neg c5]at H
      exact absurd H (by simp)
    ·rw[if_neg c4]at H
     exact absurd H (by simp)
   ·rw[if_neg c2]at H
    have c2b0:decide (x3_1<(l0.length:Int))=false:=decide_eq_false c2
    clear c2
    obtain rfl:=Option.some.inj H
    go_wp2
    go_ret
    exact⟨by first|rfl |(simp[Qis,Qit]<;>rfl) |(simp[*,Qis,Qit]<;>rfl),qq_b⟩
theorem Qpd(d:Nat)(w:World)(x0 y0:Int)(x1 y1:Int) :
  (Op.equalIn (d+2) 117 (.agg #[.int .u64 x0,.int .u32 x1]) (.agg #[.int .u64 y0,.int .u32 y1])).run Tryz.prog w=.ok (x0 == y0 && (x1 == y1)) w:=by
 refine Qid Tryz.underlying117 qq_6 ?_
 refine Qic (by rfl) (by go_simp;rfl) (by go_simp;rfl) (by go_simp) ?_
 exact Qib (by rfl) (by go_simp;rfl) (by go_simp;rfl) (by go_simp)
def Qcm.l0:Nat→List Int→List Int→Int→Int→Option (Bool)
 | 0,_,_,_,_=>none
 | k+1,x0,x1,x12,x13=>if x13<x12 then(if 0≤x13 then(if x13<(x0.length:Int)then(if x13<(x1.length:Int)then(if(rd x0 x13)=(rd x1 x13)then(Qcm.l0 k x0 x1 x12 (wrap64 (x13+1)))else(some false))else(none))else(none))else(none))else(some true)
def Qcm.f(k:Nat)(l0:List Int)(l1:List Int):Option (Bool):=if(l0.length:Int)=(l1.length:Int)then(Qcm.l0 k l0 l1 (l0.length:Int) 0)else(some false)
theorem Qcm.calls (k:Nat) (A0:Option Addr) (c0:Nat) (l0:List Int) (A1:Option Addr) (c1:Nat) (l1:List Int) (r:Bool) (w:World) (hr0:Kd.C (Kd.int .u64) w A0 l0.length l0) (hc0:l0.length≤c0) (hr1:Kd.C (Kd.int .u64) w A1 l1.length l1) (hc1:l1.length≤c1) (h:Qcm.f k l0 l1=some r) :
  Calls Tryz.prog 184 #[.slice A0 l0.length c0,.slice A1 l1.length c1] w fun e w'=>e=.returned (.bool r)∧Drawn0 w w':=by
 have HR0:=QA hr0
 have HC0:=QA hc0
 clear hr0 hc0
 have HR1:=QA hr1
 have HC1:=QA hc1
 clear hr1 hc1
 have H:(if(l0.length:Int)=(l1.length:Int)then(Qcm.l0 k l0 l1 (l0.length:Int) 0)else(some false))=some r:=h
 clear h
 by_cases c3:(l0.length:Int)=(l1.length:Int)
 ·rw [if_pos c3]at H
  have c3b0:((l0.length:Int) == (l1.length:Int))=true:=beq_iff_eq.mpr c3
  have c3b1:((l0.length:Int) != (l1.length:Int))=false:=bne_eq_false_iff_eq.mpr c3
  have c3b2:(l0.length == l1.length)=true:=by first|simpa using c3 |(simp at c3 ⊢;omega)
  clear c3
  have H':=QA H
  clear H
  go_enter Tryz.func184,Tryz.ntmps184
  go_wp2
  repeat(go_quiet (fail);try go_wp2)
  go_loopg [13] k (fun kq v13 w'=>∃(x13_1:Int),v13=.int .i64 x13_1∧Aside0 (Qcm.l0 kq l0 l1 (l0.length:Int) x13_1=some r)∧Aside0 (kq≤k)∧Drawn0 w w')
  case atStart=>exact⟨(0),qq_5,H',⟨Nat.le_refl _⟩,by repeat(first|exact Drawn0.refl _|apply Drawn0.step)⟩
  case round =>
   clear H'
   try clear c1
   try clear c3
   try clear c3b0
   try clear c3b1
   try clear c3b2
   obtain⟨x13_1,rfl,HA,HK1,⟨m1,rfl⟩⟩:=hrel
   cases gk with
   | zero=>exact absurd HA.out (by simp[Qcm.l0])
   | succ k1 =>
    have H:=HA.out
    clear HA
    simp only[Qcm.l0]at H
    by_cases c4:x13_1<(l0.length:Int)
    ·rw [if_pos c4]at H
     have c4b0:decide (x13_1<(l0.length:Int))=true:=decide_eq_true c4
     clear c4
     by_cases c5:0≤x13_1
     ·rw [if_pos c5]at H
      have c5b0:decide (0≤x13_1)=true:=decide_eq_true c5
      clear c5
      by_cases c6:x13_1<(l0.length:Int)
      ·rw[if_pos c6]at H
       have c6b0:decide (x13_1<(l0.length:Int))=true:=decide_eq_true c6
       clear c6
       by_cases c7:x13_1<(l1.length:Int)
       ·rw[if_pos c7]at H
        have c7b0:decide (x13_1<(l1.length:Int))=true:=decide_eq_true c7
        clear c7
        by_cases c8:(rd l0 x13_1)=(rd l1 x13_1)
        ·rw[if_pos c8]at H
         have c8b0:((rd l0 x13_1) == (rd l1 x13_1))=true:=beq_iff_eq.mpr c8
         have c8b1:((rd l0 x13_1) != (rd l1 x13_1))=false:=bne_eq_false_iff_eq.mpr c8
         clear c8
         have H':=QA H
         clear H
         have p591:0≤(x13_1:Int):=of_decide_eq_true qq_4
         have q591:x13_1<(l0.length:Int):=of_decide_eq_true qq_4
         obtain⟨ad591,e591,hx591_0⟩:=Kd.at_int HR0.out x13_1 p591 q591
         cases e591
         replace p591:=eq_true p591
         replace q591:=eq_true q591
         have p592:0≤(x13_1:Int):=of_decide_eq_true qq_4
         have q592:x13_1<(l1.length:Int):=of_decide_eq_true qq_4
         obtain⟨ad592,e592,hx592_0⟩:=Kd.at_int HR1.out x13_1 p592 q592
         cases e592
         replace p592:=eq_true p592
         replace q592:=eq_true q592
         go_wp2
         repeat(go_quiet (fail);try go_wp2)
         go_roundg k1
         case measure=>have:=HK1.out;omega
         case rel=>exact⟨(wrap64 (x13_1+1)),qq_5,H',⟨by have:=HK1.out;omega⟩,by repeat(first|exact Drawn0.refl _|apply Drawn0.step)⟩
        ·rw[if_neg c8]at H
         have c8b0:((rd l0 x13_1) == (rd l1 x13_1))=false:=beq_eq_false_iff_ne.mpr c8
         have c8b1:((rd l0 x13_1) != (rd l1 x13_1))=true:=bne_iff_ne.mpr c8
         obtain rfl:=Option.some.inj H
         have p591:0≤(x13_1:Int):=of_decide_eq_true qq_4
         have q591:x13_1<(l0.length:Int):=of_decide_eq_true qq_4
         obtain⟨ad591,e591,hx591_0⟩:=Kd.at_int HR0.out x13_1 p591 q591
         cases e591
         replace p591:=eq_true p591
         replace q591:=eq_true q591
         have p592:0≤(x13_1:Int):=of_decide_eq_true qq_4
         have q592:x13_1<(l1.length:Int):=of_decide_eq_true qq_4
         obtain⟨ad592,e592,hx592_0⟩:=Kd.at_int HR1.out x13_1 p592 q592
         cases e592
         replace p592:=eq_true p592
         replace q592:=eq_true q592
         go_wp2
         repeat(go_quiet (fail);try go_wp2)
         go_ret
         exact⟨by first|rfl |(simp;done) |(simp[*];done),by repeat(first|exact Drawn0.refl _|apply Drawn0.step)⟩
       ·rw[if_neg c7]at H
        exact absurd H (by simp)
      ·rw[if_neg c6]at H
       exact absurd H (by simp)
     ·rw[if_neg c5]at H
      exact absurd H (by simp)
    ·rw[if_neg c4]at H
     have c4b0:decide (x13_1<(l0.length:Int))=false:=decide_eq_false c4
     clear c4
     obtain rfl:=Option.some.inj H
     go_wp2
     repeat(go_quiet (fail);try go_wp2)
     go_ret
     exact⟨by first|rfl |(simp;done) |(simp[*];done),by repeat(first|exact Drawn0.refl _|apply Drawn0.step)⟩
 ·rw[if_neg c3]at H
  have c3b0:((l0.length:Int) == (l1.length:Int))=false:=beq_eq_false_iff_ne.mpr c3
  have c3b1:((l0.length:Int) != (l1.length:Int))=true:=bne_iff_ne.mpr c3
  have c3b2:(l0.length == l1.length)=false:=by first|simpa using c3 |(simp at c3 ⊢;omega)
  obtain rfl:=Option.some.inj H
  go_enter Tryz.func184,Tryz.ntmps184
  go_wp2
  repeat(go_quiet (fail);try go_wp2)
  go_ret
  exact⟨by first|rfl |(simp;done) |(simp[*];done),by repeat(first|exact Drawn0.refl _|apply Drawn0.step)⟩
def Qah.f(a0:Int)(a1:Int):Option (Bool):=(Qak.f a0).bind fun t708=>(if t708=true then((Qak.f a1).bind fun t709=>(if t709=true then(some (decide (a0<a1)))else(some true)))else(some (decide (a0<a1))))
theorem Qah.calls(a0:Int)(a1:Int)(r:Bool)(w:World)(h:Qah.f a0 a1=some r) :
  Calls Tryz.prog 232 #[.int .u64 a0,.int .u64 a1] w fun e w'=>e=.returned (.bool r)∧Drawn0 w w':=by
 have H:((Qak.f a0).bind fun t708=>(if t708=true then((Qak.f a1).bind fun t709=>(if t709=true then(some (decide (a0<a1)))else(some true)))else(some (decide (a0<a1)))))=some r:=h
 clear h
 replace H:=Option.bind_eq_some_iff.mp H
 obtain⟨t708,A30,H⟩:=H
 replace H:(if t708=true then((Qak.f a1).bind fun t709=>(if t709=true then(some (decide (a0<a1)))else(some true)))else(some (decide (a0<a1))))=some r:=H
 have A3:=QA A30
 clear A30
 by_cases c4:t708=true
 ·subst c4
  have H1:((Qak.f a1).bind fun t709=>(if t709=true then(some (decide (a0<a1)))else(some true)))=some r:=by rw[if_pos rfl]at H;exact H
  clear H
  have H:=H1
  clear H1
  replace H:=Option.bind_eq_some_iff.mp H
  obtain⟨t709,A50,H⟩:=H
  replace H:(if t709=true then(some (decide (a0<a1)))else(some true))=some r:=H
  have A5:=QA A50
  clear A50
  by_cases c6:t709=true
  ·subst c6
   have H1:(some (decide (a0<a1)))=some r:=by rw[if_pos rfl]at H;exact H
   clear H
   have H:=H1
   clear H1
   obtain rfl:=Option.some.inj H
   go_enter Tryz.func232,Tryz.ntmps232
   go_wp2_with (first |((with_reducible refine Qin (f:=215) rfl ?_);refine Qgp (some 6) rfl rfl Tryz.func215 qq_6 rfl #[.int .u64 a0] rfl qq_1 ?_;(with_reducible refine(Qak.calls a0 true _ A3.out).mono ?_);rintro e w' ⟨rfl,⟨nd,rfl⟩⟩;refine⟨_,rfl,?_⟩) |(go_at_call 215;(with_reducible refine(Qak.calls a1 true _ A5.out).mono ?_);rintro e w' ⟨rfl,⟨nd,rfl⟩⟩))
   go_ret
   exact⟨by first|rfl |(simp;done) |(simp[*];done),by repeat(first|exact Drawn0.refl _|apply Drawn0.step)⟩
  ·replace c6:=Bool.eq_false_iff.mpr c6
   subst c6
   have H1:(some true)=some r:=by rw[if_neg (show ¬(false=true)by decide)]at H;exact H
   clear H
   have H:=H1
   clear H1
   obtain rfl:=Option.some.inj H
   go_enter Tryz.func232,Tryz.ntmps232
   go_wp2_with (first |((with_reducible refine Qin (f:=215) rfl ?_);refine Qgp (some 6) rfl rfl Tryz.func215 qq_6 rfl #[.int .u64 a0] rfl qq_1 ?_;(with_reducible refine(Qak.calls a0 true _ A3.out).mono ?_);rintro e w' ⟨rfl,⟨nd,rfl⟩⟩;refine⟨_,rfl,?_⟩) |(go_at_call 215;(with_reducible refine(Qak.calls a1 false _ A5.out).mono ?_);rintro e w' ⟨rfl,⟨nd,rfl⟩⟩))
   go_ret
   exact⟨by first|rfl |(simp;done) |(simp[*];done),by repeat(first|exact Drawn0.refl _|apply Drawn0.step)⟩
 ·replace c4:=Bool.eq_false_iff.mpr c4
  subst c4
  have H1:(some (decide (a0<a1)))=some r:=by rw[if_neg (show ¬(false=true)by decide)]at H;exact H
  clear H
  have H:=H1
  clear H1
  obtain rfl:=Option.some.inj H
  go_enter Tryz.func232,Tryz.ntmps232
  go_wp2_with (first |((with_reducible refine Qin (f:=215) rfl ?_);refine Qgp (some 6) rfl rfl Tryz.func215 qq_6 rfl #[.int .u64 a0] rfl qq_1 ?_;(with_reducible refine(Qak.calls a0 false _ A3.out).mono ?_);rintro e w' ⟨rfl,⟨nd,rfl⟩⟩;refine⟨_,rfl,?_⟩))
  go_ret
  exact⟨by first|rfl |(simp;done) |(simp[*];done),by repeat(first|exact Drawn0.refl _|apply Drawn0.step)⟩
def Qcn.l0:Nat→List Int→Int→Option (Bool)
 | 0,_,_=>none
 | k+1,x0,x3=>if x3 > 0 then(if 0≤x3 then(if x3<(x0.length:Int)then(if 0≤(wrap64 (x3-1))then(if(wrap64 (x3-1))<(x0.length:Int)then((Qah.f (rd x0 x3) (rd x0 (wrap64 (x3-1)))).bind fun t712=>(if t712=true then(some false)else(Qcn.l0 k x0 (wrap64 (x3-1)))))else(none))else(none))else(none))else(none))else(some true)
def Qcn.f(k:Nat)(l0:List Int):Option (Bool):=Qcn.l0 k l0 (wrap64 ((l0.length:Int)-1))
theorem Qcn.mono_l:∀k,(∀y0 y1,LeO (Qcn.l0 k y0 y1) (Qcn.l0 (k+1) y0 y1))
 | 0=>fun _ _ r h=>by simp[Qcn.l0]at h
 | k+1=>by
  have ih0:=Qcn.mono_l k
  ·intro y0 y1
   unfold Qcn.l0
   repeat' first
   |(with_reducible exact ih0 _ _)
   |(with_reducible exact LeO.refl _)
   |(with_reducible exact LeO.none _)
   |(with_reducible refine LeO.ite ?_ ?_)
   |(with_reducible refine LeO.bind ?_ (fun _=>?_))
   | exact ih0 _ _
   | exact LeO.none _
   | refine LeO.ite ?_ ?_
   | refine LeO.bind ?_ (fun _=>?_)
theorem Qcn.mono:∀a0 k,LeO (Qcn.f k a0) (Qcn.f (k+1) a0):=by
 intro a0 k
 have ih0:=Qcn.mono_l k
 unfold Qcn.f
 repeat' first
   |(with_reducible exact ih0 _ _)
   |(with_reducible exact LeO.refl _)
   |(with_reducible exact LeO.none _)
   |(with_reducible refine LeO.ite ?_ ?_)
   |(with_reducible refine LeO.bind ?_ (fun _=>?_))
   | exact ih0 _ _
   | exact LeO.none _
   | refine LeO.ite ?_ ?_
   | refine LeO.bind ?_ (fun _=>?_)
theorem Qcn.calls (k:Nat) (A0:Option Addr) (c0:Nat) (l0:List Int) (r:Bool) (w:World) (hr0:Kd.C (Kd.int .u64) w A0 l0.length l0) (hc0:l0.length≤c0) (h:Qcn.f k l0=some r) :
  Calls Tryz.prog 220 #[.slice A0 l0.length c0] w fun e w'=>e=.returned (.bool r)∧Drawn0 w w':=by
 have HR0:=QA hr0
 have HC0:=QA hc0
 clear hr0 hc0
 have H:(Qcn.l0 k l0 (wrap64 ((l0.length:Int)-1)))=some r:=h
 clear h
 have H':=QA H
 clear H
 go_enter Tryz.func220,Tryz.ntmps220
 go_wp2
 repeat(go_quiet (fail);try go_wp2)
 go_loopg [3] k (fun kq v3 w'=>∃(x3_1:Int),v3=.int .i64 x3_1∧Aside0 (Qcn.l0 kq l0 x3_1=some r)∧Aside0 (kq≤k)∧Drawn0 w w')
 case atStart=>exact⟨(wrap64 ((l0.length:Int)-1)),qq_5,H',⟨Nat.le_refl _⟩,by repeat(first|exact Drawn0.refl _|apply Drawn0.step)⟩
 case round =>
  clear H'
  obtain⟨x3_1,rfl,HA,HK1,⟨m1,rfl⟩⟩:=hrel
  cases gk with
  | zero=>exact absurd HA.out (by simp[Qcn.l0])
  | succ k1 =>
   have H:=HA.out
   clear HA
   simp only[Qcn.l0]at H
   by_cases c2:x3_1 > 0
   ·rw [if_pos c2]at H
    have c2b0:decide (0<x3_1)=true:=decide_eq_true c2
    clear c2
    by_cases c3:0≤x3_1
    ·rw [if_pos c3]at H
     have c3b0:decide (0≤x3_1)=true:=decide_eq_true c3
     clear c3
     by_cases c4:x3_1<(l0.length:Int)
     ·rw [if_pos c4]at H
      have c4b0:decide (x3_1<(l0.length:Int))=true:=decide_eq_true c4
      clear c4
      obtain⟨ji5,hji5⟩:∃j_:Int,(wrap64 (x3_1-1))=j_:=⟨_,rfl⟩
      replace H:(if 0≤(ji5)then(if(ji5)<(l0.length:Int)then((Qah.f (rd l0 x3_1) (rd l0 (ji5))).bind fun t712=>(if t712=true then(some false)else(Qcn.l0 k1 l0 ji5)))else(none))else(none))=some r:=by first |(rw[hji5]at H;exact H) |(simp only[hji5]at H ⊢;exact H)
      have hji5w:(IntKind.i64.wrap (x3_1-1))=ji5:=(Qgr _).trans hji5
      by_cases c6:0≤(ji5)
      ·rw[if_pos c6]at H
       have c6b0:decide (0≤(ji5))=true:=decide_eq_true c6
       clear c6
       by_cases c7:(ji5)<(l0.length:Int)
       ·rw[if_pos c7]at H
        have c7b0:decide ((ji5)<(l0.length:Int))=true:=decide_eq_true c7
        clear c7
        replace H:=Option.bind_eq_some_iff.mp H
        obtain⟨t712,A80,H⟩:=H
        replace H:(if t712=true then(some false)else(Qcn.l0 k1 l0 ji5))=some r:=H
        have A8:=QA A80
        clear A80
        by_cases c9:t712=true
        ·subst c9
         have H1:(some false)=some r:=by rw[if_pos rfl]at H;exact H
         clear H
         have H:=H1
         clear H1
         obtain rfl:=Option.some.inj H
         have p710:0≤(x3_1:Int):=of_decide_eq_true qq_4
         have q710:x3_1<(l0.length:Int):=of_decide_eq_true qq_4
         obtain⟨ad710,e710,hx710_0⟩:=Kd.at_int HR0.out x3_1 p710 q710
         cases e710
         replace p710:=eq_true p710
         replace q710:=eq_true q710
         have p711:0≤((ji5):Int):=of_decide_eq_true qq_4
         have q711:(ji5)<(l0.length:Int):=of_decide_eq_true qq_4
         obtain⟨ad711,e711,hx711_0⟩:=Kd.at_int HR0.out (ji5) p711 q711
         obtain rfl:ad710=ad711:=(by injection e711)
         replace p711:=eq_true p711
         replace q711:=eq_true q711
         go_wp2_with (first |(go_at_call 232;(with_reducible refine(Qah.calls (rd l0 x3_1) (rd l0 (ji5)) true _ A8.out).mono ?_);rintro e w' ⟨rfl,⟨nd,rfl⟩⟩;(try first|exact⟨rfl,_,World.drewN_drewN _ _ _⟩|exact⟨rfl,_,Eq.trans (World.drewN_drewN _ _ _) (congrArg (World.drewN _) (Nat.add_assoc _ _ _))⟩)))
         repeat(go_quiet (first |(go_at_call 232;(with_reducible refine(Qah.calls (rd l0 x3_1) (rd l0 (ji5)) true _ A8.out).mono ?_);rintro e w' ⟨rfl,⟨nd,rfl⟩⟩;(try first|exact⟨rfl,_,World.drewN_drewN _ _ _⟩|exact⟨rfl,_,Eq.trans (World.drewN_drewN _ _ _) (congrArg (World.drewN _) (Nat.add_assoc _ _ _))⟩)));try go_wp2_with (first |(go_at_call 232;(with_reducible refine(Qah.calls (rd l0 x3_1) (rd l0 (ji5)) true _ A8.out).mono ?_);rintro e w' ⟨rfl,⟨nd,rfl⟩⟩;(try first|exact⟨rfl,_,World.drewN_drewN _ _ _⟩|exact⟨rfl,_,Eq.trans (World.drewN_drewN _ _ _) (congrArg (World.drewN _) (Nat.add_assoc _ _ _))⟩))))
         go_ret
         exact⟨by first|rfl |(simp;done) |(simp only[← hji5]<;>(first|rfl|simp)) |(simp[*];done),by repeat(first|exact Drawn0.refl _|apply Drawn0.step)⟩
        ·replace c9:=Bool.eq_false_iff.mpr c9
         subst c9
         have H1:(Qcn.l0 k1 l0 ji5)=some r:=by rw[if_neg (show ¬(false=true)by decide)]at H;exact H
         clear H
         have H:=H1
         clear H1
         have H':=QA H
         clear H
         have p710:0≤(x3_1:Int):=of_decide_eq_true qq_4
         have q710:x3_1<(l0.length:Int):=of_decide_eq_true qq_4
         obtain⟨ad710,e710,hx710_0⟩:=Kd.at_int HR0.out x3_1 p710 q710
         cases e710
         replace p710:=eq_true p710
         replace q710:=eq_true q710
         have p711:0≤((ji5):Int):=of_decide_eq_true qq_4
         have q711:(ji5)<(l0.length:Int):=of_decide_eq_true qq_4
         obtain⟨ad711,e711,hx711_0⟩:=Kd.at_int HR0.out (ji5) p711 q711
         obtain rfl:ad710=ad711:=(by injection e711)
         replace p711:=eq_true p711
         replace q711:=eq_true q711
         go_wp2_with (first |(go_at_call 232;(with_reducible refine(Qah.calls (rd l0 x3_1) (rd l0 (ji5)) false _ A8.out).mono ?_);rintro e w' ⟨rfl,⟨nd,rfl⟩⟩;(try first|exact⟨rfl,_,World.drewN_drewN _ _ _⟩|exact⟨rfl,_,Eq.trans (World.drewN_drewN _ _ _) (congrArg (World.drewN _) (Nat.add_assoc _ _ _))⟩)))
         repeat(go_quiet (first |(go_at_call 232;(with_reducible refine(Qah.calls (rd l0 x3_1) (rd l0 (ji5)) false _ A8.out).mono ?_);rintro e w' ⟨rfl,⟨nd,rfl⟩⟩;(try first|exact⟨rfl,_,World.drewN_drewN _ _ _⟩|exact⟨rfl,_,Eq.trans (World.drewN_drewN _ _ _) (congrArg (World.drewN _) (Nat.add_assoc _ _ _))⟩)));try go_wp2_with (first |(go_at_call 232;(with_reducible refine(Qah.calls (rd l0 x3_1) (rd l0 (ji5)) false _ A8.out).mono ?_);rintro e w' ⟨rfl,⟨nd,rfl⟩⟩;(try first|exact⟨rfl,_,World.drewN_drewN _ _ _⟩|exact⟨rfl,_,Eq.trans (World.drewN_drewN _ _ _) (congrArg (World.drewN _) (Nat.add_assoc _ _ _))⟩))))
         go_roundg k1
         case measure=>have:=HK1.out;omega
         case rel=>exact⟨(ji5),(by first|rfl |(simp;done) |(simp only[← hji5]<;>(first|rfl|simp)) |(simp[*];done)),H',⟨by have:=HK1.out;omega⟩,by repeat(first|exact Drawn0.refl _|apply Drawn0.step)⟩
       ·rw[if_neg c7]at H
        exact absurd H (by simp)
      ·rw[if_neg c6]at H
       exact absurd H (by simp)
     ·rw[if_neg c4]at H
      exact absurd H (by simp)
    ·rw[if_neg c3]at H
     exact absurd H (by simp)
   ·rw[if_neg c2]at H
    have c2b0:decide (0<x3_1)=false:=decide_eq_false c2
    clear c2
    obtain rfl:=Option.some.inj H
    go_wp2
    repeat(go_quiet (fail);try go_wp2)
    go_ret
    exact⟨by first|rfl |(simp;done) |(simp[*];done),by repeat(first|exact Drawn0.refl _|apply Drawn0.step)⟩
def Qad.f(l0:List Int)(l1:List Int):Option (Bool):=some ((strOfNums l0).toList == (strOfNums l1).toList)
theorem Qad.calls(A0:Option Addr)(c0:Nat)(l0:List Int)(A1:Option Addr)(c1:Nat)(l1:List Int)(r:Bool)(w:World)(hr0:Kd.C (Kd.int .u8) w A0 l0.length l0)(hc0:l0.length≤c0)(hr1:Kd.C (Kd.int .u8) w A1 l1.length l1)(hc1:l1.length≤c1)(h:Qad.f l0 l1=some r) :
  Calls Tryz.prog 126 #[.slice A0 l0.length c0,.slice A1 l1.length c1] w fun e w'=>e=.returned (.bool r)∧Drawn0 w w':=by
 have HR0:=QA hr0
 have HC0:=QA hc0
 clear hr0 hc0
 have HR1:=QA hr1
 have HC1:=QA hc1
 clear hr1 hc1
 have H:(some ((strOfNums l0).toList == (strOfNums l1).toList))=some r:=h
 clear h
 obtain rfl:=Option.some.inj H
 have hcv3:=Kd.C_string (P:=Tryz.prog) (A:=A0) (c:=c0) Tryz.underlying52 Tryz.underlying5 Tryz.underlying9 HR0.out
 have hcv4:=Kd.C_string (P:=Tryz.prog) (A:=A1) (c:=c1) Tryz.underlying52 Tryz.underlying5 Tryz.underlying9 HR1.out
 go_enter Tryz.func126,Tryz.ntmps126
 go_wp2
 go_ret
 exact⟨by first|rfl |(simp;done) |(simp[*];done),by repeat(first|exact Drawn0.refl _|apply Drawn0.step)⟩
theorem eqA39(d:Nat)(w:World)(x0 y0:Bool)(x1 y1:Int)(x2 y2:ByteArray)(x3 y3:ByteArray) :
  (Op.equalIn (d+2) 39 (.agg #[.bool x0,.int .u64 x1,.string x2,.string x3]) (.agg #[.bool y0,.int .u64 y1,.string y2,.string y3])).run Tryz.prog w=.ok (x0 == y0 && (x1 == y1 && (x2.toList == y2.toList && (x3.toList == y3.toList)))) w:=by
 refine Qid Tryz.underlying39 qq_6 ?_
 refine Qic (by rfl) (by go_simp;rfl) (by go_simp;rfl) (by go_simp) ?_
 refine Qic (by rfl) (by go_simp;rfl) (by go_simp;rfl) (by go_simp) ?_
 refine Qic (by rfl) (by go_simp;rfl) (by go_simp;rfl) (by go_simp) ?_
 exact Qib (by rfl) (by go_simp;rfl) (by go_simp;rfl) (by go_simp)
def fascicleref14_Fits.T3:Bool × List (List Nat × List Nat):=(true,[([],[]),([0],[0]),([],[]),([1,2],[1,2]),([],[]),([4],[4]),([5],[5]),([6],[6]),([3,7],[3,7]),([8],[8]),([],[]),([10],[10]),([11,7],[11]),([9,12],[9,12]),([13,12,0,1,2,3,4,5,6,7,8,9,10,11,12,13],[13])])
def fascicleref14_Fits.B3:List Nat:=[0,1,0,7,0,16,48,112,255,511,0,1024,3312,8191,16383]
end Go.Proofs.YtnnofopfbeklbaaGreat.C
end
