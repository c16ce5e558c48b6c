/- Texts of this claim's author and of the print of its functions, merged by merge.py. -/
import Derived.Test.YtnnofopfbeklbaaGreatMH02
set_option linter.unusedVariables false
set_option linter.unusedSimpArgs false
set_option maxHeartbeats 8000000
set_option maxRecDepth 100000
section
namespace Go.Proofs.YtnnofopfbeklbaaGreat.C
open Go.RowKit Go.Proofs.YtnnofopfbeklbaaGreatW.PrintWords Go.Proofs.YtnnofopfbeklbaaGreatW.PrintLast Go.Proofs.YtnnofopfbeklbaaGreatW.PrintMore
attribute [local go_sem] Qif Qig Qih Qii Qij Qik Qil Qim
def Qbb.f:Nat→Int→Option (ByteArray)
 | 0,_=>none
 | k+1,a0=>if a0<128 then(some (strOfNums (([(a0)%256]:List Int))))else((some (([(IntKind.u64.wrap (128+(Int.tmod a0 128)))%256]:List Int):List Int)).bind fun y295=>((Qbb.f k (IntKind.u64.wrap (Int.tdiv a0 128))).bind fun t298=>(if(strOfNums y295).size+t298.size≤9223372036854775807 then(some ((strOfNums y295)++t298))else(none))))
def Qbb.T3:Bool × List (List Nat × List Nat):=(true,[([],[]),([0],[0]),([1],[1]),([2],[2]),([3],[3]),([4],[4]),([],[]),([6],[6]),([7],[7]),([5,8],[5,8]),([9,8,0,1,2,3,4,5,6,7,8,9],[9])])
def Qbb.B3:List Nat:=[0,1,3,7,15,31,0,64,192,511,1023]
theorem Qbb.tab3:rtab .any (Qhx Tryz.f98 3)=Qbb.T3:=by kernel_rfl
theorem Qbb.bits3:Qhr Qbb.T3.2 Qbb.B3=true:=by kernel_rfl
theorem Qbb.calls(k:Nat):∀(a0:Int) (r:ByteArray) (w:World) (h:Qbb.f k a0=some r),
  Calls Tryz.prog 98 #[.int .u64 a0] w fun e w'=>e=.returned (.string r)∧Below w.heap.size w w':=by
 induction k using Nat.strongRecOn with
 | _ k ih =>
 intro a0 r w h
 cases k with
 | zero=>exact absurd h (by simp[Qbb.f])
 | succ k =>
 simp only[Qbb.f]at h
 have HB:=QA (Below.refl w.heap.size w)
 have H:(if a0<128 then(some (strOfNums (([(a0)%256]:List Int))))else((some (([(IntKind.u64.wrap (128+(Int.tmod a0 128)))%256]:List Int):List Int)).bind fun y295=>((Qbb.f k (IntKind.u64.wrap (Int.tdiv a0 128))).bind fun t298=>(if(strOfNums y295).size+t298.size≤9223372036854775807 then(some ((strOfNums y295)++t298))else(none)))))=some r:=h
 clear h
 by_cases c2:a0<128
 ·rw[if_pos c2]at H
  have c2b0:decide (a0<128)=true:=decide_eq_true c2
  clear c2
  obtain⟨y292,hy292⟩:∃y_:List Int,y_=(([(a0)%256]:List Int)):=⟨_,rfl⟩
  replace H:(some (strOfNums y292))=some r:=by first |(rw[hy292];with_reducible exact H) |(have H2_:=(Option.bind_some _ _).symm.trans H;rw[hy292];with_reducible exact H2_) |(have H2_:=(Option.bind_some _ _).symm.trans H;with_reducible exact H2_)|with_reducible exact H |(rw[hy292];exact H)|exact H
  have Ny292:=QA hy292
  clear hy292
  obtain rfl:=Option.some.inj H
  go_enter Tryz.func98,Tryz.ntmps98
  go_wp2_with (first |((with_reducible refine Qfs (N:=7) rfl ?_);refine Kd.R_lit (Kd.int .u8) _ 5 ?hg (N:=7) ?hd (xs:=([(a0)%256]:List Int)) (inner:=[.int .u8 ((a0)%256)]) (ok:=fun _=>True) (okp:=fun _=>True) ?hr ?hp (fun _ hk=>hk) trivial (Below.refl _ _) (Nat.le_refl _) (by simp) ?_;(case hd=>rfl);(case hg=>rfl);(case hr=>exact qq_11);(case hp=>exact(Reps.one (show Kd.M (Kd.int .u8) _ _ _ ((a0)%256) [.int .u8 ((a0)%256)] from rfl) (Reps.none _ _)));intro v293 w3 ho4 hb hg_ hnew_;clear hg_ hnew_;(first|rw[← Ny292.out]at ho4 |(simp only[Int.reduceToNat]at ho4;rw[← Ny292.out]at ho4));have n0_:=QA (Kd.R_lower ho4 (Qfg qq_b));have n1_:=QA (Qfh qq_b hb);clear HB;have HO294:=n0_;have HB:=n1_;clear n0_ n1_ hb ho4;have hcv5:=Qdd (P:=Tryz.prog) Tryz.underlying52 Tryz.underlying5 Tryz.underlying9 (Kd.own_of_R HO294.out)))
  go_ret
  exact⟨by first|rfl |(simp[Qis,Qit]<;>rfl) |(simp[*,Qis,Qit]<;>rfl),qq_b⟩
 ·rw [if_neg c2]at H
  have c2b0:decide (a0<128)=false:=decide_eq_false c2
  clear c2
  obtain⟨y295,hy295⟩:∃y_:List Int,y_=(([(IntKind.u64.wrap (128+(Int.tmod a0 128)))%256]:List Int)):=⟨_,rfl⟩
  replace H:((Qbb.f k (IntKind.u64.wrap (Int.tdiv a0 128))).bind fun t298=>(if(strOfNums y295).size+t298.size≤9223372036854775807 then(some ((strOfNums y295)++t298))else(none)))=some r:=by first |(rw[hy295];with_reducible exact H) |(have H2_:=(Option.bind_some _ _).symm.trans H;rw[hy295];with_reducible exact H2_) |(have H2_:=(Option.bind_some _ _).symm.trans H;with_reducible exact H2_)|with_reducible exact H |(rw[hy295];exact H)|exact H
  have Ny295:=QA hy295
  clear hy295
  replace H:=Option.bind_eq_some_iff.mp H
  obtain⟨t298,A60,H⟩:=H
  replace H:(if(strOfNums y295).size+t298.size≤9223372036854775807 then(some ((strOfNums y295)++t298))else(none))=some r:=H
  have A6:=QA A60
  clear A60
  by_cases c7:(strOfNums y295).size+t298.size≤9223372036854775807
  ·rw [if_pos c7]at H
   have c7b0:=eq_true c7
   have c7b1:decide ((strOfNums y295).size+t298.size≤9223372036854775807)=true:=decide_eq_true c7
   try have c7b2:(9223372036854775807<(strOfNums y295).size+t298.size)=False:=eq_false (Nat.not_lt.2 c7)
   obtain rfl:=Option.some.inj H
   go_enter Tryz.func98,Tryz.ntmps98
   try go_wp2
   have n0_:=QA (Qfo HB.out)
   clear HB
   have HB:=n0_
   clear n0_
   refine Qge (n:=11) (S:=fun w'=>True) (ds:=[]) #[false,false,false,false,false,false,false,false,false,false,false] qq_6 rfl rfl trivial (fun hHeld=>?_);refine Qhv Qbb.tab3 Qbb.bits3 (fun HT_ HW_=>?_)
   generalize w.drew=w8 at HB hHeld ⊢
   refine Qgh (i:=0) (N:=some 9) (v:=?_) (a':=?_) #[true,false,false,false,false,false,false,false,false,false,false] rfl rfl (Qhn HT_.out qq_6) (fun _ _ _ h=>h) (Or.inl ⟨by rfl,?_⟩) ?_ ?_
   rotate_left
   ·intro w'
    go_simp
    with_reducible rfl
   rotate_left
   ·exact qq_2
   refine Qgh (i:=1) (N:=some 10) (v:=?_) (a':=?_) #[true,true,false,false,false,false,false,false,false,false,false] rfl rfl (Qhn HT_.out qq_6) (fun _ _ _ h=>h) (Or.inl ⟨by rfl,?_⟩) ?_ ?_
   rotate_left
   ·intro w'
    go_simp
    with_reducible rfl
   rotate_left
   ·exact qq_2
   refine Qgh (i:=2) (N:=some 11) (v:=?_) (a':=?_) #[true,true,true,false,false,false,false,false,false,false,false] rfl rfl (Qhn HT_.out qq_6) (fun _ _ _ h=>h) (Or.inl ⟨by rfl,?_⟩) ?_ ?_
   rotate_left
   ·intro w'
    go_simp
    with_reducible rfl
   rotate_left
   ·exact qq_2
   refine Qgh (i:=3) (N:=some 12) (v:=?_) (a':=?_) #[true,true,true,true,false,false,false,false,false,false,false] rfl rfl (Qhn HT_.out qq_6) (fun _ _ _ h=>h) (Or.inl ⟨by rfl,?_⟩) ?_ ?_
   rotate_left
   ·intro w'
    go_simp
    with_reducible rfl
   rotate_left
   ·exact qq_2
   refine Qgh (i:=6) (N:=some 15) (v:=?_) (a':=?_) #[true,true,true,true,false,false,true,false,false,false,false] rfl rfl (Qhn HT_.out qq_6) (fun _ _ _ h=>h) (Or.inl ⟨by rfl,?_⟩) ?_ ?_
   rotate_left
   ·intro w'
    go_simp
    with_reducible rfl
   rotate_left
   ·exact qq_2
   refine Qgh (i:=7) (N:=some 16) (v:=?_) (a':=?_) #[true,true,true,true,false,false,true,true,false,false,false] rfl rfl (Qhn HT_.out qq_6) (fun _ _ _ h=>h) (Or.inl ⟨by rfl,?_⟩) ?_ ?_
   rotate_left
   ·intro w'
    go_simp
    with_reducible rfl
   rotate_left
   ·exact qq_2
   refine Qgl (σ:=Value) 2 #[true,true,true,true,true,true,true,true,true,false,false] (fun s_=>[(13,s_),(14,.string (strOfNums y295)),(17,.string t298)]) (fun s_ w'=>(Kd.R (Kd.int .u8) 5 w' w.heap.size (fun _=>True) s_ y295)∧(Below w.heap.size w w')) ?_ ?_
   rotate_left
   ·intro hCont
    refine two_ (i:=4) (j:=8) (Ni:=some 13) (Nj:=some 17) #[true,true,true,true,true,false,true,true,false,false,false] #[true,true,true,true,false,false,true,true,true,false,false] rfl rfl rfl rfl (Qhp HT_.out qq_6) (by decide) (by decide) (fun K hK=>?_) (fun K hK=>?_)
    ·skip
     refine Kd.R_lit_step (Kd.int .u8) _ 5 ?hg (N:=13) ?hd (xs:=([(IntKind.u64.wrap (128+(Int.tmod a0 128)))%256]:List Int)) (inner:=[.int .u8 ((IntKind.u64.wrap (128+(Int.tmod a0 128)))%256)]) (ok:=fun _=>True) (okp:=fun _=>True) ?hr ?hp (fun _ hk=>hk) trivial (Below.refl _ _) (Nat.le_refl _) (by simp) ?_;(case hd=>rfl);(case hg=>rfl);(case hr=>exact qq_11);(case hp=>exact(Reps.one (show Kd.M (Kd.int .u8) _ _ _ ((IntKind.u64.wrap (128+(Int.tmod a0 128)))%256) [.int .u8 ((IntKind.u64.wrap (128+(Int.tmod a0 128)))%256)] from rfl) (Reps.none _ _)))
     intro v296 w9 ho10 hb hg_ hnew_
     clear hg_ hnew_
     (first|rw[← Ny295.out]at ho10 |(simp only[Int.reduceToNat]at ho10;rw[← Ny295.out]at ho10))
     have n0_:=QA (Kd.R_lower ho10 (Qfg qq_b))
     have n1_:=QA (Qfh qq_b hb)
     clear HB
     have HO297:=n0_
     have HB:=n1_
     clear n0_ n1_ hb ho10
     refine hK.out _ _ trivial (fun hHeld=>?_)
     clear hK K
     refine Qgm (a':=?_) ?_ ?_
     rotate_left
     ·show Act.put _ (some 13) _=_
      simp only[Act.put,List.setIfInBounds_toArray,List.set_cons_zero,List.set_cons_succ,Qgr,Qgs]
      rfl
     refine two_ (i:=5) (j:=8) (Ni:=some 14) (Nj:=some 17) #[true,true,true,true,true,true,true,true,false,false,false] #[true,true,true,true,true,false,true,true,true,false,false] rfl rfl rfl rfl (Qhp HT_.out qq_6) (by decide) (by decide) (fun K hK=>?_) (fun K hK=>?_)
     ·skip
      have hcv11:=Qdd (P:=Tryz.prog) Tryz.underlying52 Tryz.underlying5 Tryz.underlying9 (Kd.own_of_R HO297.out)
      refine Qgq (w1:=?_) (v:=?_) (by rfl) rfl ?_ ?_
      rotate_left 2
      ·go_simp
       constructor
       ·rfl
       ·rfl
      clear hcv11
      refine hK.out _ _ trivial (fun hHeld=>?_)
      clear hK K
      refine Qgm (a':=?_) ?_ ?_
      rotate_left
      ·show Act.put _ (some 14) _=_
       simp only[Act.put,List.setIfInBounds_toArray,List.set_cons_zero,List.set_cons_succ,Qgr,Qgs]
       rfl
      refine one_ (i:=8) (N:=some 17) #[true,true,true,true,true,true,true,true,true,false,false] rfl rfl (Qho HT_.out qq_6) (by decide) (fun K hK=>?_)
      refine Qgo Tryz.func98 qq_6 rfl #[.int .u64 (IntKind.u64.wrap (Int.tdiv a0 128))] (by rfl) rfl rfl qq_1 ?_
      with_reducible refine(ih k (by omega) (IntKind.u64.wrap (Int.tdiv a0 128)) t298 _ A6.out).mono ?_
      rintro e w12 ⟨rfl,hb⟩
      refine⟨_,rfl,?_⟩
      have n0_:=QA (Kd.R_below qq_3 hb)
      have n1_:=QA (Qfh qq_b hb)
      clear HO297 HB
      have HO297:=n0_
      have HB:=n1_
      clear n0_ n1_
      (try clear hb)
      (try clear hb2)
      (try clear hk)
      (try clear hi)
      refine hK.out _ _ trivial (fun hHeld=>?_)
      clear hK K
      refine Qgm (a':=?_) ?_ ?_
      rotate_left
      ·show Act.put _ (some 17) _=_
       simp only[Act.put,List.setIfInBounds_toArray,List.set_cons_zero,List.set_cons_succ,Qgr,Qgs]
       rfl
      exact Qgm (by simp only[Qgk,Act.put,List.setIfInBounds_toArray,List.set_cons_zero,List.set_cons_succ]) (hCont (v296) _ ⟨qq_3,qq_b⟩)
     ·skip
      refine Qgo Tryz.func98 qq_6 rfl #[.int .u64 (IntKind.u64.wrap (Int.tdiv a0 128))] (by rfl) rfl rfl qq_1 ?_
      with_reducible refine(ih k (by omega) (IntKind.u64.wrap (Int.tdiv a0 128)) t298 _ A6.out).mono ?_
      rintro e w11 ⟨rfl,hb⟩
      refine⟨_,rfl,?_⟩
      have n0_:=QA (Kd.R_below qq_3 hb)
      have n1_:=QA (Qfh qq_b hb)
      clear HO297 HB
      have HO297:=n0_
      have HB:=n1_
      clear n0_ n1_
      (try clear hb)
      (try clear hb2)
      (try clear hk)
      (try clear hi)
      refine hK.out _ _ trivial (fun hHeld=>?_)
      clear hK K
      refine Qgm (a':=?_) ?_ ?_
      rotate_left
      ·show Act.put _ (some 17) _=_
       simp only[Act.put,List.setIfInBounds_toArray,List.set_cons_zero,List.set_cons_succ,Qgr,Qgs]
       rfl
      refine one_ (i:=5) (N:=some 14) #[true,true,true,true,true,true,true,true,true,false,false] rfl rfl (Qho HT_.out qq_6) (by decide) (fun K hK=>?_)
      have hcv12:=Qdd (P:=Tryz.prog) Tryz.underlying52 Tryz.underlying5 Tryz.underlying9 (Kd.own_of_R HO297.out)
      refine Qgq (w1:=?_) (v:=?_) (by rfl) rfl ?_ ?_
      rotate_left 2
      ·go_simp
       constructor
       ·rfl
       ·rfl
      clear hcv12
      refine hK.out _ _ trivial (fun hHeld=>?_)
      clear hK K
      refine Qgm (a':=?_) ?_ ?_
      rotate_left
      ·show Act.put _ (some 14) _=_
       simp only[Act.put,List.setIfInBounds_toArray,List.set_cons_zero,List.set_cons_succ,Qgr,Qgs]
       rfl
      exact Qgm (by simp only[Qgk,Act.put,List.setIfInBounds_toArray,List.set_cons_zero,List.set_cons_succ]) (hCont (v296) _ ⟨qq_3,qq_b⟩)
    ·skip
     refine Qgo Tryz.func98 qq_6 rfl #[.int .u64 (IntKind.u64.wrap (Int.tdiv a0 128))] (by rfl) rfl rfl qq_1 ?_
     with_reducible refine(ih k (by omega) (IntKind.u64.wrap (Int.tdiv a0 128)) t298 _ A6.out).mono ?_
     rintro e w9 ⟨rfl,hb⟩
     refine⟨_,rfl,?_⟩
     have n0_:=QA (Qfh qq_b hb)
     clear HB
     have HB:=n0_
     clear n0_
     (try clear hb)
     (try clear hb2)
     (try clear hk)
     (try clear hi)
     refine hK.out _ _ trivial (fun hHeld=>?_)
     clear hK K
     refine Qgm (a':=?_) ?_ ?_
     rotate_left
     ·show Act.put _ (some 17) _=_
      simp only[Act.put,List.setIfInBounds_toArray,List.set_cons_zero,List.set_cons_succ,Qgr,Qgs]
      rfl
     refine one_ (i:=4) (N:=some 13) #[true,true,true,true,true,false,true,true,true,false,false] rfl rfl (Qho HT_.out qq_6) (by decide) (fun K hK=>?_)
     refine Kd.R_lit_step (Kd.int .u8) _ 5 ?hg (N:=13) ?hd (xs:=([(IntKind.u64.wrap (128+(Int.tmod a0 128)))%256]:List Int)) (inner:=[.int .u8 ((IntKind.u64.wrap (128+(Int.tmod a0 128)))%256)]) (ok:=fun _=>True) (okp:=fun _=>True) ?hr ?hp (fun _ hk=>hk) trivial (Below.refl _ _) (Nat.le_refl _) (by simp) ?_;(case hd=>rfl);(case hg=>rfl);(case hr=>exact qq_11);(case hp=>exact(Reps.one (show Kd.M (Kd.int .u8) _ _ _ ((IntKind.u64.wrap (128+(Int.tmod a0 128)))%256) [.int .u8 ((IntKind.u64.wrap (128+(Int.tmod a0 128)))%256)] from rfl) (Reps.none _ _)))
     intro v296 w10 ho11 hb hg_ hnew_
     clear hg_ hnew_
     (first|rw[← Ny295.out]at ho11 |(simp only[Int.reduceToNat]at ho11;rw[← Ny295.out]at ho11))
     have n0_:=QA (Kd.R_lower ho11 (Qfg qq_b))
     have n1_:=QA (Qfh qq_b hb)
     clear HB
     have HO297:=n0_
     have HB:=n1_
     clear n0_ n1_ hb ho11
     refine hK.out _ _ trivial (fun hHeld=>?_)
     clear hK K
     refine Qgm (a':=?_) ?_ ?_
     rotate_left
     ·show Act.put _ (some 13) _=_
      simp only[Act.put,List.setIfInBounds_toArray,List.set_cons_zero,List.set_cons_succ,Qgr,Qgs]
      rfl
     refine one_ (i:=5) (N:=some 14) #[true,true,true,true,true,true,true,true,true,false,false] rfl rfl (Qho HT_.out qq_6) (by decide) (fun K hK=>?_)
     have hcv12:=Qdd (P:=Tryz.prog) Tryz.underlying52 Tryz.underlying5 Tryz.underlying9 (Kd.own_of_R HO297.out)
     refine Qgq (w1:=?_) (v:=?_) (by rfl) rfl ?_ ?_
     rotate_left 2
     ·go_simp
      constructor
      ·rfl
      ·rfl
     clear hcv12
     refine hK.out _ _ trivial (fun hHeld=>?_)
     clear hK K
     refine Qgm (a':=?_) ?_ ?_
     rotate_left
     ·show Act.put _ (some 14) _=_
      simp only[Act.put,List.setIfInBounds_toArray,List.set_cons_zero,List.set_cons_succ,Qgr,Qgs]
      rfl
     exact Qgm (by simp only[Qgk,Act.put,List.setIfInBounds_toArray,List.set_cons_zero,List.set_cons_succ]) (hCont (v296) _ ⟨qq_3,qq_b⟩)
   rintro v296 w13 ⟨h0_,h1_⟩
   have n0_:Aside0 (Kd.R (Kd.int .u8) 5 w13 w.heap.size (fun _=>True) v296 y295):=⟨h0_⟩
   have n1_:Aside0 (Below w.heap.size w w13):=⟨h1_⟩
   clear HB h0_ h1_
   have HO297:=n0_
   have HB:=n1_
   clear n0_ n1_
   have hHeld:=trivial
   refine Qgm (a':=?_) ?_ ?_
   rotate_left
   ·simp only[Qgk,Act.put,List.setIfInBounds_toArray,List.set_cons_zero,List.set_cons_succ]
    rfl
   refine Qgh (i:=9) (N:=some 18) (v:=?_) (a':=?_) #[true,true,true,true,true,true,true,true,true,true,false] rfl rfl (Qhn HT_.out qq_6) (fun _ _ _ h=>h) (Or.inl ⟨by rfl,?_⟩) ?_ ?_
   rotate_left
   ·intro w'
    go_simp
    with_reducible rfl
   rotate_left
   ·exact qq_2
   refine Qgh (i:=10) (N:=some 2) (v:=?_) (a':=?_) #[true,true,true,true,true,true,true,true,true,true,true] rfl rfl (Qhn HT_.out qq_6) (fun _ _ _ h=>h) (Or.inl ⟨by rfl,?_⟩) ?_ ?_
   rotate_left
   ·intro w'
    go_simp
    with_reducible rfl
   rotate_left
   ·exact qq_2
   refine Qgj (Qhq HT_.out qq_6) ?_
   try go_wp2
   go_ret
   exact⟨by first|rfl |(simp[Qis,Qit]<;>rfl) |(simp[*,Qis,Qit]<;>rfl),qq_b⟩
  ·rw[if_neg c7]at H
   exact absurd H (by simp)
def Qaw.l0:Nat→Int→ByteArray→Int→Int→Option (ByteArray)
 | 0,_,_,_,_=>none
 | k+1,x0,x5,x6,x7=>if x7<x6 then((some (([(Int.tmod x0 256)%256]:List Int):List Int)).bind fun y286=>(if x5.size+(strOfNums y286).size≤9223372036854775807 then(Qaw.l0 k (IntKind.u64.wrap (Int.tdiv x0 256)) (x5++(strOfNums y286)) x6 (wrap64 (x7+1)))else(none)))else(some x5)
def Qaw.f(k:Nat)(a0:Int)(a1:Int):Option (ByteArray):=Qaw.l0 k a0 (⟨#[]⟩:ByteArray) a1 0
theorem Qaw.calls(k:Nat)(a0:Int)(a1:Int)(r:ByteArray)(w:World)(h:Qaw.f k a0 a1=some r) :
  Calls Tryz.prog 103 #[.int .u64 a0,.int .i64 a1] w fun e w'=>e=.returned (.string r)∧Below w.heap.size w w':=by
 have HB:=QA (Below.refl w.heap.size w)
 have H:(Qaw.l0 k a0 (⟨#[]⟩:ByteArray) a1 0)=some r:=h
 clear h
 have H':=QA H
 clear H
 go_enter Tryz.func103,Tryz.ntmps103
 go_wp2
 go_loopg [0,5,7] k (fun kq v0 v5 v7 w'=>∃(x0_1:Int) (x5_1:ByteArray) (x7_1:Int),v0=.int .u64 x0_1∧v5=.string x5_1∧v7=.int .i64 x7_1∧Aside0 (Qaw.l0 kq x0_1 x5_1 a1 x7_1=some r)∧Aside0 (kq≤k)∧Aside0 (Below w.heap.size w w'))
 case atStart=>exact⟨(a0),((⟨#[]⟩:ByteArray)),(0),qq_5,qq_5,qq_5,H',⟨Nat.le_refl _⟩,⟨qq_b⟩⟩
 case round =>
  clear H'
  obtain⟨x0_1,x5_1,x7_1,rfl,rfl,rfl,HA,HK1,HB⟩:=hrel
  cases gk with
  | zero=>exact absurd HA.out (by simp[Qaw.l0])
  | succ k1 =>
   have H:=HA.out
   clear HA
   simp only[Qaw.l0]at H
   by_cases c3:x7_1<a1
   ·rw[if_pos c3]at H
    have c3b0:decide (x7_1<a1)=true:=decide_eq_true c3
    clear c3
    obtain⟨y286,hy286⟩:∃y_:List Int,y_=(([(Int.tmod x0_1 256)%256]:List Int)):=⟨_,rfl⟩
    replace H:(if x5_1.size+(strOfNums y286).size≤9223372036854775807 then(Qaw.l0 k1 (IntKind.u64.wrap (Int.tdiv x0_1 256)) (x5_1++(strOfNums y286)) a1 (wrap64 (x7_1+1)))else(none))=some r:=by first |(rw[hy286];with_reducible exact H) |(have H2_:=(Option.bind_some _ _).symm.trans H;rw[hy286];with_reducible exact H2_) |(have H2_:=(Option.bind_some _ _).symm.trans H;with_reducible exact H2_)|with_reducible exact H |(rw[hy286];exact H)|exact H
    have Ny286:=QA hy286
    clear hy286
    by_cases c4:x5_1.size+(strOfNums y286).size≤9223372036854775807
    ·rw[if_pos c4]at H
     have c4b0:=eq_true c4
     have c4b1:decide (x5_1.size+(strOfNums y286).size≤9223372036854775807)=true:=decide_eq_true c4
     try have c4b2:(9223372036854775807<x5_1.size+(strOfNums y286).size)=False:=eq_false (Nat.not_lt.2 c4)
     have H':=QA H
     clear H
     go_wp2_with (first |((with_reducible refine Qfs (N:=13) rfl ?_);refine Kd.R_lit (Kd.int .u8) _ 5 ?hg (N:=13) ?hd (xs:=([(Int.tmod x0_1 256)%256]:List Int)) (inner:=[.int .u8 ((Int.tmod x0_1 256)%256)]) (ok:=fun _=>True) (okp:=fun _=>True) ?hr ?hp (fun _ hk=>hk) trivial (Below.refl _ _) (Nat.le_refl _) (by simp) ?_;(case hd=>rfl);(case hg=>rfl);(case hr=>exact qq_11);(case hp=>exact(Reps.one (show Kd.M (Kd.int .u8) _ _ _ ((Int.tmod x0_1 256)%256) [.int .u8 ((Int.tmod x0_1 256)%256)] from rfl) (Reps.none _ _)));intro v287 w5 ho6 hb hg_ hnew_;clear hg_ hnew_;(first|rw[← Ny286.out]at ho6 |(simp only[Int.reduceToNat]at ho6;rw[← Ny286.out]at ho6));have n0_:=QA (Kd.R_lower ho6 (Qfg qq_b));have n1_:=QA (Qfh qq_b hb);clear HB;have HO288:=n0_;have HB:=n1_;clear n0_ n1_ hb ho6;have hcv7:=Qdd (P:=Tryz.prog) Tryz.underlying52 Tryz.underlying5 Tryz.underlying9 (Kd.own_of_R HO288.out)))
     go_roundg k1
     case measure=>have:=HK1.out;omega
     case rel=>exact⟨(IntKind.u64.wrap (Int.tdiv x0_1 256)),(x5_1++(strOfNums y286)),(wrap64 (x7_1+1)),qq_5,qq_5,qq_5,H',⟨by have:=HK1.out;omega⟩,⟨qq_b⟩⟩
    ·rw[if_neg c4]at H
     exact absurd H (by simp)
   ·rw[if_neg c3]at H
    have c3b0:decide (x7_1<a1)=false:=decide_eq_false c3
    clear c3
    obtain rfl:=Option.some.inj H
    go_wp2
    go_ret
    exact⟨by first|rfl |(simp[Qis,Qit]<;>rfl) |(simp[*,Qis,Qit]<;>rfl),qq_b⟩
mutual
def Qbi.l0:Nat→ByteArray→ByteArray→ByteArray→Int→Option (ByteArray)
 | 0,_,_,_,_=>none
 | k+1,x3,x4,x5,x6=>if x6<(x3.size:Int)then(if 0≤x6 then(if(bt x3 x6)=0 then(if x6=(wrap64 ((x3.size:Int)-1))then(if x5.toList=([]:List UInt8)then(if x6 > 0 then(if 0≤(wrap64 (x6-1))then(if(wrap64 (x6-1))<(x3.size:Int)then(Qbi.j1 k x3 x4 x5 x6 ((bt x3 (wrap64 (x6-1))) != 0))else(none))else(none))else(Qbi.j1 k x3 x4 x5 x6 false))else(Qbi.j1 k x3 x4 x5 x6 false))else(Qbi.j1 k x3 x4 x5 x6 false))else(if x6≤(wrap64 (x6+1))then(if(wrap64 (x6+1))≤(x3.size:Int)then(if x5.size+(x3.extract (x6:Int).toNat ((wrap64 (x6+1)):Int).toNat).size≤9223372036854775807 then(if((x5++(x3.extract (x6:Int).toNat ((wrap64 (x6+1)):Int).toNat)).size:Int)=254 then(if x4.size+1≤9223372036854775807 then(if(x4++(⟨#[255]⟩:ByteArray)).size+(x5++(x3.extract (x6:Int).toNat ((wrap64 (x6+1)):Int).toNat)).size≤9223372036854775807 then(Qbi.l0 k x3 ((x4++(⟨#[255]⟩:ByteArray))++(x5++(x3.extract (x6:Int).toNat ((wrap64 (x6+1)):Int).toNat))) (⟨#[]⟩:ByteArray) (wrap64 (x6+1)))else(none))else(none))else(Qbi.l0 k x3 x4 (x5++(x3.extract (x6:Int).toNat ((wrap64 (x6+1)):Int).toNat)) (wrap64 (x6+1))))else(none))else(none))else(none)))else(none))else(some x4)
def Qbi.j1:Nat→ByteArray→ByteArray→ByteArray→Int→Bool→Option (ByteArray)
 | 0,_,_,_,_,_=>none
 | k+1,x3,x4,x5,x6,x38=>if x38=true then(some x4)else((some (([(wrap64 ((x5.size:Int)+1))%256]:List Int):List Int)).bind fun y283=>(if x4.size+(strOfNums y283).size≤9223372036854775807 then(if(x4++(strOfNums y283)).size+x5.size≤9223372036854775807 then(Qbi.l0 k x3 ((x4++(strOfNums y283))++x5) (⟨#[]⟩:ByteArray) (wrap64 (x6+1)))else(none))else(none)))
end
def Qbi.f(k:Nat)(a0:ByteArray):Option (ByteArray):=if a0.size+1≤9223372036854775807 then(Qbi.l0 k (a0++(⟨#[0]⟩:ByteArray)) (⟨#[]⟩:ByteArray) (⟨#[]⟩:ByteArray) 0)else(none)
theorem Qbi.calls (k:Nat) (a0:ByteArray) (r:ByteArray) (w:World) (h:Qbi.f k a0=some r) :
  Calls Tryz.prog 102 #[.string a0] w fun e w'=>e=.returned (.string r)∧Below w.heap.size w w':=by
 have HB:=QA (Below.refl w.heap.size w)
 have H:(if a0.size+1≤9223372036854775807 then(Qbi.l0 k (a0++(⟨#[0]⟩:ByteArray)) (⟨#[]⟩:ByteArray) (⟨#[]⟩:ByteArray) 0)else(none))=some r:=h
 clear h
 by_cases c2:a0.size+1≤9223372036854775807
 ·rw [if_pos c2]at H
  have c2b0:=eq_true c2
  have c2b1:decide (a0.size+1≤9223372036854775807)=true:=decide_eq_true c2
  try have c2b2:(9223372036854775807<a0.size+1)=False:=eq_false (Nat.not_lt.2 c2)
  have H':=QA H
  clear H
  go_enter Tryz.func102,Tryz.ntmps102
  go_wp2
  generalize hal:a0++(⟨#[0]⟩:ByteArray)=al at *
  clear hal
  go_loopg [4,5,6] k (fun kq v4 v5 v6 w'=>∃(x4_1:ByteArray) (x5_1:ByteArray) (x6_1:Int),v4=.string x4_1∧v5=.string x5_1∧v6=.int .i64 x6_1∧Aside0 (Qbi.l0 kq al x4_1 x5_1 x6_1=some r)∧Aside0 (kq≤k)∧Aside0 (Below w.heap.size w w'))
  case atStart=>exact⟨((⟨#[]⟩:ByteArray)),((⟨#[]⟩:ByteArray)),(0),qq_5,qq_5,qq_5,H',⟨Nat.le_refl _⟩,⟨qq_b⟩⟩
  case round =>
   clear H'
   try clear c2
   try clear c2b0
   try clear c2b1
   try clear c2b2
   obtain⟨x4_1,x5_1,x6_1,rfl,rfl,rfl,HA,HK1,HB⟩:=hrel
   cases gk with
   | zero=>exact absurd HA.out (by simp[Qbi.l0])
   | succ k1 =>
    have H:=HA.out
    clear HA
    simp only[Qbi.l0]at H
    by_cases c3:x6_1<(al.size:Int)
    ·rw [if_pos c3]at H
     have c3b0:decide (x6_1<(al.size:Int))=true:=decide_eq_true c3
     clear c3
     by_cases c4:0≤x6_1
     ·rw [if_pos c4]at H
      have c4b0:decide (0≤x6_1)=true:=decide_eq_true c4
      clear c4
      by_cases c6:(bt al x6_1)=0
      ·rw [if_pos c6]at H
       have c6b0:((bt al x6_1) == 0)=true:=beq_iff_eq.mpr c6
       have c6b1:((bt al x6_1) != 0)=false:=bne_eq_false_iff_eq.mpr c6
       clear c6
       have HC7:=QA H
       clear H
       have p5:0≤(x6_1:Int):=of_decide_eq_true qq_4
       have q5:x6_1<(al.size:Int):=of_decide_eq_true qq_4
       have hx5:=Qct al x6_1
       replace p5:=eq_true p5
       replace q5:=eq_true q5
       go_upto_region 8 with(fail)
       go_cut [38] (fun v38 wc=>∃(kq:Nat) (x38_6:Bool),v38=.bool x38_6∧Aside0 (Qbi.j1 kq al x4_1 x5_1 x6_1 x38_6=some r)∧Aside0 (kq≤k1)∧Aside0 (Below w.heap.size w wc))
       case first =>
        have H:=HC7.out
        clear HC7
        by_cases c8:x6_1=(wrap64 ((al.size:Int)-1))
        ·rw [if_pos c8]at H
         have c8b0:(x6_1 == (wrap64 ((al.size:Int)-1)))=true:=beq_iff_eq.mpr c8
         have c8b1:(x6_1 != (wrap64 ((al.size:Int)-1)))=false:=bne_eq_false_iff_eq.mpr c8
         clear c8
         (first|rw[c8b0] |(simp only[Qgr,Qgs];rw[c8b0])|skip)
         by_cases c9:x5_1.toList=([]:List UInt8)
         ·rw [if_pos c9]at H
          have c9b0:(x5_1.toList == ([]:List UInt8))=true:=beq_iff_eq.mpr c9
          have c9b1:(x5_1.toList != ([]:List UInt8))=false:=bne_eq_false_iff_eq.mpr c9
          clear c9
          by_cases c10:x6_1 > 0
          ·rw[if_pos c10]at H
           have c10b0:decide (0<x6_1)=true:=decide_eq_true c10
           clear c10
           obtain⟨ji11,hji11⟩:∃j_:Int,(wrap64 (x6_1-1))=j_:=⟨_,rfl⟩
           replace H:(if 0≤(ji11)then(if(ji11)<(al.size:Int)then(Qbi.j1 k1 al x4_1 x5_1 x6_1 ((bt al (ji11)) != 0))else(none))else(none))=some r:=by first |(rw[hji11]at H;exact H) |(simp only[hji11]at H ⊢;exact H)
           have hji11w:(IntKind.i64.wrap (x6_1-1))=ji11:=(Qgr _).trans hji11
           by_cases c12:0≤(ji11)
           ·rw[if_pos c12]at H
            have c12b0:decide (0≤(ji11))=true:=decide_eq_true c12
            clear c12
            by_cases c13:(ji11)<(al.size:Int)
            ·rw[if_pos c13]at H
             have c13b0:decide ((ji11)<(al.size:Int))=true:=decide_eq_true c13
             clear c13
             have H':=QA H
             clear H
             have p14:0≤((ji11):Int):=of_decide_eq_true qq_4
             have q14:(ji11)<(al.size:Int):=of_decide_eq_true qq_4
             have hx14:=Qct al (ji11)
             replace p14:=eq_true p14
             replace q14:=eq_true q14
             go_wp2
             go_meet
             case rel=>exact⟨_,(((bt al (ji11)) != 0)),(by first|rfl |(simp;done) |(simp only[← hji11]<;>(first|rfl|simp)) |(simp[*];done)),H',⟨by have:=HK1.out;first|omega|exact Nat.le_refl _⟩,⟨qq_b⟩⟩
            ·rw[if_neg c13]at H
             exact absurd H (by simp)
           ·rw[if_neg c12]at H
            exact absurd H (by simp)
          ·rw[if_neg c10]at H
           have c10b0:decide (0<x6_1)=false:=decide_eq_false c10
           clear c10
           have H':=QA H
           clear H
           go_wp2
           go_meet
           case rel=>exact⟨_,(false),qq_5,H',⟨by have:=HK1.out;first|omega|exact Nat.le_refl _⟩,⟨qq_b⟩⟩
         ·rw[if_neg c9]at H
          have c9b0:(x5_1.toList == ([]:List UInt8))=false:=beq_eq_false_iff_ne.mpr c9
          have c9b1:(x5_1.toList != ([]:List UInt8))=true:=bne_iff_ne.mpr c9
          have H':=QA H
          clear H
          go_wp2
          go_meet
          case rel=>exact⟨_,(false),qq_5,H',⟨by have:=HK1.out;first|omega|exact Nat.le_refl _⟩,⟨qq_b⟩⟩
        ·rw[if_neg c8]at H
         have c8b0:(x6_1 == (wrap64 ((al.size:Int)-1)))=false:=beq_eq_false_iff_ne.mpr c8
         have c8b1:(x6_1 != (wrap64 ((al.size:Int)-1)))=true:=bne_iff_ne.mpr c8
         (first|rw[c8b0] |(simp only[Qgr,Qgs];rw[c8b0])|skip)
         have H':=QA H
         clear H
         go_wp2
         go_meet
         case rel=>exact⟨_,(false),qq_5,H',⟨by have:=HK1.out;first|omega|exact Nat.le_refl _⟩,⟨qq_b⟩⟩
       case rest =>
        clear HC7
        try clear c2
        try clear c2b0
        try clear c2b1
        try clear c2b2
        try clear c3
        try clear c3b0
        try clear c4
        try clear c4b0
        try clear p5
        try clear q5
        try clear hx5
        try clear c6
        try clear c6b0
        try clear c6b1
        try clear c8
        try clear c8b0
        try clear c8b1
        try clear c9
        try clear c9b0
        try clear c9b1
        try clear c10
        try clear c10b0
        try clear c12
        try clear c12b0
        try clear c13
        try clear c13b0
        try clear p14
        try clear q14
        try clear hx14
        try clear p14
        try clear p5
        try clear q14
        try clear q5
        obtain⟨kq,x38_6,rfl,HA,HJ6,HB⟩:=hcut
        cases kq with
        | zero=>exact absurd HA.out (by simp[Qbi.j1])
        | succ kj6 =>
         have H:=HA.out
         clear HA
         simp only[Qbi.j1]at H
         by_cases c15:x38_6=true
         ·subst c15
          have H1:(some x4_1)=some r:=by rw[if_pos rfl]at H;exact H
          clear H
          have H:=H1
          clear H1
          obtain rfl:=Option.some.inj H
          go_wp2
          go_ret
          exact⟨by first|rfl |(simp[Qis,Qit]<;>rfl) |(simp[*,Qis,Qit]<;>rfl),qq_b⟩
         ·replace c15:=Bool.eq_false_iff.mpr c15
          subst c15
          have H1:((some (([(wrap64 ((x5_1.size:Int)+1))%256]:List Int):List Int)).bind fun y283=>(if x4_1.size+(strOfNums y283).size≤9223372036854775807 then(if(x4_1++(strOfNums y283)).size+x5_1.size≤9223372036854775807 then(Qbi.l0 kj6 al ((x4_1++(strOfNums y283))++x5_1) (⟨#[]⟩:ByteArray) (wrap64 (x6_1+1)))else(none))else(none)))=some r:=by rw[if_neg (show ¬(false=true)by decide)]at H;exact H
          clear H
          have H:=H1
          clear H1
          obtain⟨y283,hy283⟩:∃y_:List Int,y_=(([(wrap64 ((x5_1.size:Int)+1))%256]:List Int)):=⟨_,rfl⟩
          replace H:(if x4_1.size+(strOfNums y283).size≤9223372036854775807 then(if(x4_1++(strOfNums y283)).size+x5_1.size≤9223372036854775807 then(Qbi.l0 kj6 al ((x4_1++(strOfNums y283))++x5_1) (⟨#[]⟩:ByteArray) (wrap64 (x6_1+1)))else(none))else(none))=some r:=by first |(rw[hy283];with_reducible exact H) |(have H2_:=(Option.bind_some _ _).symm.trans H;rw[hy283];with_reducible exact H2_) |(have H2_:=(Option.bind_some _ _).symm.trans H;with_reducible exact H2_)|with_reducible exact H |(rw[hy283];exact H)|exact H
          have Ny283:=QA hy283
          clear hy283
          by_cases c16:x4_1.size+(strOfNums y283).size≤9223372036854775807
          ·rw[if_pos c16]at H
           have c16b0:=eq_true c16
           have c16b1:decide (x4_1.size+(strOfNums y283).size≤9223372036854775807)=true:=decide_eq_true c16
           try have c16b2:(9223372036854775807<x4_1.size+(strOfNums y283).size)=False:=eq_false (Nat.not_lt.2 c16)
           by_cases c17:(x4_1++(strOfNums y283)).size+x5_1.size≤9223372036854775807
           ·rw[if_pos c17]at H
            have c17b0:=eq_true c17
            have c17b1:decide ((x4_1++(strOfNums y283)).size+x5_1.size≤9223372036854775807)=true:=decide_eq_true c17
            try have c17b2:(9223372036854775807<(x4_1++(strOfNums y283)).size+x5_1.size)=False:=eq_false (Nat.not_lt.2 c17)
            try have c17b3:=c17b2
            try simp only[ByteArray.size_append,(show ∀x_:UInt8,(⟨#[x_]⟩:ByteArray).size=1 from fun _=>rfl),(show ∀x_ y_:UInt8,(⟨#[x_,y_]⟩:ByteArray).size=2 from fun _ _=>rfl)]at c17b3
            try have c17b4:=c17b2
            try simp only[ByteArray.size_append,ByteArray.size_extract,(show ∀x_:UInt8,(⟨#[x_]⟩:ByteArray).size=1 from fun _=>rfl),(show ∀x_ y_:UInt8,(⟨#[x_,y_]⟩:ByteArray).size=2 from fun _ _=>rfl)]at c17b4
            have H':=QA H
            clear H
            go_wp2_with (first |((with_reducible refine Qfs (N:=44) rfl ?_);refine Kd.R_lit (Kd.int .u8) _ 5 ?hg (N:=44) ?hd (xs:=([(wrap64 ((x5_1.size:Int)+1))%256]:List Int)) (inner:=[.int .u8 ((wrap64 ((x5_1.size:Int)+1))%256)]) (ok:=fun _=>True) (okp:=fun _=>True) ?hr ?hp (fun _ hk=>hk) trivial (Below.refl _ _) (Nat.le_refl _) (by simp) ?_;(case hd=>rfl);(case hg=>rfl);(case hr=>exact qq_11);(case hp=>exact(Reps.one (show Kd.M (Kd.int .u8) _ _ _ ((wrap64 ((x5_1.size:Int)+1))%256) [.int .u8 ((wrap64 ((x5_1.size:Int)+1))%256)] from rfl) (Reps.none _ _)));intro v284 w18 ho19 hb hg_ hnew_;clear hg_ hnew_;(first|rw[← Ny283.out]at ho19 |(simp only[Int.reduceToNat]at ho19;rw[← Ny283.out]at ho19));have n0_:=QA (Kd.R_lower ho19 (Qfg qq_b));have n1_:=QA (Qfh qq_b hb);clear HB;have HO285:=n0_;have HB:=n1_;clear n0_ n1_ hb ho19;have hcv20:=Qdd (P:=Tryz.prog) Tryz.underlying52 Tryz.underlying5 Tryz.underlying9 (Kd.own_of_R HO285.out)))
            go_roundg kj6
            case measure=>have:=HK1.out;have:=HJ6.out;omega
            case rel=>exact⟨((x4_1++(strOfNums y283))++x5_1),((⟨#[]⟩:ByteArray)),(wrap64 (x6_1+1)),qq_5,qq_5,qq_5,H',⟨by have:=HK1.out;have:=HJ6.out;omega⟩,⟨qq_b⟩⟩
           ·rw[if_neg c17]at H
            exact absurd H (by simp)
          ·rw[if_neg c16]at H
           exact absurd H (by simp)
      ·rw [if_neg c6]at H
       have c6b0:((bt al x6_1) == 0)=false:=beq_eq_false_iff_ne.mpr c6
       have c6b1:((bt al x6_1) != 0)=true:=bne_iff_ne.mpr c6
       have c21b0:=eq_true (of_decide_eq_true qq_4:0≤x6_1)
       by_cases c22:x6_1≤(wrap64 (x6_1+1))
       ·rw [if_pos c22]at H
        have c22b0:=eq_true c22
        have c22b1:decide (x6_1≤(wrap64 (x6_1+1)))=true:=decide_eq_true c22
        by_cases c23:(wrap64 (x6_1+1))≤(al.size:Int)
        ·rw [if_pos c23]at H
         have c23b0:=eq_true c23
         have c23b1:decide ((wrap64 (x6_1+1))≤(al.size:Int))=true:=decide_eq_true c23
         by_cases c24:x5_1.size+(al.extract (x6_1:Int).toNat ((wrap64 (x6_1+1)):Int).toNat).size≤9223372036854775807
         ·rw [if_pos c24]at H
          have c24b0:=eq_true c24
          have c24b1:decide (x5_1.size+(al.extract (x6_1:Int).toNat ((wrap64 (x6_1+1)):Int).toNat).size≤9223372036854775807)=true:=decide_eq_true c24
          try have c24b2:(9223372036854775807<x5_1.size+(al.extract (x6_1:Int).toNat ((wrap64 (x6_1+1)):Int).toNat).size)=False:=eq_false (Nat.not_lt.2 c24)
          generalize hnw:(x5_1++(al.extract (x6_1:Int).toNat ((wrap64 (x6_1+1)):Int).toNat))=nw at *
          by_cases c25:(nw.size:Int)=254
          ·rw[if_pos c25]at H
           have c25b0:((nw.size:Int) == 254)=true:=beq_iff_eq.mpr c25
           have c25b1:((nw.size:Int) != 254)=false:=bne_eq_false_iff_eq.mpr c25
           clear c25
           by_cases c26:x4_1.size+1≤9223372036854775807
           ·rw[if_pos c26]at H
            have c26b0:=eq_true c26
            have c26b1:decide (x4_1.size+1≤9223372036854775807)=true:=decide_eq_true c26
            try have c26b2:(9223372036854775807<x4_1.size+1)=False:=eq_false (Nat.not_lt.2 c26)
            by_cases c27:(x4_1++(⟨#[255]⟩:ByteArray)).size+nw.size≤9223372036854775807
            ·rw[if_pos c27]at H
             have c27b0:=eq_true c27
             have c27b1:decide ((x4_1++(⟨#[255]⟩:ByteArray)).size+nw.size≤9223372036854775807)=true:=decide_eq_true c27
             try have c27b2:(9223372036854775807<(x4_1++(⟨#[255]⟩:ByteArray)).size+nw.size)=False:=eq_false (Nat.not_lt.2 c27)
             try have c27b3:=c27b2
             try simp only[ByteArray.size_append,(show ∀x_:UInt8,(⟨#[x_]⟩:ByteArray).size=1 from fun _=>rfl),(show ∀x_ y_:UInt8,(⟨#[x_,y_]⟩:ByteArray).size=2 from fun _ _=>rfl)]at c27b3
             try have c27b4:=c27b2
             try simp only[ByteArray.size_append,ByteArray.size_extract,(show ∀x_:UInt8,(⟨#[x_]⟩:ByteArray).size=1 from fun _=>rfl),(show ∀x_ y_:UInt8,(⟨#[x_,y_]⟩:ByteArray).size=2 from fun _ _=>rfl)]at c27b4
             have H':=QA H
             clear H
             have p5:0≤(x6_1:Int):=of_decide_eq_true qq_4
             have q5:x6_1<(al.size:Int):=of_decide_eq_true qq_4
             have hx5:=Qct al x6_1
             replace p5:=eq_true p5
             replace q5:=eq_true q5
             go_wp2
             go_roundg k1
             case measure=>have:=HK1.out;omega
             case rel=>exact⟨((x4_1++(⟨#[255]⟩:ByteArray))++nw),((⟨#[]⟩:ByteArray)),(wrap64 (x6_1+1)),qq_5,qq_5,qq_5,H',⟨by have:=HK1.out;omega⟩,⟨qq_b⟩⟩
            ·rw[if_neg c27]at H
             exact absurd H (by simp)
           ·rw[if_neg c26]at H
            exact absurd H (by simp)
          ·rw[if_neg c25]at H
           have c25b0:((nw.size:Int) == 254)=false:=beq_eq_false_iff_ne.mpr c25
           have c25b1:((nw.size:Int) != 254)=true:=bne_iff_ne.mpr c25
           have H':=QA H
           clear H
           have p5:0≤(x6_1:Int):=of_decide_eq_true qq_4
           have q5:x6_1<(al.size:Int):=of_decide_eq_true qq_4
           have hx5:=Qct al x6_1
           replace p5:=eq_true p5
           replace q5:=eq_true q5
           go_wp2
           go_roundg k1
           case measure=>have:=HK1.out;omega
           case rel=>exact⟨(x4_1),nw,(wrap64 (x6_1+1)),qq_5,qq_5,qq_5,H',⟨by have:=HK1.out;omega⟩,⟨qq_b⟩⟩
         ·rw[if_neg c24]at H
          exact absurd H (by simp)
        ·rw[if_neg c23]at H
         exact absurd H (by simp)
       ·rw[if_neg c22]at H
        exact absurd H (by simp)
     ·rw[if_neg c4]at H
      exact absurd H (by simp)
    ·rw[if_neg c3]at H
     have c3b0:decide (x6_1<(al.size:Int))=false:=decide_eq_false c3
     clear c3
     obtain rfl:=Option.some.inj H
     go_wp2
     go_ret
     exact⟨by first|rfl |(simp[Qis,Qit]<;>rfl) |(simp[*,Qis,Qit]<;>rfl),qq_b⟩
 ·rw[if_neg c2]at H
  exact absurd H (by simp)
theorem eqA122(d:Nat)(w:World)(x0 y0:Int)(x1 y1:Int) :
  (Op.equalIn (d+2) 122 (.agg #[.int .u64 x0,.int .u32 x1]) (.agg #[.int .u64 y0,.int .u32 y1])).run Tryz.prog w=.ok (x0 == y0 && (x1 == y1)) w:=by
 refine Qid Tryz.underlying122 qq_6 ?_
 refine Qic (by rfl) (by go_simp;rfl) (by go_simp;rfl) (by go_simp) ?_
 exact Qib (by rfl) (by go_simp;rfl) (by go_simp;rfl) (by go_simp)
def Qbx.f(a0_0:Int)(a0_1:Int)(a1_0:Int)(a1_1:Int):Option (Bool):=if a0_0<a1_0 then(some true)else(if a0_0=a1_0 then(some (decide (a0_1<a1_1)))else(some false))
theorem Qbx.calls(a0_0:Int)(a0_1:Int)(a1_0:Int)(a1_1:Int)(r:Bool)(w:World)(h:Qbx.f a0_0 a0_1 a1_0 a1_1=some r) :
  Calls Tryz.prog 158 #[.agg #[.int .u64 a0_0,.int .u32 a0_1],.agg #[.int .u64 a1_0,.int .u32 a1_1]] w fun e w'=>e=.returned (.bool r)∧Below w.heap.size w w':=by
 have hu122:=Tryz.underlying122
 have HB:=QA (Below.refl w.heap.size w)
 have H:(if a0_0<a1_0 then(some true)else(if a0_0=a1_0 then(some (decide (a0_1<a1_1)))else(some false)))=some r:=h
 clear h
 by_cases c3:a0_0<a1_0
 ·rw[if_pos c3]at H
  have c3b0:decide (a0_0<a1_0)=true:=decide_eq_true c3
  clear c3
  obtain rfl:=Option.some.inj H
  go_enter Tryz.func158,Tryz.ntmps158
  go_wp2_with (first |((with_reducible refine Qfs (N:=2) rfl ?_);refine qq_e 2 #[.int .u64 a0_0,.int .u32 a0_1] 122 ?_;intro gb422 hg w4 hbox hb;have n0_:=QA (Qfh qq_b hb);have n1_:=QA (hbox);have n2_:=QA (qq_s hg:w.heap.size≤gb422);have n3_:=n2_;clear HB;have HB:=n0_;have BK422:=n1_;have GW422:=n2_;have GE422:=n3_;clear n0_ n1_ n2_ n3_;clear hb hbox hg) |((with_reducible refine Qfs (N:=3) rfl ?_);refine qq_e 3 #[.int .u64 a1_0,.int .u32 a1_1] 122 ?_;intro gb423 hg w5 hbox hb;have n0_:=QA (Qeh (g:=gb422) (o:=.cells #[.int .u64 a0_0,.int .u32 a0_1] 122 (0,0)) qq_0 hb);have n1_:=QA (Qfh qq_b hb);have n2_:=QA (hbox);have n3_:=QA (qq_s hg:w.heap.size≤gb423);have n4_:=n3_;have n5_:=QA ((by rw[hg];exact Nat.ne_of_lt (Qdr (g:=gb422) (o:=.cells #[.int .u64 a0_0,.int .u32 a0_1] 122 (0,0)) qq_0):gb422≠gb423));have n6_:=QA ((by rw[hg];exact Nat.ne_of_gt (Qdr (g:=gb422) (o:=.cells #[.int .u64 a0_0,.int .u32 a0_1] 122 (0,0)) qq_0):gb423≠gb422));clear BK422 HB;have BK422:=n0_;have HB:=n1_;have BK423:=n2_;have GW423:=n3_;have GE423:=n4_;have NB422_423:=n5_;have NB423_422:=n6_;clear n0_ n1_ n2_ n3_ n4_ n5_ n6_ hb hbox hg;have hnb6:=NB422_423.out;have hnc6:=NB423_422.out;have hcz7_0:=qq_c (.int .u64 a0_0) BK422.out 0 rfl;have hcz7_1:=qq_c (.int .u32 a0_1) BK422.out 1 rfl;have hfz7_0:=Qdt BK422.out 0;have hfz7_1:=Qdt BK422.out 1;have hcz8_0:=qq_c (.int .u64 a1_0) BK423.out 0 rfl;have hcz8_1:=qq_c (.int .u32 a1_1) BK423.out 1 rfl;have hfz8_0:=Qdt BK423.out 0;have hfz8_1:=Qdt BK423.out 1))
  go_ret
  exact⟨by first|rfl |(simp[Qis,Qit]<;>rfl) |(simp[*,Qis,Qit]<;>rfl),qq_b⟩
 ·rw[if_neg c3]at H
  have c3b0:decide (a0_0<a1_0)=false:=decide_eq_false c3
  clear c3
  by_cases c9:a0_0=a1_0
  ·rw[if_pos c9]at H
   have c9b0:(a0_0 == a1_0)=true:=beq_iff_eq.mpr c9
   have c9b1:(a0_0 != a1_0)=false:=bne_eq_false_iff_eq.mpr c9
   clear c9
   obtain rfl:=Option.some.inj H
   go_enter Tryz.func158,Tryz.ntmps158
   go_wp2_with (first |((with_reducible refine Qfs (N:=2) rfl ?_);refine qq_e 2 #[.int .u64 a0_0,.int .u32 a0_1] 122 ?_;intro gb422 hg w10 hbox hb;have n0_:=QA (Qfh qq_b hb);have n1_:=QA (hbox);have n2_:=QA (qq_s hg:w.heap.size≤gb422);have n3_:=n2_;clear HB;have HB:=n0_;have BK422:=n1_;have GW422:=n2_;have GE422:=n3_;clear n0_ n1_ n2_ n3_;clear hb hbox hg) |((with_reducible refine Qfs (N:=3) rfl ?_);refine qq_e 3 #[.int .u64 a1_0,.int .u32 a1_1] 122 ?_;intro gb423 hg w11 hbox hb;have n0_:=QA (Qeh (g:=gb422) (o:=.cells #[.int .u64 a0_0,.int .u32 a0_1] 122 (0,0)) qq_0 hb);have n1_:=QA (Qfh qq_b hb);have n2_:=QA (hbox);have n3_:=QA (qq_s hg:w.heap.size≤gb423);have n4_:=n3_;have n5_:=QA ((by rw[hg];exact Nat.ne_of_lt (Qdr (g:=gb422) (o:=.cells #[.int .u64 a0_0,.int .u32 a0_1] 122 (0,0)) qq_0):gb422≠gb423));have n6_:=QA ((by rw[hg];exact Nat.ne_of_gt (Qdr (g:=gb422) (o:=.cells #[.int .u64 a0_0,.int .u32 a0_1] 122 (0,0)) qq_0):gb423≠gb422));clear BK422 HB;have BK422:=n0_;have HB:=n1_;have BK423:=n2_;have GW423:=n3_;have GE423:=n4_;have NB422_423:=n5_;have NB423_422:=n6_;clear n0_ n1_ n2_ n3_ n4_ n5_ n6_ hb hbox hg;have hnb12:=NB422_423.out;have hnc12:=NB423_422.out;have hcz13_0:=qq_c (.int .u64 a0_0) BK422.out 0 rfl;have hcz13_1:=qq_c (.int .u32 a0_1) BK422.out 1 rfl;have hfz13_0:=Qdt BK422.out 0;have hfz13_1:=Qdt BK422.out 1;have hcz14_0:=qq_c (.int .u64 a1_0) BK423.out 0 rfl;have hcz14_1:=qq_c (.int .u32 a1_1) BK423.out 1 rfl;have hfz14_0:=Qdt BK423.out 0;have hfz14_1:=Qdt BK423.out 1))
   go_ret
   exact⟨by first|rfl |(simp[Qis,Qit]<;>rfl) |(simp[*,Qis,Qit]<;>rfl),qq_b⟩
  ·rw[if_neg c9]at H
   have c9b0:(a0_0 == a1_0)=false:=beq_eq_false_iff_ne.mpr c9
   have c9b1:(a0_0 != a1_0)=true:=bne_iff_ne.mpr c9
   obtain rfl:=Option.some.inj H
   go_enter Tryz.func158,Tryz.ntmps158
   go_wp2_with (first |((with_reducible refine Qfs (N:=2) rfl ?_);refine qq_e 2 #[.int .u64 a0_0,.int .u32 a0_1] 122 ?_;intro gb422 hg w15 hbox hb;have n0_:=QA (Qfh qq_b hb);have n1_:=QA (hbox);have n2_:=QA (qq_s hg:w.heap.size≤gb422);have n3_:=n2_;clear HB;have HB:=n0_;have BK422:=n1_;have GW422:=n2_;have GE422:=n3_;clear n0_ n1_ n2_ n3_;clear hb hbox hg) |((with_reducible refine Qfs (N:=3) rfl ?_);refine qq_e 3 #[.int .u64 a1_0,.int .u32 a1_1] 122 ?_;intro gb423 hg w16 hbox hb;have n0_:=QA (Qeh (g:=gb422) (o:=.cells #[.int .u64 a0_0,.int .u32 a0_1] 122 (0,0)) qq_0 hb);have n1_:=QA (Qfh qq_b hb);have n2_:=QA (hbox);have n3_:=QA (qq_s hg:w.heap.size≤gb423);have n4_:=n3_;have n5_:=QA ((by rw[hg];exact Nat.ne_of_lt (Qdr (g:=gb422) (o:=.cells #[.int .u64 a0_0,.int .u32 a0_1] 122 (0,0)) qq_0):gb422≠gb423));have n6_:=QA ((by rw[hg];exact Nat.ne_of_gt (Qdr (g:=gb422) (o:=.cells #[.int .u64 a0_0,.int .u32 a0_1] 122 (0,0)) qq_0):gb423≠gb422));clear BK422 HB;have BK422:=n0_;have HB:=n1_;have BK423:=n2_;have GW423:=n3_;have GE423:=n4_;have NB422_423:=n5_;have NB423_422:=n6_;clear n0_ n1_ n2_ n3_ n4_ n5_ n6_ hb hbox hg;have hnb17:=NB422_423.out;have hnc17:=NB423_422.out;have hcz18_0:=qq_c (.int .u64 a0_0) BK422.out 0 rfl;have hcz18_1:=qq_c (.int .u32 a0_1) BK422.out 1 rfl;have hfz18_0:=Qdt BK422.out 0;have hfz18_1:=Qdt BK422.out 1;have hcz19_0:=qq_c (.int .u64 a1_0) BK423.out 0 rfl;have hcz19_1:=qq_c (.int .u32 a1_1) BK423.out 1 rfl;have hfz19_0:=Qdt BK423.out 0;have hfz19_1:=Qdt BK423.out 1))
   go_ret
   exact⟨by first|rfl |(simp[Qis,Qit]<;>rfl) |(simp[*,Qis,Qit]<;>rfl),qq_b⟩
end Go.Proofs.YtnnofopfbeklbaaGreat.C
end
