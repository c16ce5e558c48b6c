/- Texts of this claim's author and of the print of its functions, merged by merge.py. -/
import Derived.Test.YtnnofopfbeklbaaGreatMH02
import Derived.Test.YtnnofopfbeklbaaGreatMH10
import Derived.Test.YtnnofopfbeklbaaGreatMH11
import Derived.Test.YtnnofopfbeklbaaGreatMH19
import Derived.Test.YtnnofopfbeklbaaGreatMH24
import Derived.Test.YtnnofopfbeklbaaGreatMH08
import Derived.Test.YtnnofopfbeklbaaGreatMH04
import Derived.Test.YtnnofopfbeklbaaGreatMH23
set_option linter.unusedVariables false
set_option linter.unusedSimpArgs false
set_option maxHeartbeats 8000000
set_option maxRecDepth 100000
section
namespace Go.Proofs.YtnnofopfbeklbaaGreat.C
open Go.RowKit Go.Proofs.YtnnofopfbeklbaaGreatW.PrintWords Go.Proofs.YtnnofopfbeklbaaGreatW.PrintLast Go.Proofs.YtnnofopfbeklbaaGreatW.PrintMore
attribute [local go_sem] Qif Qig Qih Qii Qij Qik Qil Qim
def Qan.l0:Nat→List Int→List Int→List Int→Option (List Int × Int)
 | 0,_,_,_=>none
 | k+1,x0,x4,x5=>if(x5.length:Int) > 0 then(if 0<(x5.length:Int)then(if(wrap64 (rd x5 0)) > (x5.length:Int)then(some (([]:List Int),2))else(if 1≤(wrap64 (rd x5 0))then(if(wrap64 (rd x5 0))≤(x5.length:Int)then((some ((x5.take ((wrap64 (rd x5 0)):Int).toNat).drop 1:List Int)).bind fun y570=>(if x4.length+y570.length<140737488355328 then((some (x4++y570:List Int)).bind fun y575=>(if 0≤(wrap64 (rd x5 0))then((some (x5.drop ((wrap64 (rd x5 0)):Int).toNat:List Int)).bind fun y578=>(if(wrap64 (rd x5 0))≤254 then(if(y578.length:Int) > 0 then(if y575.length<140737488355328 then(Qan.l0 k x0 (y575++[0]) y578)else(none))else(Qan.l0 k x0 y575 y578))else(Qan.l0 k x0 y575 y578)))else(none)))else(none)))else(none))else(none)))else(none))else((Qam.f x4).bind fun t586=>((Qad.f t586 x0).bind fun t589=>(if t589=true then(some (x4,0))else(some (([]:List Int),4)))))
def Qan.f(k:Nat)(l0:List Int):Option (List Int × Int):=(Qae.f l0 0).bind fun t568=>(if t568≥0 then(some (([]:List Int),4))else(if(l0.length:Int)=0 then(some (([]:List Int),2))else(Qan.l0 k l0 ([]:List Int) l0)))
theorem Qan.calls (k:Nat) (P0_:Nat→Prop) (A0:Option Addr) (c0:Nat) (l0:List Int) (r1:List Int) (r2:Int) (w:World) (hs0:Kd.V (Kd.int .u8) 5 w w.heap.size (fun k_=>P0_ k_) (.slice A0 l0.length c0) l0) (h:Qan.f k l0=some (r1,r2)) :
  Calls Tryz.prog 170 #[.slice A0 l0.length c0] w fun e w'=>∃v0_:Value,e=.returned (.tuple #[v0_,.int .i64 r2])∧Kd.R (Kd.int .u8) 5 w' w.heap.size (fun k_=>(w.heap.size≤k_)) v0_ r1∧Below w.heap.size w w':=by
 have HO0:=QA (show Kd.V (Kd.int .u8) 5 w w.heap.size (fun k_=>(P0_ k_∨w.heap.size≤k_)) (.slice A0 l0.length c0) l0 from Kd.V_mono hs0 (fun k_ hk=>.inl hk))
 have HB:=QA (Below.refl w.heap.size w)
 have H:((Qae.f l0 0).bind fun t568=>(if t568≥0 then(some (([]:List Int),4))else(if(l0.length:Int)=0 then(some (([]:List Int),2))else(Qan.l0 k l0 ([]:List Int) l0))))=some (r1,r2):=h
 clear h
 replace H:=Option.bind_eq_some_iff.mp H
 obtain⟨t568,A20,H⟩:=H
 replace H:(if t568≥0 then(some (([]:List Int),4))else(if(l0.length:Int)=0 then(some (([]:List Int),2))else(Qan.l0 k l0 ([]:List Int) l0)))=some (r1,r2):=H
 have A2:=QA A20
 clear A20
 by_cases c3:t568≥0
 ·rw[if_pos c3]at H
  have c3b0:decide (0≤t568)=true:=decide_eq_true c3
  clear c3
  simp only[Option.some.injEq,Prod.mk.injEq]at H
  obtain⟨rfl,rfl⟩:=H
  go_enter Tryz.func170,Tryz.ntmps170
  go_wp2_with (first |((with_reducible refine Qin (f:=80) rfl ?_);refine Qgp (some 8) rfl rfl Tryz.func80 qq_6 rfl #[.slice A0 l0.length c0,.int .u8 0] rfl qq_1 ?_;(with_reducible refine(Qae.calls _ _ l0 0 t568 _ ?side1 ?side2 A2.out).mono ?_);(case side1=>repeat(first|exact(Kd.V_reads' HO0.out).2.2 |(with_reducible refine Kd.C_alloc ?_ _) |(with_reducible refine Kd.C_drewN ?_ _) |(with_reducible refine Kd.C_drew ?_)));(case side2=>exact(Kd.V_reads' HO0.out).2.1);rintro e w' ⟨rfl,⟨nd,rfl⟩⟩;refine⟨_,rfl,?_⟩))
  go_ret2
  exact⟨_,by first|rfl |(simp[Qis,Qit]<;>rfl) |(simp[*,Qis,Qit]<;>rfl),by first|exact Kd.R_nil _ _ _ _ _|exact Kd.N_nil _ _ _ _ _|exact Kd.V_nil _ _ _ _ _|exact Kd.Q_nil _ _ _ _ _|exact Kd.S_nil _ _ _ _ _,qq_b⟩
 ·rw [if_neg c3]at H
  have c3b0:decide (0≤t568)=false:=decide_eq_false c3
  clear c3
  by_cases c4:(l0.length:Int)=0
  ·rw[if_pos c4]at H
   have c4b0:((l0.length:Int) == 0)=true:=beq_iff_eq.mpr c4
   have c4b1:((l0.length:Int) != 0)=false:=bne_eq_false_iff_eq.mpr c4
   clear c4
   simp only[Option.some.injEq,Prod.mk.injEq]at H
   obtain⟨rfl,rfl⟩:=H
   go_enter Tryz.func170,Tryz.ntmps170
   go_wp2_with (first |((with_reducible refine Qin (f:=80) rfl ?_);refine Qgp (some 8) rfl rfl Tryz.func80 qq_6 rfl #[.slice A0 l0.length c0,.int .u8 0] rfl qq_1 ?_;(with_reducible refine(Qae.calls _ _ l0 0 t568 _ ?side1 ?side2 A2.out).mono ?_);(case side1=>repeat(first|exact(Kd.V_reads' HO0.out).2.2 |(with_reducible refine Kd.C_alloc ?_ _) |(with_reducible refine Kd.C_drewN ?_ _) |(with_reducible refine Kd.C_drew ?_)));(case side2=>exact(Kd.V_reads' HO0.out).2.1);rintro e w' ⟨rfl,⟨nd,rfl⟩⟩;refine⟨_,rfl,?_⟩))
   go_ret2
   exact⟨_,by first|rfl |(simp[Qis,Qit]<;>rfl) |(simp[*,Qis,Qit]<;>rfl),by first|exact Kd.R_nil _ _ _ _ _|exact Kd.N_nil _ _ _ _ _|exact Kd.V_nil _ _ _ _ _|exact Kd.Q_nil _ _ _ _ _|exact Kd.S_nil _ _ _ _ _,qq_b⟩
  ·rw [if_neg c4]at H
   have c4b0:((l0.length:Int) == 0)=false:=beq_eq_false_iff_ne.mpr c4
   have c4b1:((l0.length:Int) != 0)=true:=bne_iff_ne.mpr c4
   have c4b2:¬(l0=[]):=fun h_=>c4 (by rw[h_];rfl)
   have H':=QA H
   clear H
   go_enter Tryz.func170,Tryz.ntmps170
   go_wp2_with (first |((with_reducible refine Qin (f:=80) rfl ?_);refine Qgp (some 8) rfl rfl Tryz.func80 qq_6 rfl #[.slice A0 l0.length c0,.int .u8 0] rfl qq_1 ?_;(with_reducible refine(Qae.calls _ _ l0 0 t568 _ ?side1 ?side2 A2.out).mono ?_);(case side1=>repeat(first|exact(Kd.V_reads' HO0.out).2.2 |(with_reducible refine Kd.C_alloc ?_ _) |(with_reducible refine Kd.C_drewN ?_ _) |(with_reducible refine Kd.C_drew ?_)));(case side2=>exact(Kd.V_reads' HO0.out).2.1);rintro e w' ⟨rfl,⟨nd,rfl⟩⟩;refine⟨_,rfl,?_⟩))
   go_loopg [4,5] k (fun kq v4 v5 w'=>∃(x4_1:List Int) (x5_1:List Int),Aside0 (Qan.l0 kq l0 x4_1 x5_1=some (r1,r2))∧Aside0 (kq≤k)∧Aside0 (Kd.V (Kd.int .u8) 5 w' w.heap.size (fun k_=>(P0_ k_∨w.heap.size≤k_)∧some k_≠(v4:Value).ownBlock) (.slice A0 l0.length c0) l0)∧Aside0 (Kd.R (Kd.int .u8) 5 w' w.heap.size (fun k_=>(w.heap.size≤k_)) v4 x4_1)∧Aside0 (Kd.V (Kd.int .u8) 5 w' w.heap.size (fun k_=>(P0_ k_∨w.heap.size≤k_)∧some k_≠(v4:Value).ownBlock) v5 x5_1)∧Aside0 (Below w.heap.size w w'))
   case atStart=>exact⟨(([]:List Int)),(l0),H',⟨Nat.le_refl _⟩,⟨by(with_reducible repeat(first|apply Kd.V_alloc|apply Kd.V_drewN|apply Kd.V_drew));exact Kd.V_mono HO0.out (fun _ hk=>⟨hk,(by simp[Value.ownBlock])⟩)⟩,⟨by first|exact Kd.R_nil _ _ _ _ _|exact Kd.N_nil _ _ _ _ _|exact Kd.V_nil _ _ _ _ _|exact Kd.Q_nil _ _ _ _ _|exact Kd.S_nil _ _ _ _ _⟩,⟨by(with_reducible repeat(first|apply Kd.V_alloc|apply Kd.V_drewN|apply Kd.V_drew));exact Kd.V_mono HO0.out (fun _ hk=>⟨hk,(by simp[Value.ownBlock])⟩)⟩,⟨qq_b⟩⟩
   case round =>
    clear H'
    try clear c3
    try clear c3b0
    try clear c4
    try clear c4b0
    try clear c4b1
    try clear c4b2
    obtain⟨x4_1,x5_1,HA,HK1,HO_0,HO_4,HO_5,HB⟩:=hrel
    cases gk with
    | zero=>exact absurd HA.out (by simp[Qan.l0])
    | succ k1 =>
     have H:=HA.out
     clear HA
     simp only[Qan.l0]at H
     by_cases c5:(x5_1.length:Int) > 0
     ·rw [if_pos c5]at H
      have c5b0:decide (0<(x5_1.length:Int))=true:=decide_eq_true c5
      have c5b1:decide (0<x5_1.length)=true:=decide_eq_true (by omega)
      clear c5
      by_cases c6:0<(x5_1.length:Int)
      ·rw [if_pos c6]at H
       have c6b0:decide (0<(x5_1.length:Int))=true:=decide_eq_true c6
       have c6b1:decide (0<x5_1.length)=true:=decide_eq_true (by omega)
       clear c6
       by_cases c7:(wrap64 (rd x5_1 0)) > (x5_1.length:Int)
       ·rw[if_pos c7]at H
        have c7b0:decide ((x5_1.length:Int)<(wrap64 (rd x5_1 0)))=true:=decide_eq_true c7
        clear c7
        simp only[Option.some.injEq,Prod.mk.injEq]at H
        obtain⟨rfl,rfl⟩:=H
        obtain⟨Ao8,co8,eo8⟩:=Kd.V_slice HO_5.out
        subst eo8
        have p569:0≤(0:Int):=(by omega)
        have q569:0<(x5_1.length:Int):=of_decide_eq_true qq_4
        obtain⟨ad569,e569,hx569_0⟩:=Kd.at_int (Kd.V_reads' HO_5.out).2.2 0 p569 q569
        cases e569
        have qi569:(0<x5_1.length)=True:=eq_true (by omega)
        (try rw[show((0:Int)).toNat=0 from rfl]at hx569_0)
        (try rw[Addr.add_zero']at hx569_0)
        replace p569:=eq_true p569
        replace q569:=eq_true q569
        go_wp2
        go_ret2
        exact⟨_,by first|rfl |(simp[Qis,Qit]<;>rfl) |(simp[*,Qis,Qit]<;>rfl),by first|exact Kd.R_nil _ _ _ _ _|exact Kd.N_nil _ _ _ _ _|exact Kd.V_nil _ _ _ _ _|exact Kd.Q_nil _ _ _ _ _|exact Kd.S_nil _ _ _ _ _,qq_b⟩
       ·rw [if_neg c7]at H
        have c7b0:decide ((x5_1.length:Int)<(wrap64 (rd x5_1 0)))=false:=decide_eq_false c7
        clear c7
        by_cases c9:1≤(wrap64 (rd x5_1 0))
        ·rw [if_pos c9]at H
         have c9b0:=eq_true c9
         have c9b1:decide (1≤(wrap64 (rd x5_1 0)))=true:=decide_eq_true c9
         clear c9
         by_cases c10:(wrap64 (rd x5_1 0))≤(x5_1.length:Int)
         ·rw [if_pos c10]at H
          have c10b0:=eq_true c10
          have c10b1:decide ((wrap64 (rd x5_1 0))≤(x5_1.length:Int))=true:=decide_eq_true c10
          clear c10
          obtain⟨y570,hy570⟩:∃y_:List Int,y_=((x5_1.take ((wrap64 (rd x5_1 0)):Int).toNat).drop 1):=⟨_,rfl⟩
          replace H:(if x4_1.length+y570.length<140737488355328 then((some (x4_1++y570:List Int)).bind fun y575=>(if 0≤(wrap64 (rd x5_1 0))then((some (x5_1.drop ((wrap64 (rd x5_1 0)):Int).toNat:List Int)).bind fun y578=>(if(wrap64 (rd x5_1 0))≤254 then(if(y578.length:Int) > 0 then(if y575.length<140737488355328 then(Qan.l0 k1 l0 (y575++[0]) y578)else(none))else(Qan.l0 k1 l0 y575 y578))else(Qan.l0 k1 l0 y575 y578)))else(none)))else(none))=some (r1,r2):=by first |(rw[hy570];with_reducible exact H) |(have H2_:=(Option.bind_some _ _).symm.trans H;rw[hy570];with_reducible exact H2_) |(have H2_:=(Option.bind_some _ _).symm.trans H;with_reducible exact H2_)|with_reducible exact H |(rw[hy570];exact H)|exact H
          have Ny570:=QA hy570
          clear hy570
          by_cases c11:x4_1.length+y570.length<140737488355328
          ·rw [if_pos c11]at H
           have LMc11:=QA c11
           clear c11
           obtain⟨y575,hy575⟩:∃y_:List Int,y_=(x4_1++y570):=⟨_,rfl⟩
           replace H:(if 0≤(wrap64 (rd x5_1 0))then((some (x5_1.drop ((wrap64 (rd x5_1 0)):Int).toNat:List Int)).bind fun y578=>(if(wrap64 (rd x5_1 0))≤254 then(if(y578.length:Int) > 0 then(if y575.length<140737488355328 then(Qan.l0 k1 l0 (y575++[0]) y578)else(none))else(Qan.l0 k1 l0 y575 y578))else(Qan.l0 k1 l0 y575 y578)))else(none))=some (r1,r2):=by first |(rw[hy575];with_reducible exact H) |(have H2_:=(Option.bind_some _ _).symm.trans H;rw[hy575];with_reducible exact H2_) |(have H2_:=(Option.bind_some _ _).symm.trans H;with_reducible exact H2_)|with_reducible exact H |(rw[hy575];exact H)|exact H
           have Ny575:=QA hy575
           clear hy575
           obtain⟨ji12,hji12⟩:∃j_:Int,(wrap64 (rd x5_1 0))=j_:=⟨_,rfl⟩
           replace H:(if 0≤(ji12)then((some (x5_1.drop ((ji12):Int).toNat:List Int)).bind fun y578=>(if(ji12)≤254 then(if(y578.length:Int) > 0 then(if y575.length<140737488355328 then(Qan.l0 k1 l0 (y575++[0]) y578)else(none))else(Qan.l0 k1 l0 y575 y578))else(Qan.l0 k1 l0 y575 y578)))else(none))=some (r1,r2):=by first |(rw[hji12]at H;exact H) |(simp only[hji12]at H ⊢;exact H)
           (try rw[hji12]at c7b0)
           (try rw[hji12]at c9b0)
           (try rw[hji12]at c9b1)
           (try rw[hji12]at c10b0)
           (try rw[hji12]at c10b1)
           (try rw[hji12]at Ny570)
           (try rw[hji12]at Ny570)
           have hji12w:(IntKind.i64.wrap (rd x5_1 0))=ji12:=(Qgr _).trans hji12
           by_cases c13:0≤(ji12)
           ·rw [if_pos c13]at H
            have c13b0:=eq_true c13
            have c13b1:decide (0≤(ji12))=true:=decide_eq_true c13
            clear c13
            have c14b0:=eq_true (of_decide_eq_true qq_4:(ji12)≤(x5_1.length:Int))
            obtain⟨y578,hy578⟩:∃y_:List Int,y_=(x5_1.drop ((ji12):Int).toNat):=⟨_,rfl⟩
            replace H:(if(ji12)≤254 then(if(y578.length:Int) > 0 then(if y575.length<140737488355328 then(Qan.l0 k1 l0 (y575++[0]) y578)else(none))else(Qan.l0 k1 l0 y575 y578))else(Qan.l0 k1 l0 y575 y578))=some (r1,r2):=by first |(rw[hy578];with_reducible exact H) |(have H2_:=(Option.bind_some _ _).symm.trans H;rw[hy578];with_reducible exact H2_) |(have H2_:=(Option.bind_some _ _).symm.trans H;with_reducible exact H2_)|with_reducible exact H |(rw[hy578];exact H)|exact H
            have Ny578:=QA hy578
            clear hy578
            by_cases c15:(ji12)≤254
            ·rw[if_pos c15]at H
             have c15b0:decide ((ji12)≤254)=true:=decide_eq_true c15
             clear c15
             by_cases c16:(y578.length:Int) > 0
             ·rw[if_pos c16]at H
              have c16b0:decide (0<(y578.length:Int))=true:=decide_eq_true c16
              have c16b1:decide (0<y578.length)=true:=decide_eq_true (by omega)
              clear c16
              by_cases c17:y575.length<140737488355328
              ·rw[if_pos c17]at H
               have LMc17:=QA c17
               clear c17
               obtain⟨y583,hy583⟩:∃y_:List Int,y_=(y575++[0]):=⟨_,rfl⟩
               replace H:(Qan.l0 k1 l0 y583 y578)=some (r1,r2):=by first |(rw[hy583];with_reducible exact H) |(have H2_:=(Option.bind_some _ _).symm.trans H;rw[hy583];with_reducible exact H2_) |(have H2_:=(Option.bind_some _ _).symm.trans H;with_reducible exact H2_)|with_reducible exact H |(rw[hy583];exact H)|exact H
               have Ny583:=QA hy583
               clear hy583
               have H':=QA H
               clear H
               obtain⟨Ao18,co18,eo18⟩:=Kd.V_slice HO_5.out
               subst eo18
               have p569:0≤(0:Int):=(by omega)
               have q569:0<(x5_1.length:Int):=of_decide_eq_true qq_4
               obtain⟨ad569,e569,hx569_0⟩:=Kd.at_int (Kd.V_reads' HO_5.out).2.2 0 p569 q569
               cases e569
               have qi569:(0<x5_1.length)=True:=eq_true (by omega)
               (try rw[show((0:Int)).toNat=0 from rfl]at hx569_0)
               (try rw[Addr.add_zero']at hx569_0)
               replace p569:=eq_true p569
               replace q569:=eq_true q569
               have q19:((ji12):Int)≤((x5_1.length:Int):Int):=of_decide_eq_true qq_4
               obtain⟨i019,hi019,_,hsz19,_⟩:=info_parts Qiu
               have hroom19:x5_1.length≤co18:=(Kd.V_reads' HO_5.out).2.1
               have hC19:Kd.F (Kd.int .u8) _ _ (some ad569) x5_1.length x5_1:=(Kd.V_at (base:=w.heap.size) HO_5.out).2.2
               have ql19:(1:Int)≤((ji12):Int):=of_decide_eq_true qq_4
               have hcut19:=Qfe (P:=Tryz.prog) 52 5 .i64 .i64 Tryz.underlying52 hi019 1 hsz19 (some ad569) x5_1.length co18 1 (ji12) (by omega) ql19 q19 hroom19
               have hr19:=Kd.F_mid (lo:=(1:Int).toNat) (hi:=((ji12):Int).toNat) (c:=co18) hC19 (by omega) (by omega) hroom19
               obtain⟨A19,hA19⟩:∃A1,A1=(if co18=(1:Int).toNat then(some ad569)else((some ad569):Option Addr).map (·.add ((1:Int).toNat*1))):=⟨_,rfl⟩
               obtain⟨c19,hc19⟩:∃c1,c1=co18-(1:Int).toNat:=⟨_,rfl⟩
               have hy19:y570.length=((ji12):Int).toNat-(1:Int).toNat:=(by rw[Ny570.out,List.length_drop,List.length_take]<;>omega)
               rw[show((x5_1).take ((ji12):Int).toNat).drop (1:Int).toNat=y570 from Ny570.out.symm]at hr19
               replace hr19:Kd.F (Kd.int .u8) _ _ A19 y570.length y570:=(by rw[hA19];exact hr19)
               rw[← hy19,← hA19,← hc19]at hcut19
               have HO574:=QA (show Kd.V (Kd.int .u8) 5 _ w.heap.size _ (.slice A19 y570.length c19) y570 from Kd.V_mk (by rw[hy19,hc19];exact Nat.sub_le_sub_right (Nat.le_trans (by omega) hroom19) _) hr19)
               have HC574:=QA (show y570.length≤c19 from by rw[hy19,hc19];exact Nat.sub_le_sub_right (Nat.le_trans (by omega) hroom19) _)
               clear hr19 hC19 hroom19 hi019 hsz19 hc19
               have KY19:=QA hy19
               have KA19:=QA hA19
               clear hy19 hA19
               replace q19:=eq_true q19
               go_wp2_with (first |((with_reducible refine Qio (b:=.append) (xs:=#[.tmp 25,.tmp 28]) rfl ?_);(try(refine Qie (by rfl) ?_;dsimp only));at_builtin;refine Kd.R_append_rows (Kd.int .u8) (w0:=w) w.heap.size rfl (.tmp 25) (.tmp 28) 52 5 (.int .u8 0) 1 rfl Tryz.underlying52 Qiu rfl (by decide) (by omega) u4 x4_1 y570 _ _ _ (fun k_=>(w.heap.size≤k_)) (fun _=>False) rfl rfl ?aO ?aR (fun _ _ h=>h) (fun _ h=>h.elim) ?aF ?aB ?aS ?aL ?_;(case aR=>repeat(first|exact(Kd.V_reads' HO574.out).2.2 |(with_reducible refine Kd.C_alloc ?_ _) |(with_reducible refine Kd.C_drewN ?_ _) |(with_reducible refine Kd.C_drew ?_)));(case aB=>exact qq_b);(case aF=>exact(fun k_ hk=>(Nat.le_trans (Qfg qq_b) hk)));(case aO=>exact qq_3);(case aS=>exact(Qfg qq_b));(case aL=>have:=LMc11.out;omega);intro v576 w20 ho hb hg hat;rw[← Ny575.out]at ho;have n0_:=QA (Kd.V_afterv (ok:=(fun k_=>(P0_ k_∨w.heap.size≤k_))) qq_13 hg hat);have n1_:=QA (Kd.V_afterv (ok:=(fun k_=>(P0_ k_∨w.heap.size≤k_))) qq_12 hg hat);have n2_:=QA (Kd.V_afterv (ok:=(fun k_=>(P0_ k_∨w.heap.size≤k_))) qq_17 hg hat);have n3_:=QA (hb);have n4_:=QA (ho);clear HO_0 HO_5 HO574 HB HO_4;have HO_0:=n0_;have HO_5:=n1_;have HO574:=n2_;have HB:=n3_;have HO577:=n4_;clear n0_ n1_ n2_ n3_ n4_ ho hb hg hat;have q21:((ji12):Int)≤((x5_1.length:Int):Int):=of_decide_eq_true qq_4;obtain⟨i021,hi021,_,hsz21,_⟩:=info_parts Qiu;have hroom21:x5_1.length≤co18:=(Kd.V_reads' HO_5.out).2.1;have hC21:Kd.F (Kd.int .u8) _ _ (some ad569) x5_1.length x5_1:=(Kd.V_at (base:=w.heap.size) HO_5.out).2.2;have q021:(0:Int)≤((ji12):Int):=of_decide_eq_true qq_4;have hcut21:=Qeu (P:=Tryz.prog) 52 5 .i64 Tryz.underlying52 hi021 1 hsz21 (some ad569) x5_1.length co18 (ji12) q021 q21;have hr21:=Kd.F_cut (m:=((ji12):Int).toNat) (c:=co18) hC21 (by omega) hroom21;obtain⟨A21,hA21⟩:∃A1,A1=(if co18=((ji12):Int).toNat then(some ad569)else((some ad569):Option Addr).map (·.add (((ji12):Int).toNat*1))):=⟨_,rfl⟩;obtain⟨c21,hc21⟩:∃c1,c1=co18-((ji12):Int).toNat:=⟨_,rfl⟩;have hy21:y578.length=x5_1.length-((ji12):Int).toNat:=(by rw[Ny578.out,List.length_drop]<;>omega);rw[show(x5_1).drop ((ji12):Int).toNat=y578 from Ny578.out.symm]at hr21;replace hr21:Kd.F (Kd.int .u8) _ _ A21 y578.length y578:=(by rw[hA21];exact hr21);rw[← hy21,← hA21,← hc21]at hcut21;have HO582:=QA (show Kd.V (Kd.int .u8) 5 _ w.heap.size _ (.slice A21 y578.length c21) y578 from Kd.V_mk (by rw[hy21,hc21];exact Nat.sub_le_sub_right hroom21 _) hr21);have HC582:=QA (show y578.length≤c21 from by rw[hy21,hc21];exact Nat.sub_le_sub_right hroom21 _);clear hr21 hC21 hroom21 hi021 hsz21 hc21;have KY21:=QA hy21;have KA21:=QA hA21;clear hy21 hA21;replace q21:=eq_true q21) |((with_reducible refine Qio (b:=.append) (xs:=#[.tmp 40,.tmp 41]) rfl ?_);(try(refine Qie (by rfl) ?_;dsimp only));at_builtin;refine Kd.R_append (Kd.int .u8) (w0:=w) w.heap.size rfl (.tmp 40) (.tmp 41) 52 5 (.int .u8 0) 1 rfl Tryz.underlying52 Qiu rfl (by decide) (by omega) v576 y575 0 [.int .u8 0] (fun k_=>(w.heap.size≤k_)) (fun _=>False) rfl rfl ?aP (fun _ hk=>hk.elim) ?aF ?aO ?aB ?aS ?aL ?_;(case aP=>exact rfl);(case aB=>exact qq_b);(case aF=>exact(fun k_ hk=>(Nat.le_trans (Qfg qq_b) hk)));(case aO=>exact qq_3);(case aS=>exact(Qfg qq_b));(case aL=>have:=LMc17.out;omega);intro v584 w22 ho hb hg hat;rw[← Ny583.out]at ho;have n0_:=QA (Kd.V_afterv (ok:=(fun k_=>(P0_ k_∨w.heap.size≤k_))) qq_13 hg hat);have n1_:=QA (Kd.V_afterv (ok:=(fun k_=>(P0_ k_∨w.heap.size≤k_))) qq_12 hg hat);have n2_:=QA (Kd.V_afterv (ok:=(fun k_=>(P0_ k_∨w.heap.size≤k_))) qq_17 hg hat);have n3_:=QA (Kd.V_afterv (ok:=(fun k_=>(P0_ k_∨w.heap.size≤k_))) (by(with_reducible repeat(first|apply Kd.V_alloc|apply Kd.V_drewN|apply Kd.V_drew));exact HO582.out) hg hat);have n4_:=QA (hb);have n5_:=QA (ho);clear HO_0 HO_5 HO574 HO582 HB HO577;have HO_0:=n0_;have HO_5:=n1_;have HO574:=n2_;have HO582:=n3_;have HB:=n4_;have HO585:=n5_;clear n0_ n1_ n2_ n3_ n4_ n5_;clear ho hb hg hat))
               go_roundg k1
               case measure=>have:=HK1.out;omega
               case rel=>exact⟨(y583),(y578),H',⟨by have:=HK1.out;omega⟩,⟨by(with_reducible repeat(first|apply Kd.V_alloc|apply Kd.V_drewN|apply Kd.V_drew));exact HO_0.out⟩,⟨by(with_reducible repeat(first|apply Kd.R_alloc|apply Kd.R_drewN|apply Kd.R_drew));exact HO585.out⟩,⟨by(with_reducible repeat(first|apply Kd.V_alloc|apply Kd.V_drewN|apply Kd.V_drew));exact HO582.out⟩,⟨qq_b⟩⟩
              ·rw[if_neg c17]at H
               exact absurd H (by simp)
             ·rw[if_neg c16]at H
              have c16b0:decide (0<(y578.length:Int))=false:=decide_eq_false c16
              have c16b1:decide (0<y578.length)=false:=decide_eq_false (by omega)
              clear c16
              have H':=QA H
              clear H
              obtain⟨Ao23,co23,eo23⟩:=Kd.V_slice HO_5.out
              subst eo23
              have p569:0≤(0:Int):=(by omega)
              have q569:0<(x5_1.length:Int):=of_decide_eq_true qq_4
              obtain⟨ad569,e569,hx569_0⟩:=Kd.at_int (Kd.V_reads' HO_5.out).2.2 0 p569 q569
              cases e569
              have qi569:(0<x5_1.length)=True:=eq_true (by omega)
              (try rw[show((0:Int)).toNat=0 from rfl]at hx569_0)
              (try rw[Addr.add_zero']at hx569_0)
              replace p569:=eq_true p569
              replace q569:=eq_true q569
              have q24:((ji12):Int)≤((x5_1.length:Int):Int):=of_decide_eq_true qq_4
              obtain⟨i024,hi024,_,hsz24,_⟩:=info_parts Qiu
              have hroom24:x5_1.length≤co23:=(Kd.V_reads' HO_5.out).2.1
              have hC24:Kd.F (Kd.int .u8) _ _ (some ad569) x5_1.length x5_1:=(Kd.V_at (base:=w.heap.size) HO_5.out).2.2
              have ql24:(1:Int)≤((ji12):Int):=of_decide_eq_true qq_4
              have hcut24:=Qfe (P:=Tryz.prog) 52 5 .i64 .i64 Tryz.underlying52 hi024 1 hsz24 (some ad569) x5_1.length co23 1 (ji12) (by omega) ql24 q24 hroom24
              have hr24:=Kd.F_mid (lo:=(1:Int).toNat) (hi:=((ji12):Int).toNat) (c:=co23) hC24 (by omega) (by omega) hroom24
              obtain⟨A24,hA24⟩:∃A1,A1=(if co23=(1:Int).toNat then(some ad569)else((some ad569):Option Addr).map (·.add ((1:Int).toNat*1))):=⟨_,rfl⟩
              obtain⟨c24,hc24⟩:∃c1,c1=co23-(1:Int).toNat:=⟨_,rfl⟩
              have hy24:y570.length=((ji12):Int).toNat-(1:Int).toNat:=(by rw[Ny570.out,List.length_drop,List.length_take]<;>omega)
              rw[show((x5_1).take ((ji12):Int).toNat).drop (1:Int).toNat=y570 from Ny570.out.symm]at hr24
              replace hr24:Kd.F (Kd.int .u8) _ _ A24 y570.length y570:=(by rw[hA24];exact hr24)
              rw[← hy24,← hA24,← hc24]at hcut24
              have HO574:=QA (show Kd.V (Kd.int .u8) 5 _ w.heap.size _ (.slice A24 y570.length c24) y570 from Kd.V_mk (by rw[hy24,hc24];exact Nat.sub_le_sub_right (Nat.le_trans (by omega) hroom24) _) hr24)
              have HC574:=QA (show y570.length≤c24 from by rw[hy24,hc24];exact Nat.sub_le_sub_right (Nat.le_trans (by omega) hroom24) _)
              clear hr24 hC24 hroom24 hi024 hsz24 hc24
              have KY24:=QA hy24
              have KA24:=QA hA24
              clear hy24 hA24
              replace q24:=eq_true q24
              go_wp2_with (first |((with_reducible refine Qio (b:=.append) (xs:=#[.tmp 25,.tmp 28]) rfl ?_);(try(refine Qie (by rfl) ?_;dsimp only));at_builtin;refine Kd.R_append_rows (Kd.int .u8) (w0:=w) w.heap.size rfl (.tmp 25) (.tmp 28) 52 5 (.int .u8 0) 1 rfl Tryz.underlying52 Qiu rfl (by decide) (by omega) u4 x4_1 y570 _ _ _ (fun k_=>(w.heap.size≤k_)) (fun _=>False) rfl rfl ?aO ?aR (fun _ _ h=>h) (fun _ h=>h.elim) ?aF ?aB ?aS ?aL ?_;(case aR=>repeat(first|exact(Kd.V_reads' HO574.out).2.2 |(with_reducible refine Kd.C_alloc ?_ _) |(with_reducible refine Kd.C_drewN ?_ _) |(with_reducible refine Kd.C_drew ?_)));(case aB=>exact qq_b);(case aF=>exact(fun k_ hk=>(Nat.le_trans (Qfg qq_b) hk)));(case aO=>exact qq_3);(case aS=>exact(Qfg qq_b));(case aL=>have:=LMc11.out;omega);intro v576 w25 ho hb hg hat;rw[← Ny575.out]at ho;have n0_:=QA (Kd.V_afterv (ok:=(fun k_=>(P0_ k_∨w.heap.size≤k_))) qq_13 hg hat);have n1_:=QA (Kd.V_afterv (ok:=(fun k_=>(P0_ k_∨w.heap.size≤k_))) qq_12 hg hat);have n2_:=QA (Kd.V_afterv (ok:=(fun k_=>(P0_ k_∨w.heap.size≤k_))) qq_17 hg hat);have n3_:=QA (hb);have n4_:=QA (ho);clear HO_0 HO_5 HO574 HB HO_4;have HO_0:=n0_;have HO_5:=n1_;have HO574:=n2_;have HB:=n3_;have HO577:=n4_;clear n0_ n1_ n2_ n3_ n4_ ho hb hg hat;have q26:((ji12):Int)≤((x5_1.length:Int):Int):=of_decide_eq_true qq_4;obtain⟨i026,hi026,_,hsz26,_⟩:=info_parts Qiu;have hroom26:x5_1.length≤co23:=(Kd.V_reads' HO_5.out).2.1;have hC26:Kd.F (Kd.int .u8) _ _ (some ad569) x5_1.length x5_1:=(Kd.V_at (base:=w.heap.size) HO_5.out).2.2;have q026:(0:Int)≤((ji12):Int):=of_decide_eq_true qq_4;have hcut26:=Qeu (P:=Tryz.prog) 52 5 .i64 Tryz.underlying52 hi026 1 hsz26 (some ad569) x5_1.length co23 (ji12) q026 q26;have hr26:=Kd.F_cut (m:=((ji12):Int).toNat) (c:=co23) hC26 (by omega) hroom26;obtain⟨A26,hA26⟩:∃A1,A1=(if co23=((ji12):Int).toNat then(some ad569)else((some ad569):Option Addr).map (·.add (((ji12):Int).toNat*1))):=⟨_,rfl⟩;obtain⟨c26,hc26⟩:∃c1,c1=co23-((ji12):Int).toNat:=⟨_,rfl⟩;have hy26:y578.length=x5_1.length-((ji12):Int).toNat:=(by rw[Ny578.out,List.length_drop]<;>omega);rw[show(x5_1).drop ((ji12):Int).toNat=y578 from Ny578.out.symm]at hr26;replace hr26:Kd.F (Kd.int .u8) _ _ A26 y578.length y578:=(by rw[hA26];exact hr26);rw[← hy26,← hA26,← hc26]at hcut26;have HO582:=QA (show Kd.V (Kd.int .u8) 5 _ w.heap.size _ (.slice A26 y578.length c26) y578 from Kd.V_mk (by rw[hy26,hc26];exact Nat.sub_le_sub_right hroom26 _) hr26);have HC582:=QA (show y578.length≤c26 from by rw[hy26,hc26];exact Nat.sub_le_sub_right hroom26 _);clear hr26 hC26 hroom26 hi026 hsz26 hc26;have KY26:=QA hy26;have KA26:=QA hA26;clear hy26 hA26;replace q26:=eq_true q26))
              go_roundg k1
              case measure=>have:=HK1.out;omega
              case rel=>exact⟨(y575),(y578),H',⟨by have:=HK1.out;omega⟩,⟨by(with_reducible repeat(first|apply Kd.V_alloc|apply Kd.V_drewN|apply Kd.V_drew));exact HO_0.out⟩,⟨by(with_reducible repeat(first|apply Kd.R_alloc|apply Kd.R_drewN|apply Kd.R_drew));exact HO577.out⟩,⟨by(with_reducible repeat(first|apply Kd.V_alloc|apply Kd.V_drewN|apply Kd.V_drew));exact HO582.out⟩,⟨qq_b⟩⟩
            ·rw[if_neg c15]at H
             have c15b0:decide ((ji12)≤254)=false:=decide_eq_false c15
             clear c15
             have H':=QA H
             clear H
             obtain⟨Ao27,co27,eo27⟩:=Kd.V_slice HO_5.out
             subst eo27
             have p569:0≤(0:Int):=(by omega)
             have q569:0<(x5_1.length:Int):=of_decide_eq_true qq_4
             obtain⟨ad569,e569,hx569_0⟩:=Kd.at_int (Kd.V_reads' HO_5.out).2.2 0 p569 q569
             cases e569
             have qi569:(0<x5_1.length)=True:=eq_true (by omega)
             (try rw[show((0:Int)).toNat=0 from rfl]at hx569_0)
             (try rw[Addr.add_zero']at hx569_0)
             replace p569:=eq_true p569
             replace q569:=eq_true q569
             have q28:((ji12):Int)≤((x5_1.length:Int):Int):=of_decide_eq_true qq_4
             obtain⟨i028,hi028,_,hsz28,_⟩:=info_parts Qiu
             have hroom28:x5_1.length≤co27:=(Kd.V_reads' HO_5.out).2.1
             have hC28:Kd.F (Kd.int .u8) _ _ (some ad569) x5_1.length x5_1:=(Kd.V_at (base:=w.heap.size) HO_5.out).2.2
             have ql28:(1:Int)≤((ji12):Int):=of_decide_eq_true qq_4
             have hcut28:=Qfe (P:=Tryz.prog) 52 5 .i64 .i64 Tryz.underlying52 hi028 1 hsz28 (some ad569) x5_1.length co27 1 (ji12) (by omega) ql28 q28 hroom28
             have hr28:=Kd.F_mid (lo:=(1:Int).toNat) (hi:=((ji12):Int).toNat) (c:=co27) hC28 (by omega) (by omega) hroom28
             obtain⟨A28,hA28⟩:∃A1,A1=(if co27=(1:Int).toNat then(some ad569)else((some ad569):Option Addr).map (·.add ((1:Int).toNat*1))):=⟨_,rfl⟩
             obtain⟨c28,hc28⟩:∃c1,c1=co27-(1:Int).toNat:=⟨_,rfl⟩
             have hy28:y570.length=((ji12):Int).toNat-(1:Int).toNat:=(by rw[Ny570.out,List.length_drop,List.length_take]<;>omega)
             rw[show((x5_1).take ((ji12):Int).toNat).drop (1:Int).toNat=y570 from Ny570.out.symm]at hr28
             replace hr28:Kd.F (Kd.int .u8) _ _ A28 y570.length y570:=(by rw[hA28];exact hr28)
             rw[← hy28,← hA28,← hc28]at hcut28
             have HO574:=QA (show Kd.V (Kd.int .u8) 5 _ w.heap.size _ (.slice A28 y570.length c28) y570 from Kd.V_mk (by rw[hy28,hc28];exact Nat.sub_le_sub_right (Nat.le_trans (by omega) hroom28) _) hr28)
             have HC574:=QA (show y570.length≤c28 from by rw[hy28,hc28];exact Nat.sub_le_sub_right (Nat.le_trans (by omega) hroom28) _)
             clear hr28 hC28 hroom28 hi028 hsz28 hc28
             have KY28:=QA hy28
             have KA28:=QA hA28
             clear hy28 hA28
             replace q28:=eq_true q28
             go_wp2_with (first |((with_reducible refine Qio (b:=.append) (xs:=#[.tmp 25,.tmp 28]) rfl ?_);(try(refine Qie (by rfl) ?_;dsimp only));at_builtin;refine Kd.R_append_rows (Kd.int .u8) (w0:=w) w.heap.size rfl (.tmp 25) (.tmp 28) 52 5 (.int .u8 0) 1 rfl Tryz.underlying52 Qiu rfl (by decide) (by omega) u4 x4_1 y570 _ _ _ (fun k_=>(w.heap.size≤k_)) (fun _=>False) rfl rfl ?aO ?aR (fun _ _ h=>h) (fun _ h=>h.elim) ?aF ?aB ?aS ?aL ?_;(case aR=>repeat(first|exact(Kd.V_reads' HO574.out).2.2 |(with_reducible refine Kd.C_alloc ?_ _) |(with_reducible refine Kd.C_drewN ?_ _) |(with_reducible refine Kd.C_drew ?_)));(case aB=>exact qq_b);(case aF=>exact(fun k_ hk=>(Nat.le_trans (Qfg qq_b) hk)));(case aO=>exact qq_3);(case aS=>exact(Qfg qq_b));(case aL=>have:=LMc11.out;omega);intro v576 w29 ho hb hg hat;rw[← Ny575.out]at ho;have n0_:=QA (Kd.V_afterv (ok:=(fun k_=>(P0_ k_∨w.heap.size≤k_))) qq_13 hg hat);have n1_:=QA (Kd.V_afterv (ok:=(fun k_=>(P0_ k_∨w.heap.size≤k_))) qq_12 hg hat);have n2_:=QA (Kd.V_afterv (ok:=(fun k_=>(P0_ k_∨w.heap.size≤k_))) qq_17 hg hat);have n3_:=QA (hb);have n4_:=QA (ho);clear HO_0 HO_5 HO574 HB HO_4;have HO_0:=n0_;have HO_5:=n1_;have HO574:=n2_;have HB:=n3_;have HO577:=n4_;clear n0_ n1_ n2_ n3_ n4_ ho hb hg hat;have q30:((ji12):Int)≤((x5_1.length:Int):Int):=of_decide_eq_true qq_4;obtain⟨i030,hi030,_,hsz30,_⟩:=info_parts Qiu;have hroom30:x5_1.length≤co27:=(Kd.V_reads' HO_5.out).2.1;have hC30:Kd.F (Kd.int .u8) _ _ (some ad569) x5_1.length x5_1:=(Kd.V_at (base:=w.heap.size) HO_5.out).2.2;have q030:(0:Int)≤((ji12):Int):=of_decide_eq_true qq_4;have hcut30:=Qeu (P:=Tryz.prog) 52 5 .i64 Tryz.underlying52 hi030 1 hsz30 (some ad569) x5_1.length co27 (ji12) q030 q30;have hr30:=Kd.F_cut (m:=((ji12):Int).toNat) (c:=co27) hC30 (by omega) hroom30;obtain⟨A30,hA30⟩:∃A1,A1=(if co27=((ji12):Int).toNat then(some ad569)else((some ad569):Option Addr).map (·.add (((ji12):Int).toNat*1))):=⟨_,rfl⟩;obtain⟨c30,hc30⟩:∃c1,c1=co27-((ji12):Int).toNat:=⟨_,rfl⟩;have hy30:y578.length=x5_1.length-((ji12):Int).toNat:=(by rw[Ny578.out,List.length_drop]<;>omega);rw[show(x5_1).drop ((ji12):Int).toNat=y578 from Ny578.out.symm]at hr30;replace hr30:Kd.F (Kd.int .u8) _ _ A30 y578.length y578:=(by rw[hA30];exact hr30);rw[← hy30,← hA30,← hc30]at hcut30;have HO582:=QA (show Kd.V (Kd.int .u8) 5 _ w.heap.size _ (.slice A30 y578.length c30) y578 from Kd.V_mk (by rw[hy30,hc30];exact Nat.sub_le_sub_right hroom30 _) hr30);have HC582:=QA (show y578.length≤c30 from by rw[hy30,hc30];exact Nat.sub_le_sub_right hroom30 _);clear hr30 hC30 hroom30 hi030 hsz30 hc30;have KY30:=QA hy30;have KA30:=QA hA30;clear hy30 hA30;replace q30:=eq_true q30))
             go_roundg k1
             case measure=>have:=HK1.out;omega
             case rel=>exact⟨(y575),(y578),H',⟨by have:=HK1.out;omega⟩,⟨by(with_reducible repeat(first|apply Kd.V_alloc|apply Kd.V_drewN|apply Kd.V_drew));exact HO_0.out⟩,⟨by(with_reducible repeat(first|apply Kd.R_alloc|apply Kd.R_drewN|apply Kd.R_drew));exact HO577.out⟩,⟨by(with_reducible repeat(first|apply Kd.V_alloc|apply Kd.V_drewN|apply Kd.V_drew));exact HO582.out⟩,⟨qq_b⟩⟩
           ·rw[if_neg c13]at H
            exact absurd H (by simp)
          ·rw[if_neg c11]at H
           exact absurd H (by simp)
         ·rw[if_neg c10]at H
          exact absurd H (by simp)
        ·rw[if_neg c9]at H
         exact absurd H (by simp)
      ·rw[if_neg c6]at H
       exact absurd H (by simp)
     ·rw[if_neg c5]at H
      have c5b0:decide (0<(x5_1.length:Int))=false:=decide_eq_false c5
      have c5b1:decide (0<x5_1.length)=false:=decide_eq_false (by omega)
      clear c5
      replace H:=Option.bind_eq_some_iff.mp H
      obtain⟨t586,A310,H⟩:=H
      replace H:((Qad.f t586 l0).bind fun t589=>(if t589=true then(some (x4_1,0))else(some (([]:List Int),4))))=some (r1,r2):=H
      have A31:=QA A310
      clear A310
      replace H:=Option.bind_eq_some_iff.mp H
      obtain⟨t589,A320,H⟩:=H
      replace H:(if t589=true then(some (x4_1,0))else(some (([]:List Int),4)))=some (r1,r2):=H
      have A32:=QA A320
      clear A320
      by_cases c33:t589=true
      ·subst c33
       have H1:(some (x4_1,0))=some (r1,r2):=by rw[if_pos rfl]at H;exact H
       clear H
       have H:=H1
       clear H1
       simp only[Option.some.injEq,Prod.mk.injEq]at H
       obtain⟨rfl,rfl⟩:=H
       obtain⟨Ao34,co34,eo34⟩:=Kd.V_slice HO_5.out
       subst eo34
       obtain⟨Ao35,co35,eo35⟩:=Kd.R_slice HO_4.out
       subst eo35
       go_wp2_with (first |((with_reducible refine Qin (f:=152) rfl ?_);refine Qgp (some 44) rfl rfl Tryz.func152 qq_6 rfl #[.slice Ao35 x4_1.length co35] rfl qq_1 ?_;(with_reducible refine(Qam.calls _ _ x4_1 t586 _ ?side1 ?side2 A31.out).mono ?_);(case side1=>repeat(first|exact(Kd.R_reads' HO_4.out).2.2 |(with_reducible refine Kd.C_alloc ?_ _) |(with_reducible refine Kd.C_drewN ?_ _) |(with_reducible refine Kd.C_drew ?_)));(case side2=>exact(Kd.R_reads' HO_4.out).2.1);rintro e w36 ⟨v587,rfl,ho0,hb⟩;refine⟨_,rfl,?_⟩;have n0_:=QA (Kd.V_elder' qq_13 (Kd.R_base ho0) hb);have n1_:=QA (Kd.R_elder' qq_3 (Kd.R_base ho0) hb);have n2_:=QA (Kd.V_elder' qq_12 (Kd.R_base ho0) hb);have n3_:=QA (Kd.R_lower (Kd.R_new' (Kd.R_newM (M:=fun k_=>(w.heap.size≤k_)) ho0 (Qfg qq_b) (fun k_ h_=>h_)) (Kd.R_lt qq_3)) (Qfg qq_b));have n4_:=QA (Qfh qq_b hb);clear HO_0 HO_4 HO_5 HB;have HO_0:=n0_;have HO_4:=n1_;have HO_5:=n2_;have HO588:=n3_;have HB:=n4_;clear n0_ n1_ n2_ n3_ n4_;(try clear hb);(try clear hb2);(try clear hk);(try clear hi);(try clear ho0);obtain⟨Ao37,co37,eo37⟩:=Kd.R_slice HO588.out;subst eo37) |((with_reducible refine Qin (f:=126) rfl ?_);refine Qgp (some 46) rfl rfl Tryz.func126 qq_6 rfl #[.slice Ao37 t586.length co37,.slice A0 l0.length c0] rfl qq_1 ?_;(with_reducible refine(Qad.calls _ _ t586 _ _ l0 true _ ?side1 ?side2 ?side3 ?side4 A32.out).mono ?_);(case side1=>repeat(first|exact(Kd.R_reads' HO588.out).2.2 |(with_reducible refine Kd.C_alloc ?_ _) |(with_reducible refine Kd.C_drewN ?_ _) |(with_reducible refine Kd.C_drew ?_)));(case side2=>exact(Kd.R_reads' HO588.out).2.1);(case side3=>repeat(first|exact(Kd.V_reads' HO_0.out).2.2 |(with_reducible refine Kd.C_alloc ?_ _) |(with_reducible refine Kd.C_drewN ?_ _) |(with_reducible refine Kd.C_drew ?_)));(case side4=>exact(Kd.V_reads' HO_0.out).2.1);rintro e w' ⟨rfl,⟨nd,rfl⟩⟩;refine⟨_,rfl,?_⟩))
       go_ret2
       exact⟨_,by first|rfl |(simp[Qis,Qit]<;>rfl) |(simp[*,Qis,Qit]<;>rfl),by(with_reducible repeat(first|apply Kd.R_alloc|apply Kd.R_drewN|apply Kd.R_drew));exact Kd.R_mono HO_4.out (fun _ hk=>hk.1),qq_b⟩
      ·replace c33:=Bool.eq_false_iff.mpr c33
       subst c33
       have H1:(some (([]:List Int),4))=some (r1,r2):=by rw[if_neg (show ¬(false=true)by decide)]at H;exact H
       clear H
       have H:=H1
       clear H1
       simp only[Option.some.injEq,Prod.mk.injEq]at H
       obtain⟨rfl,rfl⟩:=H
       obtain⟨Ao38,co38,eo38⟩:=Kd.V_slice HO_5.out
       subst eo38
       obtain⟨Ao39,co39,eo39⟩:=Kd.R_slice HO_4.out
       subst eo39
       go_wp2_with (first |((with_reducible refine Qin (f:=152) rfl ?_);refine Qgp (some 44) rfl rfl Tryz.func152 qq_6 rfl #[.slice Ao39 x4_1.length co39] rfl qq_1 ?_;(with_reducible refine(Qam.calls _ _ x4_1 t586 _ ?side1 ?side2 A31.out).mono ?_);(case side1=>repeat(first|exact(Kd.R_reads' HO_4.out).2.2 |(with_reducible refine Kd.C_alloc ?_ _) |(with_reducible refine Kd.C_drewN ?_ _) |(with_reducible refine Kd.C_drew ?_)));(case side2=>exact(Kd.R_reads' HO_4.out).2.1);rintro e w40 ⟨v587,rfl,ho0,hb⟩;refine⟨_,rfl,?_⟩;have n0_:=QA (Kd.V_elder' qq_13 (Kd.R_base ho0) hb);have n1_:=QA (Kd.R_elder' qq_3 (Kd.R_base ho0) hb);have n2_:=QA (Kd.V_elder' qq_12 (Kd.R_base ho0) hb);have n3_:=QA (Kd.R_lower (Kd.R_new' (Kd.R_newM (M:=fun k_=>(w.heap.size≤k_)) ho0 (Qfg qq_b) (fun k_ h_=>h_)) (Kd.R_lt qq_3)) (Qfg qq_b));have n4_:=QA (Qfh qq_b hb);clear HO_0 HO_4 HO_5 HB;have HO_0:=n0_;have HO_4:=n1_;have HO_5:=n2_;have HO588:=n3_;have HB:=n4_;clear n0_ n1_ n2_ n3_ n4_;(try clear hb);(try clear hb2);(try clear hk);(try clear hi);(try clear ho0);obtain⟨Ao41,co41,eo41⟩:=Kd.R_slice HO588.out;subst eo41) |((with_reducible refine Qin (f:=126) rfl ?_);refine Qgp (some 46) rfl rfl Tryz.func126 qq_6 rfl #[.slice Ao41 t586.length co41,.slice A0 l0.length c0] rfl qq_1 ?_;(with_reducible refine(Qad.calls _ _ t586 _ _ l0 false _ ?side1 ?side2 ?side3 ?side4 A32.out).mono ?_);(case side1=>repeat(first|exact(Kd.R_reads' HO588.out).2.2 |(with_reducible refine Kd.C_alloc ?_ _) |(with_reducible refine Kd.C_drewN ?_ _) |(with_reducible refine Kd.C_drew ?_)));(case side2=>exact(Kd.R_reads' HO588.out).2.1);(case side3=>repeat(first|exact(Kd.V_reads' HO_0.out).2.2 |(with_reducible refine Kd.C_alloc ?_ _) |(with_reducible refine Kd.C_drewN ?_ _) |(with_reducible refine Kd.C_drew ?_)));(case side4=>exact(Kd.V_reads' HO_0.out).2.1);rintro e w' ⟨rfl,⟨nd,rfl⟩⟩;refine⟨_,rfl,?_⟩))
       go_ret2
       exact⟨_,by first|rfl |(simp[Qis,Qit]<;>rfl) |(simp[*,Qis,Qit]<;>rfl),by first|exact Kd.R_nil _ _ _ _ _|exact Kd.N_nil _ _ _ _ _|exact Kd.V_nil _ _ _ _ _|exact Kd.Q_nil _ _ _ _ _|exact Kd.S_nil _ _ _ _ _,qq_b⟩
end Go.Proofs.YtnnofopfbeklbaaGreat.C
end
