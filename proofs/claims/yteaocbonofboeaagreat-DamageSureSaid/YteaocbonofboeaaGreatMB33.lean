/- Merged texts. -/
import Derived.Test.YteaocbonofboeaaGreatMB02
import Derived.Test.YteaocbonofboeaaGreatMB11
import Derived.Test.YteaocbonofboeaaGreatMB12
import Derived.Test.YteaocbonofboeaaGreatMB18
import Derived.Test.YteaocbonofboeaaGreatMB24
import Derived.Test.YteaocbonofboeaaGreatMB32
import Derived.Test.YteaocbonofboeaaGreatMB06
import Derived.Test.YteaocbonofboeaaGreatMB07
import Derived.Test.YteaocbonofboeaaGreatMB17
import Derived.Test.YteaocbonofboeaaGreatMB31
set_option linter.unusedVariables false
set_option linter.unusedSimpArgs false
set_option maxHeartbeats 8000000
set_option maxRecDepth 100000
section
namespace Go.Proofs.YteaocbonofboeaaGreat.C
open Go.RowKit Go.Proofs.YteaocbonofboeaaGreatW.PrintWords Go.Proofs.YteaocbonofboeaaGreatW.PrintLast Go.Proofs.YteaocbonofboeaaGreatW.PrintMore
attribute [local go_sem] Qim Qin Qio Qip Qiq Qir Qis Qit
mutual
noncomputable def Qbb.j0:Nat→List (S37)→List Int→List Bool→List (S76)→Bool→List (S158)→Int→Int→Int→Option (Bool)
 | 0,_,_,_,_,_,_,_,_,_=>none
 | k+1,x1,x8,x10,x12,x58,x569000,x569001,x577000,x577001=>if x58=true then(some false)else(Qbb.l0 k x8 x10 x12 ([]:List (S37)) x1 (x1.length:Int) 0 x569000 x569001 x577000 x577001)
noncomputable def Qbb.l0:Nat→List Int→List Bool→List (S76)→List (S37)→List (S37)→Int→Int→List (S158)→Int→Int→Int→Option (Bool)
 | 0,_,_,_,_,_,_,_,_,_,_,_=>none
 | k+1,x8,x10,x12,x14,x59,x60,x61,x569000,x569001,x577000,x577001=>if x61<x60 then(if 0≤x61 then(if x61<(x59.length:Int)then(if x61<(x12.length:Int)then(if 0≤x577000 then(Qbb.l1 k x8 x10 x12 x14 x61 (wrap64 ((shl .i64 (wrap64 ((Qjt x12 x61).f0)) x577000)+(wrap64 ((Qjt x12 x61).f1)))) true (wrap64 ((wrap64 ((shl .i64 (wrap64 ((Qjt x12 x61).f0)) x577000)+(wrap64 ((Qjt x12 x61).f1))))-1)) x59 x60 x61 x569000 x569001 x577000 x577001 ((Qjh x59 x61).f0) ((Qjh x59 x61).f1) ((Qjh x59 x61).f2) ((Qjh x59 x61).f3))else(none))else(none))else(none))else(none))else(if 0≤x577000 then((Qar.f k x8 x569000 x569001).bind fun t598=>((Qcr.f k (shl .i64 1 x577000) t598).bind fun t601=>((Qcq.f k t601).bind fun t604=>((Qau.f k x14 t604).bind fun t607=>(some t607)))))else(none))
noncomputable def Qbb.l1:Nat→List Int→List Bool→List (S76)→List (S37)→Int→Int→Bool→Int→List (S37)→Int→Int→List (S158)→Int→Int→Int→Bool→Int→ByteArray→ByteArray→Option (Bool)
 | 0,_,_,_,_,_,_,_,_,_,_,_,_,_,_,_,_,_,_,_=>none
 | k+1,x8,x10,x12,x14,x15,x17,x18,x19,x59,x60,x61,x569000,x569001,x577000,x577001,x587000,x587001,x587002,x587003=>(Qbq.f k x587000 x587001 x587002 x587003).bind fun t589=>(if x19<(wrap64 (x17+(t589.size:Int)))then(if x18=true then((Qbe.f k x569000).bind fun t590=>((Qbs.f k t590 x569001 (x8.length:Int) x19).bind fun t593=>(Qbb.l1 k x8 x10 x12 x14 x15 x17 (!t593) (wrap64 (x19+1)) x59 x60 x61 x569000 x569001 x577000 x577001 x587000 x587001 x587002 x587003)))else(Qbb.l1 k x8 x10 x12 x14 x15 x17 false (wrap64 (x19+1)) x59 x60 x61 x569000 x569001 x577000 x577001 x587000 x587001 x587002 x587003))else(if 0≤x15 then(if x15<(x10.length:Int)then(if((rdOf false x10 x15) != x18)=true then(some false)else(if x18=true then(if x14.length<2932031007402 then(Qbb.l0 k x8 x10 x12 (x14++[(⟨x587000,x587001,x587002,x587003⟩:S37)]) x59 x60 (wrap64 (x61+1)) x569000 x569001 x577000 x577001)else(none))else(Qbb.l0 k x8 x10 x12 x14 x59 x60 (wrap64 (x61+1)) x569000 x569001 x577000 x577001)))else(none))else(none)))
end
noncomputable def Qbb.f(k:Nat)(a0:Int)(l1:List (S37))(l2_0:List (S158))(a2_1:Int):Option (Bool):=(Qbd.f k).bind fun t569=>(if t569=true then((Qbc.f k a0 l1 l2_0 a2_1).bind fun bt570=>(if bt570.2.2.2=true then((Qav.f k bt570.1 bt570.2.1 l1 l2_0 a2_1).bind fun bt577=>((Qcd.f k bt570.1 bt570.2.1 l1).bind fun bt581=>(if bt577.2=0 then(if bt581.2=0 then(Qbb.j0 k l1 bt570.2.2.1 bt577.1 bt581.1 ((bt577.1.length:Int) != (l1.length:Int)) l2_0 a2_1 bt570.1 bt570.2.1)else(Qbb.j0 k l1 bt570.2.2.1 bt577.1 bt581.1 true l2_0 a2_1 bt570.1 bt570.2.1))else(Qbb.j0 k l1 bt570.2.2.1 bt577.1 bt581.1 true l2_0 a2_1 bt570.1 bt570.2.1))))else(some true)))else(some false))
noncomputable def Qbb.T14:Bool × List (List Nat × List Nat):=(true,[([],[]),([],[]),([0,1],[0,1]),([2],[2]),([3],[3]),([4],[4]),([],[]),([6],[6]),([5,7],[5,7]),([],[]),([],[]),([9,10],[9,10]),([11],[11]),([12],[12]),([13],[13]),([8,14],[8,14]),([15,0,1,2,3,4,5,6,7,8,9,10,11,12,13,14,15],[15])])
noncomputable def Qbb.B14:List Nat:=[0,0,3,7,15,31,0,64,255,0,0,1536,3584,7680,15872,32767,65535]
theorem Qbb.tab14:rtab .any (Qia Tryz.f10 14)=Qbb.T14:=by kernel_rfl
theorem Qbb.bits14:Qhu Qbb.T14.2 Qbb.B14=true:=by kernel_rfl
noncomputable def Qbb.T19:Bool × List (List Nat × List Nat):=(true,[([],[]),([0],[0]),([1],[1]),([2,1],[1,2]),([3,1,1],[1,3]),([1],[1]),([5,1],[1,5]),([1],[1]),([7,1],[1,7]),([1],[1]),([4,6,8,9,4,1],[1,4,6,8,9]),([10,1],[1,10]),([1,11],[1,11]),([12,10,0,1,2,3,4,5,6,7,8,9,10,11,12],[0,12])])
noncomputable def Qbb.B19:List Nat:=[0,1,3,7,15,3,35,3,131,3,1023,2047,4095,8191]
theorem Qbb.tab19:rtab .any (Qia Tryz.f10 19)=Qbb.T19:=by kernel_rfl
theorem Qbb.bits19:Qhu Qbb.T19.2 Qbb.B19=true:=by kernel_rfl
noncomputable def Qbb.T25:Bool × List (List Nat × List Nat):=(true,[([],[]),([0],[0]),([1],[1]),([],[]),([],[]),([3,4],[3,4]),([2,5,5],[2,5]),([6,6],[6]),([7,7,0,1,2,3,4,5,6,7],[7])])
noncomputable def Qbb.B25:List Nat:=[0,1,3,0,0,24,63,127,255]
theorem Qbb.tab25:rtab .any (Qia Tryz.f10 25)=Qbb.T25:=by kernel_rfl
theorem Qbb.bits25:Qhu Qbb.T25.2 Qbb.B25=true:=by kernel_rfl
theorem Qbb.calls (k : Nat) (a0:Int) (A1:Option Addr) (c1:Nat) (l1:List (S37)) (y:Option Addr) (z:Nat) (l:List (S158)) (m:Int) (r:Bool) (w:World) (hr1:Kd.C k37 w A1 l1.length l1) (hc1:l1.length≤c1) (hr2_0:Kd.C k158 w y l.length l) (hc2_0:l.length≤z) (h:Qbb.f k a0 l1 l m=some r) :
  Calls Tryz.prog 10 #[.int .u8 a0,.slice A1 l1.length c1,.agg #[.slice y l.length z,.int .i64 m]] w fun e w'=>e=.returned (.bool r)∧Below w.heap.size w w':=by
 have hu81:=Tryz.underlying81;have hu28:=Tryz.underlying28;have hu37:=Tryz.underlying37;have bv:=QA hr1;have bJ:=QA hc1;clear hr1 hc1;have ap:=QA hr2_0;have aq:=QA hc2_0;clear hr2_0 hc2_0;have HB:=QA (Below.refl w.heap.size w);have H:((Qbd.f k).bind fun bE=>(if bE=true then((Qbc.f k a0 l1 l m).bind fun bt570=>(if bt570.2.2.2=true then((Qav.f k bt570.1 bt570.2.1 l1 l m).bind fun bt577=>((Qcd.f k bt570.1 bt570.2.1 l1).bind fun bt581=>(if bt577.2=0 then(if bt581.2=0 then(Qbb.j0 k l1 bt570.2.2.1 bt577.1 bt581.1 ((bt577.1.length:Int) != (l1.length:Int)) l m bt570.1 bt570.2.1)else(Qbb.j0 k l1 bt570.2.2.1 bt577.1 bt581.1 true l m bt570.1 bt570.2.1))else(Qbb.j0 k l1 bt570.2.2.1 bt577.1 bt581.1 true l m bt570.1 bt570.2.1))))else(some true)))else(some false)))=some r:=h;clear h;replace H:=Option.bind_eq_some_iff.mp H;obtain⟨bE,cA,H⟩:=H;have A4:=QA cA;clear cA
 by_cases c5:bE=true
 ·subst c5;rw[if_pos rfl]at H;replace H:=Option.bind_eq_some_iff.mp H;obtain⟨⟨q,x,D,bX⟩,cB,H⟩:=H;replace H:(if bX=true then((Qav.f k q x l1 l m).bind fun bt577=>((Qcd.f k q x l1).bind fun bt581=>(if bt577.2=0 then(if bt581.2=0 then(Qbb.j0 k l1 D bt577.1 bt581.1 ((bt577.1.length:Int) != (l1.length:Int)) l m q x)else(Qbb.j0 k l1 D bt577.1 bt581.1 true l m q x))else(Qbb.j0 k l1 D bt577.1 bt581.1 true l m q x))))else(some true))=some r:=H;have A6:=QA cB;clear cB
  by_cases c7:bX=true
  ·subst c7;rw[if_pos rfl]at H;replace H:=Option.bind_eq_some_iff.mp H;obtain⟨⟨A,af⟩,cC,H⟩:=H;replace H:((Qcd.f k q x l1).bind fun bt581=>(if af=0 then(if bt581.2=0 then(Qbb.j0 k l1 D A bt581.1 ((A.length:Int) != (l1.length:Int)) l m q x)else(Qbb.j0 k l1 D A bt581.1 true l m q x))else(Qbb.j0 k l1 D A bt581.1 true l m q x)))=some r:=H;have A8:=QA cC;clear cC;replace H:=Option.bind_eq_some_iff.mp H;obtain⟨⟨B,ao⟩,cD,H⟩:=H;replace H:(if af=0 then(if ao=0 then(Qbb.j0 k l1 D A B ((A.length:Int) != (l1.length:Int)) l m q x)else(Qbb.j0 k l1 D A B true l m q x))else(Qbb.j0 k l1 D A B true l m q x))=some r:=H;have A9:=QA cD;clear cD;have bF:=QA H;clear H
   go_enter Tryz.func10,Tryz.ntmps10
   go_upto_region 8 with(first |((with_reducible refine Qfx (N:=5) rfl ?_);(try(refine Qil (by rfl) ?_;dsimp only));refine qq_e 5 #[.slice y l.length z,.int .i64 m] 81 ?_;intro t hg eE hbox hb;have n_:=qn4 (Qfn qq_b hb) (hbox) (qq_s hg:w.heap.size≤t) (qq_s hg:w.heap.size≤t);clear HB;obtain⟨HB,c,bK,bL⟩:=n_;clear hb hbox hg) |((with_reducible refine Qiu (f:=38) rfl ?_);refine Qgs (some 21) rfl rfl Tryz.func38 qq_6 rfl #[] rfl qq_1 ?_;(with_reducible refine(Qbd.calls k  true _ A4.out).mono ?_);rintro e eF ⟨rfl,hb⟩;refine⟨_,rfl,?_⟩;have n_:=qn2 (Qel (g:=t) (o:=.cells #[.slice y l.length z,.int .i64 m] 81 (0,0)) qq_0 hb) (Qfn qq_b hb);clear c HB;obtain⟨c,HB⟩:=n_;(try clear hb);(try clear hb2);(try clear hk);(try clear hi);obtain⟨aw,ax⟩:=qc2 c.out;have bh:=Qdx c.out) |((with_reducible refine Qiu (f:=46) rfl ?_);refine Qgs (some 27) rfl rfl Tryz.func46 qq_6 rfl #[.int .u8 a0,.slice A1 l1.length c1,.agg #[.slice y l.length z,.int .i64 m]] rfl qq_1 ?_;(with_reducible refine(Qbc.calls k a0 _ _ l1 _ _ l m q x D true _ ?side1 ?side2 ?side3 ?side4 A6.out).mono ?_);(case side1=>repeat(first|exact(Kd.C_below bv.out HB.out) |(with_reducible refine Kd.C_alloc ?_ _) |(with_reducible refine Kd.C_drewN ?_ _) |(with_reducible refine Kd.C_drew ?_)));(case side2=>exact bJ.out);(case side3=>repeat(first|exact(Kd.C_below ap.out HB.out) |(with_reducible refine Kd.C_alloc ?_ _) |(with_reducible refine Kd.C_drewN ?_ _) |(with_reducible refine Kd.C_drew ?_)));(case side4=>exact aq.out);rintro e eG ⟨aY,rfl,L,hb⟩;refine⟨_,rfl,?_⟩;have n_:=qn3 (Kd.R_lower L (Qfm qq_b)) (Qel (g:=t) (o:=.cells #[.slice y l.length z,.int .i64 m] 81 (0,0)) qq_0 hb) (Qfn qq_b hb);clear c HB;obtain⟨J,c,HB⟩:=n_;(try clear hb);(try clear hb2);(try clear hk);(try clear hi);(try clear L)) |((with_reducible refine Qfx (N:=7) rfl ?_);(try(refine Qil (by rfl) ?_;dsimp only));refine qq_e 7 #[.int .u8 0,.int .u32 0] 28 ?_;intro u hg eH hbox hb;have n_:=qn8 (Kd.R_below (by(with_reducible repeat(first|apply Kd.R_alloc|apply Kd.R_drewN|apply Kd.R_drew));exact J.out) hb) (Qel (g:=t) (o:=.cells #[.slice y l.length z,.int .i64 m] 81 (0,0)) qq_0 hb) (Qfn qq_b hb) (hbox) (qq_s hg:w.heap.size≤u) (qq_s hg:w.heap.size≤u) ((by rw[hg];exact Nat.ne_of_lt (Qdv (g:=t) (o:=.cells #[.slice y l.length z,.int .i64 m] 81 (0,0)) qq_0):t≠u)) ((by rw[hg];exact Nat.ne_of_gt (Qdv (g:=t) (o:=.cells #[.slice y l.length z,.int .i64 m] 81 (0,0)) qq_0):u≠t));clear J c HB;obtain⟨J,c,HB,d,cj,ck,ag,ah⟩:=n_;clear hb hbox hg;have dH:=ah.out;have dI:=ag.out;obtain⟨ay,az⟩:=qc2 d.out;have bi:=Qdx d.out;obtain⟨aA,aC⟩:=qc2 c.out;have bj:=Qdx c.out) |((with_reducible refine Qiu (f:=49) rfl ?_);refine Qgs (some 37) rfl rfl Tryz.func49 qq_6 rfl #[.agg #[.int .u8 q,.int .u32 x],.slice A1 l1.length c1,.agg #[.slice y l.length z,.int .i64 m]] rfl qq_1 ?_;(with_reducible refine(Qav.calls k q x _ _ l1 _ _ l m A af _ ?side1 ?side2 ?side3 ?side4 A8.out).mono ?_);(case side1=>exact Kd.C_below bv.out qq_b);(case side2=>exact bJ.out);(case side3=>exact Kd.C_below ap.out qq_b);(case side4=>exact aq.out);rintro e eI ⟨bk,rfl,L,hb⟩;refine⟨_,rfl,?_⟩;have n_:=qn5 (Kd.R_below (by(with_reducible repeat(first|apply Kd.R_alloc|apply Kd.R_drewN|apply Kd.R_drew));exact(Kd.R_mono (Kd.R_far (p:=⟨u,1,none⟩) (Kd.R_far (p:=⟨u,0,none⟩) (Kd.R_types J.out d.out (by decide)) (fun _ hk=>hk.2) (.int .u8 q)) (fun _ hk=>hk.2) (.int .u32 x)) (fun _ h_=>h_.1))) hb) (Kd.R_lower L (Qfm qq_b)) (Qel (g:=t) (o:=.cells #[.slice y l.length z,.int .i64 m] 81 (0,0)) qq_5 hb) (Qel (g:=u) (o:=.cells #[.int .u8 q,.int .u32 x] 28 (0,0)) qq_x hb) (Qfn qq_b hb);clear J c d HB;obtain⟨J,ac,c,d,HB⟩:=n_;(try clear hb);(try clear hb2);(try clear hk);(try clear hi);(try clear L);obtain⟨aD,aE⟩:=qc2 d.out;have bl:=Qdx d.out) |((with_reducible refine Qiu (f:=33) rfl ?_);refine Qgs (some 43) rfl rfl Tryz.func33 qq_6 rfl #[.agg #[.int .u8 q,.int .u32 x],.slice A1 l1.length c1] rfl qq_1 ?_;(with_reducible refine(Qcd.calls k q x _ _ l1 B ao _ ?side1 ?side2 A9.out).mono ?_);(case side1=>repeat(first|exact(Kd.C_below bv.out HB.out) |(with_reducible refine Kd.C_alloc ?_ _) |(with_reducible refine Kd.C_drewN ?_ _) |(with_reducible refine Kd.C_drew ?_)));(case side2=>exact bJ.out);rintro e eJ ⟨bG,rfl,L,hb⟩;refine⟨_,rfl,?_⟩;have n_:=qn6 (Kd.R_below (by(with_reducible repeat(first|apply Kd.R_alloc|apply Kd.R_drewN|apply Kd.R_drew));exact J.out) hb) (Kd.R_below (by(with_reducible repeat(first|apply Kd.R_alloc|apply Kd.R_drewN|apply Kd.R_drew));exact ac.out) hb) (Kd.R_lower L (Qfm qq_b)) (Qel (g:=t) (o:=.cells #[.slice y l.length z,.int .i64 m] 81 (0,0)) qq_0 hb) (Qel (g:=u) (o:=.cells #[.int .u8 q,.int .u32 x] 28 (0,0)) qq_0 hb) (Qfn qq_b hb);clear J ac c d HB;obtain⟨J,ac,bn,c,d,HB⟩:=n_;(try clear hb);(try clear hb2);(try clear hk);(try clear hi);(try clear L)))
   (try simp only[Act.put,List.setIfInBounds_toArray,List.set_cons_zero,List.set_cons_succ])
   go_cut [58] (fun dj wc=>∃(kq:Nat) (aU:Bool),dj=.bool aU∧Aside0 (Qbb.j0 kq l1 D A B aU l m q x=some r)∧Aside0 (kq≤k)∧Aside0 (Kd.R (Kd.int .u8) 5 wc w.heap.size (fun _=>True) aY D)∧Aside0 (Kd.R Kd.bool 4 wc w.heap.size (fun _=>True) bk A)∧Aside0 (Kd.R k76 76 wc w.heap.size (fun _=>True) bG B)∧Aside0 (wc.heap[t]? = some (.cells #[(.slice y l.length z),.int .i64 m] 81 (0,0)))∧Aside0 (wc.heap[u]? = some (.cells #[.int .u8 q,.int .u32 x] 28 (0,0)))∧Aside0 (Below w.heap.size w wc))
   case first =>
    have H:=bF.out;clear bF
    by_cases am:af=0
    ·rw[if_pos am]at H;have Z:(af == 0)=true:=beq_iff_eq.mpr am;have aV:(af != 0)=false:=bne_eq_false_iff_eq.mpr am;clear am
     (first|rw[Z] |(simp only[Qgu,Qgv];rw[Z])|skip)
     by_cases an:ao=0
     ·rw[if_pos an]at H;have aW:(ao == 0)=true:=beq_iff_eq.mpr an;have aX:(ao != 0)=false:=bne_eq_false_iff_eq.mpr an;clear an;have H':=QA H;clear H;obtain⟨Ao24,co24,eo24⟩:=Kd.R_slice ac.out;subst eo24;go_wp2
      go_meet
      case rel=>exact⟨_,(((A.length:Int) != (l1.length:Int))),qq_4,H',⟨by first|omega|exact Nat.le_refl _⟩,⟨by(with_reducible repeat(first|apply Kd.R_alloc|apply Kd.R_drewN|apply Kd.R_drew));exact J.out⟩,⟨by(with_reducible repeat(first|apply Kd.R_alloc|apply Kd.R_drewN|apply Kd.R_drew));exact ac.out⟩,⟨by(with_reducible repeat(first|apply Kd.R_alloc|apply Kd.R_drewN|apply Kd.R_drew));exact bn.out⟩,⟨by(with_reducible repeat(first|apply Qek|apply Qej|apply Qei));exact c.out⟩,⟨by(with_reducible repeat(first|apply Qek|apply Qej|apply Qei));exact d.out⟩,⟨qq_b⟩⟩
     ·rw[if_neg an]at H;have aW:(ao == 0)=false:=beq_eq_false_iff_ne.mpr an;have aX:(ao != 0)=true:=bne_iff_ne.mpr an;have H':=QA H;clear H;go_wp2
      go_meet
      case rel=>exact⟨_,(true),qq_4,H',⟨by first|omega|exact Nat.le_refl _⟩,⟨by(with_reducible repeat(first|apply Kd.R_alloc|apply Kd.R_drewN|apply Kd.R_drew));exact J.out⟩,⟨by(with_reducible repeat(first|apply Kd.R_alloc|apply Kd.R_drewN|apply Kd.R_drew));exact ac.out⟩,⟨by(with_reducible repeat(first|apply Kd.R_alloc|apply Kd.R_drewN|apply Kd.R_drew));exact bn.out⟩,⟨by(with_reducible repeat(first|apply Qek|apply Qej|apply Qei));exact c.out⟩,⟨by(with_reducible repeat(first|apply Qek|apply Qej|apply Qei));exact d.out⟩,⟨qq_b⟩⟩
    ·rw[if_neg am]at H;have Z:(af == 0)=false:=beq_eq_false_iff_ne.mpr am;have aV:(af != 0)=true:=bne_iff_ne.mpr am
     (first|rw[Z] |(simp only[Qgu,Qgv];rw[Z])|skip)
     have H':=QA H;clear H;go_wp2
     go_meet
     case rel=>exact⟨_,(true),qq_4,H',⟨by first|omega|exact Nat.le_refl _⟩,⟨by(with_reducible repeat(first|apply Kd.R_alloc|apply Kd.R_drewN|apply Kd.R_drew));exact J.out⟩,⟨by(with_reducible repeat(first|apply Kd.R_alloc|apply Kd.R_drewN|apply Kd.R_drew));exact ac.out⟩,⟨by(with_reducible repeat(first|apply Kd.R_alloc|apply Kd.R_drewN|apply Kd.R_drew));exact bn.out⟩,⟨by(with_reducible repeat(first|apply Qek|apply Qej|apply Qei));exact c.out⟩,⟨by(with_reducible repeat(first|apply Qek|apply Qej|apply Qei));exact d.out⟩,⟨qq_b⟩⟩
   case rest =>
    clear bF
    try clear c1
    try clear c5
    try clear c7
    try clear am
    try clear Z
    try clear aV
    try clear an
    try clear aW
    try clear aX
    try clear aw
    try clear ax
    try clear ay
    try clear az
    try clear aA
    try clear aC
    try clear aD
    try clear aE
    try clear bh
    try clear bi
    try clear bj
    try clear bl
    obtain⟨kq,aU,rfl,HA,HJ9,HO_8,HO_10,HO_12,c,d,HB⟩:=hcut
    cases kq with
    | zero=>exact absurd HA.out (by simp[Qbb.j0])
    | succ kj9 =>
     have H:=HA.out;clear HA;simp only[Qbb.j0]at H
     by_cases bd:aU=true
     ·subst bd;rw[if_pos rfl]at H;obtain rfl:=Option.some.inj H;go_wp2;go_ret
      exact⟨qq_3,qq_b⟩
     ·replace bd := Bool.eq_false_iff.mpr bd;subst bd;rw[if_neg (show ¬(false=true)by decide)]at H;have H':=QA H;clear H;go_wp2
      go_loopg [14,61] kj9 (fun kq dk dl w'=>∃(M:List (S37)) (a:Int),dl=.int .i64 a∧Aside0 (Qbb.l0 kq D A B M l1 (l1.length:Int) a l m q x=some r)∧Aside0 (kq≤kj9)∧Aside0 (Kd.R (Kd.int .u8) 5 w' w.heap.size (fun _=>True) aY D)∧Aside0 (Kd.R Kd.bool 4 w' w.heap.size (fun _=>True) bk A)∧Aside0 (Kd.R k76 76 w' w.heap.size (fun _=>True) bG B)∧Aside0 (Kd.R k37 37 w' w.heap.size (fun _=>True) dk M)∧Aside0 (w'.heap[t]? = some (.cells #[(.slice y l.length z),.int .i64 m] 81 (0,0)))∧Aside0 (w'.heap[u]? = some (.cells #[.int .u8 q,.int .u32 x] 28 (0,0)))∧Aside0 (Below w.heap.size w w'))
      case atStart=>exact⟨(([]:List (S37))),(0),qq_4,H',⟨Nat.le_refl _⟩,⟨by(with_reducible repeat(first|apply Kd.R_alloc|apply Kd.R_drewN|apply Kd.R_drew));exact HO_8.out⟩,⟨by(with_reducible repeat(first|apply Kd.R_alloc|apply Kd.R_drewN|apply Kd.R_drew));exact HO_10.out⟩,⟨by(with_reducible repeat(first|apply Kd.R_alloc|apply Kd.R_drewN|apply Kd.R_drew));exact HO_12.out⟩,⟨by first|exact Kd.R_nil _ _ _ _ _|exact Kd.N_nil _ _ _ _ _|exact Kd.V_nil _ _ _ _ _|exact Kd.Q_nil _ _ _ _ _|exact Kd.S_nil _ _ _ _ _⟩,⟨by(with_reducible repeat(first|apply Qek|apply Qej|apply Qei));exact c.out⟩,⟨by(with_reducible repeat(first|apply Qek|apply Qej|apply Qei));exact d.out⟩,⟨qq_b⟩⟩
      case round =>
       clear H'
       try clear c1
       try clear c5
       try clear c7
       try clear am
       try clear Z
       try clear aV
       try clear an
       try clear aW
       try clear aX
       try clear bd
       try clear aw
       try clear ax
       try clear ay
       try clear az
       try clear aA
       try clear aC
       try clear aD
       try clear aE
       try clear bh
       try clear bi
       try clear bj
       try clear bl
       obtain⟨M,a,rfl,HA,HK2,HO_8,HO_10,HO_12,HO_14,c,d,HB⟩:=hrel
       cases gk with
       | zero=>exact absurd HA.out (by simp[Qbb.l0])
       | succ k2 =>
        have H:=HA.out;clear HA;simp only[Qbb.l0]at H
        by_cases aZ:a<(l1.length:Int)
        ·rw [if_pos aZ]at H;have bM:=decide_eq_true aZ;clear aZ
         by_cases bw:0≤a
         ·rw [if_pos bw]at H;have cl:=decide_eq_true bw;clear bw
          by_cases bx:a<(l1.length:Int)
          ·rw [if_pos bx]at H;have cm:=decide_eq_true bx;clear bx
           by_cases bz:a<(B.length:Int)
           ·rw [if_pos bz]at H;have cn:=decide_eq_true bz;clear bz
            by_cases be:0≤q
            ·rw [if_pos be]at H;have co:=eq_true be;have cp:=decide_eq_true be;clear be;obtain⟨ad,aj⟩:∃j_:Int,(shl .i64 (wrap64 ((Qjt B a).f0)) q)=j_:=⟨_,rfl⟩;replace H:(Qbb.l1 k2 D A B M a (wrap64 ((ad)+(wrap64 ((Qjt B a).f1)))) true (wrap64 ((wrap64 ((ad)+(wrap64 ((Qjt B a).f1))))-1)) l1 (l1.length:Int) a l m q x ((Qjh l1 a).f0) ((Qjh l1 a).f1) ((Qjh l1 a).f2) ((Qjh l1 a).f3))=some r:=by first |(rw[aj]at H;exact H) |(simp only[aj]at H ⊢;exact H)
             have bY:(IntKind.i64.wrap ((wrap64 ((Qjt B a).f0))*2^min q.toNat 64))=ad:=aj;have bZ:q≤64→(IntKind.i64.wrap ((wrap64 ((Qjt B a).f0))*2^q.toNat))=ad:=Qiw aj;have dm:(wrap64 ((wrap64 ((Qjt B a).f0))*2^min q.toNat 64))=ad:=(Qgu _).symm.trans bY;have dn:q≤64→(wrap64 ((wrap64 ((Qjt B a).f0))*2^q.toNat))=ad:=fun h_=>(Qgu _).symm.trans (bZ h_)
             have H':=QA H;clear H;have bo:0≤(a:Int):=of_decide_eq_true qq_2;have bp:a<(l1.length:Int):=of_decide_eq_true qq_2;obtain⟨dJ,cE,aG,aH,aI,aJ⟩:=Qji bv.out a bo bp
             cases cE
             replace aG:=qq_h HB.out aG;replace aH:=qq_h HB.out aH;replace aI:=qq_h HB.out aI;replace aJ:=qq_h HB.out aJ;replace bo:=eq_true bo;replace bp:=eq_true bp
             try go_wp2_with (first |((with_reducible refine Qfx (N:=16) rfl ?_);(try(refine Qil (by rfl) ?_;dsimp only));refine qq_e 16 #[.bool false,.int .u64 0,.string (⟨#[]⟩:ByteArray),.string (⟨#[]⟩:ByteArray)] 37 ?_;intro j hg ar hbox hb;have n_:=qn14 (Kd.R_below qq_8 hb) (Kd.R_below qq_13 hb) (Kd.R_below qq_12 hb) (Kd.R_below (Kd.R_elderB qq_10 j (Nat.le_of_eq hg.symm)) hb) (Qel (g:=t) (o:=.cells #[.slice y l.length z,.int .i64 m] 81 (0,0)) qq_0 hb) (Qel (g:=u) (o:=.cells #[.int .u8 q,.int .u32 x] 28 (0,0)) qq_0 hb) (Qfn qq_b hb) (hbox) (qq_s hg:w.heap.size≤j) (qq_s hg:w.heap.size≤j) ((by rw[hg];exact Nat.ne_of_lt (Qdv (g:=t) (o:=.cells #[.slice y l.length z,.int .i64 m] 81 (0,0)) qq_0):t≠j)) ((by rw[hg];exact Nat.ne_of_gt (Qdv (g:=t) (o:=.cells #[.slice y l.length z,.int .i64 m] 81 (0,0)) qq_0):j≠t)) ((by rw[hg];exact Nat.ne_of_lt (Qdv (g:=u) (o:=.cells #[.int .u8 q,.int .u32 x] 28 (0,0)) qq_0):u≠j)) ((by rw[hg];exact Nat.ne_of_gt (Qdv (g:=u) (o:=.cells #[.int .u8 q,.int .u32 x] 28 (0,0)) qq_0):j≠u));clear HO_8 HO_10 HO_12 HO_14 c d HB;obtain⟨HO_8,HO_10,HO_12,HO_14,c,d,HB,s,dK,dL,G,T,I,U⟩:=n_;clear hb hbox hg;have dM:=T.out;have dN:=G.out;have dO:=U.out;have dP:=I.out;obtain⟨bT,bU,bV,bW⟩:=qc4 s.out;have cq:=Qdx s.out))
             have b0:Aside0 (Kd.R (Kd.int .u8) 5 ((((ar.setCell ⟨j,0,none⟩ (.bool ((Qjh l1 a).f0))).setCell ⟨j,1,none⟩ (.int .u64 ((Qjh l1 a).f1))).setCell ⟨j,2,none⟩ (.string ((Qjh l1 a).f2))).setCell ⟨j,3,none⟩ (.string ((Qjh l1 a).f3))) w.heap.size (fun _=>True) aY D):=⟨by(with_reducible repeat(first|apply Kd.R_alloc|apply Kd.R_drewN|apply Kd.R_drew));exact Kd.R_mono (Kd.R_far (p:=⟨j,3,none⟩) (Kd.R_far (p:=⟨j,2,none⟩) (Kd.R_far (p:=⟨j,1,none⟩) (Kd.R_far (p:=⟨j,0,none⟩) (Kd.R_types HO_8.out s.out (by decide)) (fun _ hk=>hk.2) (.bool ((Qjh l1 a).f0))) (fun _ hk=>hk.2) (.int .u64 ((Qjh l1 a).f1))) (fun _ hk=>hk.2) (.string ((Qjh l1 a).f2))) (fun _ hk=>hk.2) (.string ((Qjh l1 a).f3))) (fun _ hk=>trivial)⟩;have b1:Aside0 (Kd.R Kd.bool 4 ((((ar.setCell ⟨j,0,none⟩ (.bool ((Qjh l1 a).f0))).setCell ⟨j,1,none⟩ (.int .u64 ((Qjh l1 a).f1))).setCell ⟨j,2,none⟩ (.string ((Qjh l1 a).f2))).setCell ⟨j,3,none⟩ (.string ((Qjh l1 a).f3))) w.heap.size (fun _=>True) bk A):=⟨by(with_reducible repeat(first|apply Kd.R_alloc|apply Kd.R_drewN|apply Kd.R_drew));exact Kd.R_mono (Kd.R_far (p:=⟨j,3,none⟩) (Kd.R_far (p:=⟨j,2,none⟩) (Kd.R_far (p:=⟨j,1,none⟩) (Kd.R_far (p:=⟨j,0,none⟩) (Kd.R_types HO_10.out s.out (by decide)) (fun _ hk=>hk.2) (.bool ((Qjh l1 a).f0))) (fun _ hk=>hk.2) (.int .u64 ((Qjh l1 a).f1))) (fun _ hk=>hk.2) (.string ((Qjh l1 a).f2))) (fun _ hk=>hk.2) (.string ((Qjh l1 a).f3))) (fun _ hk=>trivial)⟩;have b2:Aside0 (Kd.R k76 76 ((((ar.setCell ⟨j,0,none⟩ (.bool ((Qjh l1 a).f0))).setCell ⟨j,1,none⟩ (.int .u64 ((Qjh l1 a).f1))).setCell ⟨j,2,none⟩ (.string ((Qjh l1 a).f2))).setCell ⟨j,3,none⟩ (.string ((Qjh l1 a).f3))) w.heap.size (fun _=>True) bG B):=⟨by(with_reducible repeat(first|apply Kd.R_alloc|apply Kd.R_drewN|apply Kd.R_drew));exact Kd.R_mono (Kd.R_far (p:=⟨j,3,none⟩) (Kd.R_far (p:=⟨j,2,none⟩) (Kd.R_far (p:=⟨j,1,none⟩) (Kd.R_far (p:=⟨j,0,none⟩) (Kd.R_types HO_12.out s.out (by decide)) (fun _ hk=>hk.2) (.bool ((Qjh l1 a).f0))) (fun _ hk=>hk.2) (.int .u64 ((Qjh l1 a).f1))) (fun _ hk=>hk.2) (.string ((Qjh l1 a).f2))) (fun _ hk=>hk.2) (.string ((Qjh l1 a).f3))) (fun _ hk=>trivial)⟩;have b3:Aside0 (Kd.R k37 37 ((((ar.setCell ⟨j,0,none⟩ (.bool ((Qjh l1 a).f0))).setCell ⟨j,1,none⟩ (.int .u64 ((Qjh l1 a).f1))).setCell ⟨j,2,none⟩ (.string ((Qjh l1 a).f2))).setCell ⟨j,3,none⟩ (.string ((Qjh l1 a).f3))) w.heap.size (fun k_=>k_≠j) u14 M):=⟨by(with_reducible repeat(first|apply Kd.R_alloc|apply Kd.R_drewN|apply Kd.R_drew));exact Kd.R_mono (Kd.R_far (p:=⟨j,3,none⟩) (Kd.R_far (p:=⟨j,2,none⟩) (Kd.R_far (p:=⟨j,1,none⟩) (Kd.R_far (p:=⟨j,0,none⟩) (Kd.R_mono HO_14.out (fun k_ hk=>(⟨hk,hk.2⟩:_∧k_≠j))) (fun _ hk=>hk.2) (.bool ((Qjh l1 a).f0))) (fun _ hk=>hk.2) (.int .u64 ((Qjh l1 a).f1))) (fun _ hk=>hk.2) (.string ((Qjh l1 a).f2))) (fun _ hk=>hk.2) (.string ((Qjh l1 a).f3))) (fun _ hk=>hk.1.2)⟩;have b4:Aside0 (((((ar.setCell ⟨j,0,none⟩ (.bool ((Qjh l1 a).f0))).setCell ⟨j,1,none⟩ (.int .u64 ((Qjh l1 a).f1))).setCell ⟨j,2,none⟩ (.string ((Qjh l1 a).f2))).setCell ⟨j,3,none⟩ (.string ((Qjh l1 a).f3))).heap[t]? = some (.cells #[.slice y l.length z,.int .i64 m] 81 (0,0))):=⟨by(with_reducible repeat(first|apply Qek|apply Qej|apply Qei));refine Qdu ?_ G.out _;(with_reducible repeat(first|apply Qek|apply Qej|apply Qei));refine Qdu ?_ G.out _;(with_reducible repeat(first|apply Qek|apply Qej|apply Qei));refine Qdu ?_ G.out _;(with_reducible repeat(first|apply Qek|apply Qej|apply Qei));refine Qdu ?_ G.out _;(with_reducible repeat(first|apply Qek|apply Qej|apply Qei));exact c.out⟩;have b5:Aside0 (((((ar.setCell ⟨j,0,none⟩ (.bool ((Qjh l1 a).f0))).setCell ⟨j,1,none⟩ (.int .u64 ((Qjh l1 a).f1))).setCell ⟨j,2,none⟩ (.string ((Qjh l1 a).f2))).setCell ⟨j,3,none⟩ (.string ((Qjh l1 a).f3))).heap[u]? = some (.cells #[.int .u8 q,.int .u32 x] 28 (0,0))):=⟨by(with_reducible repeat(first|apply Qek|apply Qej|apply Qei));refine Qdu ?_ I.out _;(with_reducible repeat(first|apply Qek|apply Qej|apply Qei));refine Qdu ?_ I.out _;(with_reducible repeat(first|apply Qek|apply Qej|apply Qei));refine Qdu ?_ I.out _;(with_reducible repeat(first|apply Qek|apply Qej|apply Qei));refine Qdu ?_ I.out _;(with_reducible repeat(first|apply Qek|apply Qej|apply Qei));exact d.out⟩;have b6:Aside0 (((((ar.setCell ⟨j,0,none⟩ (.bool ((Qjh l1 a).f0))).setCell ⟨j,1,none⟩ (.int .u64 ((Qjh l1 a).f1))).setCell ⟨j,2,none⟩ (.string ((Qjh l1 a).f2))).setCell ⟨j,3,none⟩ (.string ((Qjh l1 a).f3))).heap[j]? = some (.cells #[.bool ((Qjh l1 a).f0),.int .u64 ((Qjh l1 a).f1),.string ((Qjh l1 a).f2),.string ((Qjh l1 a).f3)] 37 (0,0))):=⟨by(with_reducible repeat(first|apply Qek|apply Qej|apply Qei));refine Qfs (cs:=#[.bool ((Qjh l1 a).f0),.int .u64 ((Qjh l1 a).f1),.string ((Qjh l1 a).f2),.string (⟨#[]⟩:ByteArray)]) ?_ 3 _ rfl;(with_reducible repeat(first|apply Qek|apply Qej|apply Qei));refine Qfs (cs:=#[.bool ((Qjh l1 a).f0),.int .u64 ((Qjh l1 a).f1),.string (⟨#[]⟩:ByteArray),.string (⟨#[]⟩:ByteArray)]) ?_ 2 _ rfl;(with_reducible repeat(first|apply Qek|apply Qej|apply Qei));refine Qfs (cs:=#[.bool ((Qjh l1 a).f0),.int .u64 0,.string (⟨#[]⟩:ByteArray),.string (⟨#[]⟩:ByteArray)]) ?_ 1 _ rfl;(with_reducible repeat(first|apply Qek|apply Qej|apply Qei));refine Qfs (cs:=#[.bool false,.int .u64 0,.string (⟨#[]⟩:ByteArray),.string (⟨#[]⟩:ByteArray)]) ?_ 0 _ rfl;(with_reducible repeat(first|apply Qek|apply Qej|apply Qei));exact s.out⟩;have b7:Aside0 (Below w.heap.size w ((((ar.setCell ⟨j,0,none⟩ (.bool ((Qjh l1 a).f0))).setCell ⟨j,1,none⟩ (.int .u64 ((Qjh l1 a).f1))).setCell ⟨j,2,none⟩ (.string ((Qjh l1 a).f2))).setCell ⟨j,3,none⟩ (.string ((Qjh l1 a).f3)))):=⟨qq_b⟩
             (try clear HO_8)
             (try clear HO_10)
             (try clear HO_12)
             (try clear HO_14)
             (try clear c)
             (try clear d)
             (try clear s)
             (try clear HB)
             generalize ((((ar.setCell ⟨j,0,none⟩ (.bool ((Qjh l1 a).f0))).setCell ⟨j,1,none⟩ (.int .u64 ((Qjh l1 a).f1))).setCell ⟨j,2,none⟩ (.string ((Qjh l1 a).f2))).setCell ⟨j,3,none⟩ (.string ((Qjh l1 a).f3)))=w36 at b0 b1 b2 b3 b4 b5 b6 b7 ⊢;have HO_8:=b0;have HO_10:=b1;have HO_12:=b2;have HO_14:=b3;have c:=b4;have d:=b5;have s:=b6;have HB:=b7;clear b0 b1 b2 b3 b4 b5 b6 b7;have n_:=qn8 (Kd.R_drew HO_8.out) (Kd.R_drew HO_10.out) (Kd.R_drew HO_12.out) (Kd.R_drew HO_14.out) (Qej c.out) (Qej d.out) (Qej s.out) (Qft HB.out);clear HO_8 HO_10 HO_12 HO_14 c d s HB;obtain⟨HO_8,HO_10,HO_12,HO_14,c,d,s,HB⟩:=n_;obtain⟨Ao38,co38,eo38⟩:=Kd.R_slice HO_12.out
             (first|subst eo38 |(injection eo38 with f1_ f2_ f3_;have f4_:=f1_.symm;have f5_:=f3_.symm;clear f1_ f2_ f3_;subst f4_;subst f5_))
             have bq:0≤(a:Int):=of_decide_eq_true qq_2;have br:a<(B.length:Int):=of_decide_eq_true qq_2;obtain⟨aa,cF,aK,aM⟩:=Qju (Kd.R_reads' HO_12.out).2.2 a bq br
             cases cF
             replace bq:=eq_true bq;replace br:=eq_true br;have bs:0≤(a:Int):=of_decide_eq_true qq_2;have bu:a<(B.length:Int):=of_decide_eq_true qq_2;obtain⟨cr,cG,aN,aQ⟩:=Qju (Kd.R_reads' HO_12.out).2.2 a bs bu;obtain rfl:aa=cr:=(by injection cG);replace bs:=eq_true bs;replace bu:=eq_true bu;refine Qgj (n:=17) (S:=fun w'=>w'.cell? ⟨u,0,none⟩=some (.int .u8 q)∧w'.cell? ⟨u,1,none⟩=some (.int .u32 x)∧w'.cell? (aa.add ((a).toNat*2))=some (.int .u32 ((Qjt B a).f0))∧w'.cell? ⟨(aa.add ((a).toNat*2)).block,(aa.add ((a).toNat*2)).off+1,none⟩=some (.int .u32 ((Qjt B a).f1))∧w'.cell? (aa.add ((a).toNat*2))=some (.int .u32 ((Qjt B a).f0))∧w'.cell? ⟨(aa.add ((a).toNat*2)).block,(aa.add ((a).toNat*2)).off+1,none⟩=some (.int .u32 ((Qjt B a).f1))) (ds:=[]) (bm 17 0) qq_6 rfl rfl ⟨(Qdw d.out 0).trans rfl,(Qdw d.out 1).trans rfl,aK,aM,aN,aQ⟩ (fun E=>?_);refine Qhy Qbb.tab14 Qbb.bits14 (fun HT_ HW_=>?_);generalize w36.drew=w37 at HO_8 HO_10 HO_12 HO_14 c d s HB aK aM aN aQ E ⊢;refine pz_ (i:=0) (N:=some 66) (bm 17 1) (Qhq HT_.out qq_6) ?_;refine pz_ (i:=1) (N:=some 67) (bm 17 3) (Qhq HT_.out qq_6) ?_;refine pz_ (i:=2) (N:=some 68) (bm 17 7) (Qhq HT_.out qq_6) ?_;refine pz_ (i:=3) (N:=some 69) (bm 17 15) (Qhq HT_.out qq_6) ?_;refine pz_ (i:=6) (N:=some 72) (bm 17 79) (Qhq HT_.out qq_6) ?_;refine pz_ (i:=9) (N:=some 75) (bm 17 591) (Qhq HT_.out qq_6) ?_;refine pz_ (i:=10) (N:=some 76) (bm 17 1615) (Qhq HT_.out qq_6) ?_;refine pz_ (i:=11) (N:=some 77) (bm 17 3663) (Qhq HT_.out qq_6) ?_;refine pz_ (i:=12) (N:=some 78) (bm 17 7759) (Qhq HT_.out qq_6) ?_;refine tz_ (i:=4) (N:=some 70) (bm 17 7775) (Qhx HT_.out HW_.out qq_6) E ?_;refine pz_ (i:=5) (N:=some 71) (bm 17 7807) (Qhq HT_.out qq_6) ?_;refine tz_ (i:=7) (N:=some 73) (bm 17 7935) (Qhx HT_.out HW_.out qq_6) E ?_;refine pz_ (i:=8) (N:=some 74) (bm 17 8191) (Qhq HT_.out qq_6) ?_;refine tz_ (i:=13) (N:=some 79) (bm 17 16383) (Qhx HT_.out HW_.out qq_6) E ?_;refine pz_ (i:=14) (N:=some 80) (bm 17 32767) (Qhq HT_.out qq_6) ?_;refine pz_ (i:=15) (N:=some 81) (bm 17 65535) (Qhq HT_.out qq_6) ?_;refine pz_ (i:=16) (N:=some 17) (bm 17 131071) (Qhq HT_.out qq_6) ?_;refine Qgn (Qht HT_.out qq_6) ?_
             try go_wp2
             go_loopg [18,19] k2 (fun kq dp dq w'=>∃(O:Bool) (ab:Int),dp=.bool O∧dq=.int .i64 ab∧Aside0 (Qbb.l1 kq D A B M a (wrap64 ((ad)+(wrap64 ((Qjt B a).f1)))) O ab l1 (l1.length:Int) a l m q x ((Qjh l1 a).f0) ((Qjh l1 a).f1) ((Qjh l1 a).f2) ((Qjh l1 a).f3)=some r)∧Aside0 (kq≤k2)∧Aside0 (Kd.R (Kd.int .u8) 5 w' w.heap.size (fun _=>True) aY D)∧Aside0 (Kd.R Kd.bool 4 w' w.heap.size (fun _=>True) bk A)∧Aside0 (Kd.R k76 76 w' w.heap.size (fun _=>True) (.slice (some aa) B.length co38) B)∧Aside0 (Kd.R k37 37 w' w.heap.size (fun k_=>k_≠j) u14 M)∧Aside0 (w'.heap[t]? = some (.cells #[(.slice y l.length z),.int .i64 m] 81 (0,0)))∧Aside0 (w'.heap[u]? = some (.cells #[.int .u8 q,.int .u32 x] 28 (0,0)))∧Aside0 (w'.heap[j]? = some (.cells #[.bool ((Qjh l1 a).f0),.int .u64 ((Qjh l1 a).f1),.string ((Qjh l1 a).f2),.string ((Qjh l1 a).f3)] 37 (0,0)))∧Aside0 (Below w.heap.size w w'))
             case atStart=>exact⟨(true),(wrap64 ((wrap64 ((ad)+(wrap64 ((Qjt B a).f1))))-1)),qq_4,(by first|rfl |(simp;done) |(simp only[← aj]<;>(first|rfl|simp)) |(simp[*];done)),H',⟨Nat.le_refl _⟩,⟨by(with_reducible repeat(first|apply Kd.R_alloc|apply Kd.R_drewN|apply Kd.R_drew));exact HO_8.out⟩,⟨by(with_reducible repeat(first|apply Kd.R_alloc|apply Kd.R_drewN|apply Kd.R_drew));exact HO_10.out⟩,⟨by(with_reducible repeat(first|apply Kd.R_alloc|apply Kd.R_drewN|apply Kd.R_drew));exact HO_12.out⟩,⟨by(with_reducible repeat(first|apply Kd.R_alloc|apply Kd.R_drewN|apply Kd.R_drew));exact HO_14.out⟩,⟨by(with_reducible repeat(first|apply Qek|apply Qej|apply Qei));exact c.out⟩,⟨by(with_reducible repeat(first|apply Qek|apply Qej|apply Qei));exact d.out⟩,⟨by(with_reducible repeat(first|apply Qek|apply Qej|apply Qei));exact s.out⟩,⟨qq_b⟩⟩
             case round =>
              clear H'
              try clear c1
              try clear c5
              try clear c7
              try clear am
              try clear Z
              try clear aV
              try clear an
              try clear aW
              try clear aX
              try clear bd
              try clear aZ
              try clear bM
              try clear bw
              try clear cl
              try clear bx
              try clear cm
              try clear bz
              try clear cn
              try clear be
              try clear co
              try clear cp
              try clear aw
              try clear ax
              try clear ay
              try clear az
              try clear aA
              try clear aC
              try clear aD
              try clear aE
              try clear bT
              try clear bU
              try clear bV
              try clear bW
              try clear bh
              try clear bi
              try clear bj
              try clear bl
              try clear cq
              try clear aG
              try clear aH
              try clear aI
              try clear aJ
              try clear aK
              try clear aM
              try clear aN
              try clear aQ
              try clear bo
              try clear bq
              try clear bs
              try clear bp
              try clear br
              try clear bu
              obtain⟨O,ab,rfl,rfl,HA,HK3,HO_8,HO_10,HO_12,HO_14,c,d,s,HB⟩:=hrel
              cases gk with
              | zero=>exact absurd HA.out (by simp[Qbb.l1])
              | succ k3 =>
               have H:=HA.out;clear HA;simp only[Qbb.l1]at H;replace H:=Option.bind_eq_some_iff.mp H;obtain⟨aR,b8,H⟩:=H;have bA:=QA b8;clear b8
               by_cases bf:ab<(wrap64 ((wrap64 ((ad)+(wrap64 ((Qjt B a).f1))))+(aR.size:Int)))
               ·rw[if_pos bf]at H;have ct:=decide_eq_true bf;clear bf
                by_cases bN:O=true
                ·subst bN;rw[if_pos rfl]at H;replace H:=Option.bind_eq_some_iff.mp H;obtain⟨bH,b9,H⟩:=H;have dr:=QA b9;clear b9;replace H:=Option.bind_eq_some_iff.mp H;obtain⟨ca,cb,H⟩:=H;have dt:=QA cb;clear cb;have H':=QA H;clear H;have dQ:=T.out;have dR:=G.out;have dS:=U.out;have dT:=I.out;obtain⟨cJ,cK,cL,cM⟩:=qc4 s.out;have dU:=Qdx s.out
                 try go_wp2_with (first |((with_reducible refine Qiu (f:=37) rfl ?_);refine Qgs (some 87) rfl rfl Tryz.func37 qq_6 rfl #[.agg #[.bool ((Qjh l1 a).f0),.int .u64 ((Qjh l1 a).f1),.string ((Qjh l1 a).f2),.string ((Qjh l1 a).f3)]] rfl qq_1 ?_;(with_reducible refine(Qbq.calls k3 ((Qjh l1 a).f0) ((Qjh l1 a).f1) ((Qjh l1 a).f2) ((Qjh l1 a).f3) aR _ bA.out).mono ?_);rintro e du ⟨rfl,hb⟩;refine⟨_,rfl,?_⟩;have n_:=qn8 (Kd.R_below qq_8 hb) (Kd.R_below qq_13 hb) (Kd.R_below qq_12 hb) (Kd.R_below qq_10 hb) (Qel (g:=t) (o:=.cells #[.slice y l.length z,.int .i64 m] 81 (0,0)) qq_0 hb) (Qel (g:=u) (o:=.cells #[.int .u8 q,.int .u32 x] 28 (0,0)) qq_0 hb) (Qel (g:=j) (o:=.cells #[.bool ((Qjh l1 a).f0),.int .u64 ((Qjh l1 a).f1),.string ((Qjh l1 a).f2),.string ((Qjh l1 a).f3)] 37 (0,0)) qq_0 hb) (Qfn qq_b hb);clear HO_8 HO_10 HO_12 HO_14 c d s HB;obtain⟨HO_8,HO_10,HO_12,HO_14,c,d,s,HB⟩:=n_;(try clear hb);(try clear hb2);(try clear hk);(try clear hi)))
                 have n_:=qn8 (Kd.R_drew HO_8.out) (Kd.R_drew HO_10.out) (Kd.R_drew HO_12.out) (Kd.R_drew HO_14.out) (Qej c.out) (Qej d.out) (Qej s.out) (Qft HB.out);clear HO_8 HO_10 HO_12 HO_14 c d s HB;obtain⟨HO_8,HO_10,HO_12,HO_14,c,d,s,HB⟩:=n_;obtain⟨Ao49,co49,eo49⟩:=Kd.R_slice HO_8.out
                 (first|subst eo49 |(injection eo49 with f1_ f2_ f3_;have f4_:=f1_.symm;have f5_:=f3_.symm;clear f1_ f2_ f3_;subst f4_;subst f5_))
                 refine Qgj (n:=14) (S:=fun w'=>w'.cell? ⟨t,0,none⟩=some (.slice y l.length z)∧w'.cell? ⟨t,1,none⟩=some (.int .i64 m)) (ds:=[]) (bm 14 0) qq_6 rfl rfl ⟨(Qdw c.out 0).trans rfl,(Qdw c.out 1).trans rfl⟩ (fun E=>?_);refine Qhy Qbb.tab19 Qbb.bits19 (fun HT_ HW_=>?_);generalize du.drew=w48 at HO_8 HO_10 HO_12 HO_14 c d s HB E ⊢;refine pz_ (i:=0) (N:=some 93) (bm 14 1) (Qhq HT_.out qq_6) ?_;refine pz_ (i:=1) (N:=some 94) (bm 14 3) (Qhq HT_.out qq_6) ?_;refine pz_ (i:=2) (N:=some 95) (bm 14 7) (Qhq HT_.out qq_6) ?_;refine pz_ (i:=5) (N:=some 98) (bm 14 39) (Qhq HT_.out qq_6) ?_;refine pz_ (i:=7) (N:=some 100) (bm 14 167) (Qhq HT_.out qq_6) ?_;refine pz_ (i:=8) (N:=some 101) (bm 14 423) (Qhq HT_.out qq_6) ?_;refine pz_ (i:=9) (N:=some 102) (bm 14 935) (Qhq HT_.out qq_6) ?_;refine tz_ (i:=3) (N:=some 96) (bm 14 943) (Qhx HT_.out HW_.out qq_6) E ?_;refine tz_ (i:=6) (N:=some 99) (bm 14 1007) (Qhx HT_.out HW_.out qq_6) E ?_;refine one_ (i:=4) (N:=some 97) (bm 14 1023) rfl rfl (Qhr HT_.out qq_6) (by decide) (fun K hK=>?_);refine Qgr Tryz.func41 qq_6 rfl #[.slice y l.length z] (by rfl) rfl rfl qq_1 ?_;with_reducible refine(Qbe.calls k3 _ _ l bH _ ?side1 ?side2 dr.out).mono ?_
                 (case side1=>repeat(first|exact(Kd.C_below ap.out HB.out) |(with_reducible refine Kd.C_alloc ?_ _) |(with_reducible refine Kd.C_drewN ?_ _) |(with_reducible refine Kd.C_drew ?_)))
                 (case side2=>exact aq.out)
                 rintro e eK ⟨ew,rfl,L,hb⟩;refine⟨_,rfl,?_⟩;have n_:=qn9 (Kd.R_below qq_8 hb) (Kd.R_below qq_13 hb) (Kd.R_below qq_12 hb) (Kd.R_below qq_10 hb) (Kd.R_lower L (Qfm qq_b)) (Qel (g:=t) (o:=.cells #[.slice y l.length z,.int .i64 m] 81 (0,0)) qq_0 hb) (Qel (g:=u) (o:=.cells #[.int .u8 q,.int .u32 x] 28 (0,0)) qq_0 hb) (Qel (g:=j) (o:=.cells #[.bool ((Qjh l1 a).f0),.int .u64 ((Qjh l1 a).f1),.string ((Qjh l1 a).f2),.string ((Qjh l1 a).f3)] 37 (0,0)) qq_0 hb) (Qfn qq_b hb);clear HO_8 HO_10 HO_12 HO_14 c d s HB;obtain⟨HO_8,HO_10,HO_12,HO_14,ak,c,d,s,HB⟩:=n_
                 (try clear hb)
                 (try clear hb2)
                 (try clear hk)
                 (try clear hi)
                 (try clear L)
                 obtain⟨Ao51,co51,eo51⟩:=Kd.R_slice ak.out
                 (first|subst eo51 |(injection eo51 with f1_ f2_ f3_;have f4_:=f1_.symm;have f5_:=f3_.symm;clear f1_ f2_ f3_;subst f4_;subst f5_))
                 refine hK.out _ _ ⟨(Qdw c.out 0).trans rfl,(Qdw c.out 1).trans rfl⟩ (fun E=>?_);clear hK K;refine nzp_ 97 ?_;refine one_ (i:=10) (N:=some 103) (bm 14 2047) rfl rfl (Qhr HT_.out qq_6) (by decide) (fun K hK=>?_);refine Qgr Tryz.func42 qq_6 rfl #[.slice Ao51 bH.length co51,.int .i64 m,.int .i64 (D.length:Int),.int .i64 ab] (by rfl) rfl rfl qq_1 ?_;with_reducible refine(Qbs.calls k3 _ _ bH m (D.length:Int) ab ca _ ?side1 ?side2 dt.out).mono ?_
                 (case side1=>repeat(first|exact(Kd.R_reads' ak.out).2.2 |(with_reducible refine Kd.C_alloc ?_ _) |(with_reducible refine Kd.C_drewN ?_ _) |(with_reducible refine Kd.C_drew ?_)))
                 (case side2=>exact(Kd.R_reads' ak.out).2.1)
                 rintro e eL ⟨rfl,hb⟩;refine⟨_,rfl,?_⟩;have n_:=qn9 (Kd.R_below qq_8 hb) (Kd.R_below qq_13 hb) (Kd.R_below qq_12 hb) (Kd.R_below qq_10 hb) (Kd.R_below (by(with_reducible repeat(first|apply Kd.R_alloc|apply Kd.R_drewN|apply Kd.R_drew));exact ak.out) hb) (Qel (g:=t) (o:=.cells #[.slice y l.length z,.int .i64 m] 81 (0,0)) qq_0 hb) (Qel (g:=u) (o:=.cells #[.int .u8 q,.int .u32 x] 28 (0,0)) qq_0 hb) (Qel (g:=j) (o:=.cells #[.bool ((Qjh l1 a).f0),.int .u64 ((Qjh l1 a).f1),.string ((Qjh l1 a).f2),.string ((Qjh l1 a).f3)] 37 (0,0)) qq_0 hb) (Qfn qq_b hb);clear HO_8 HO_10 HO_12 HO_14 ak c d s HB;obtain⟨HO_8,HO_10,HO_12,HO_14,ak,c,d,s,HB⟩:=n_
                 (try clear hb)
                 (try clear hb2)
                 (try clear hk)
                 (try clear hi)
                 refine hK.out _ _ ⟨(Qdw c.out 0).trans rfl,(Qdw c.out 1).trans rfl⟩ (fun E=>?_);clear hK K;refine nzp_ 103 ?_;refine pz_ (i:=11) (N:=some 104) (bm 14 4095) (Qhq HT_.out qq_6) ?_;refine pz_ (i:=12) (N:=some 105) (bm 14 8191) (Qhq HT_.out qq_6) ?_;refine pz_ (i:=13) (N:=some 18) (bm 14 16383) (Qhq HT_.out qq_6) ?_;refine Qgn (Qht HT_.out qq_6) ?_
                 try go_wp2
                 go_roundg k3
                 case measure=>have:=HJ9.out;have:=HK2.out;have:=HK3.out;omega
                 case rel=>exact⟨(!ca),(wrap64 (ab+1)),qq_4,qq_4,H',⟨by have:=HJ9.out;have:=HK2.out;have:=HK3.out;omega⟩,⟨by(with_reducible repeat(first|apply Kd.R_alloc|apply Kd.R_drewN|apply Kd.R_drew));exact HO_8.out⟩,⟨by(with_reducible repeat(first|apply Kd.R_alloc|apply Kd.R_drewN|apply Kd.R_drew));exact HO_10.out⟩,⟨by(with_reducible repeat(first|apply Kd.R_alloc|apply Kd.R_drewN|apply Kd.R_drew));exact HO_12.out⟩,⟨by(with_reducible repeat(first|apply Kd.R_alloc|apply Kd.R_drewN|apply Kd.R_drew));exact HO_14.out⟩,⟨by(with_reducible repeat(first|apply Qek|apply Qej|apply Qei));exact c.out⟩,⟨by(with_reducible repeat(first|apply Qek|apply Qej|apply Qei));exact d.out⟩,⟨by(with_reducible repeat(first|apply Qek|apply Qej|apply Qei));exact s.out⟩,⟨qq_b⟩⟩
                ·replace bN:=Bool.eq_false_iff.mpr bN;subst bN;rw[if_neg (show ¬(false=true)by decide)]at H;have H':=QA H;clear H;have dV:=T.out;have dW:=G.out;have dX:=U.out;have dY:=I.out;obtain⟨cN,cO,cP,cQ⟩:=qc4 s.out;have dZ:=Qdx s.out
                 try go_wp2_with (first |((with_reducible refine Qiu (f:=37) rfl ?_);refine Qgs (some 87) rfl rfl Tryz.func37 qq_6 rfl #[.agg #[.bool ((Qjh l1 a).f0),.int .u64 ((Qjh l1 a).f1),.string ((Qjh l1 a).f2),.string ((Qjh l1 a).f3)]] rfl qq_1 ?_;(with_reducible refine(Qbq.calls k3 ((Qjh l1 a).f0) ((Qjh l1 a).f1) ((Qjh l1 a).f2) ((Qjh l1 a).f3) aR _ bA.out).mono ?_);rintro e dv ⟨rfl,hb⟩;refine⟨_,rfl,?_⟩;have n_:=qn8 (Kd.R_below qq_8 hb) (Kd.R_below qq_13 hb) (Kd.R_below qq_12 hb) (Kd.R_below qq_10 hb) (Qel (g:=t) (o:=.cells #[.slice y l.length z,.int .i64 m] 81 (0,0)) qq_0 hb) (Qel (g:=u) (o:=.cells #[.int .u8 q,.int .u32 x] 28 (0,0)) qq_0 hb) (Qel (g:=j) (o:=.cells #[.bool ((Qjh l1 a).f0),.int .u64 ((Qjh l1 a).f1),.string ((Qjh l1 a).f2),.string ((Qjh l1 a).f3)] 37 (0,0)) qq_0 hb) (Qfn qq_b hb);clear HO_8 HO_10 HO_12 HO_14 c d s HB;obtain⟨HO_8,HO_10,HO_12,HO_14,c,d,s,HB⟩:=n_;(try clear hb);(try clear hb2);(try clear hk);(try clear hi)))
                 have n_:=qn8 (Kd.R_drew HO_8.out) (Kd.R_drew HO_10.out) (Kd.R_drew HO_12.out) (Kd.R_drew HO_14.out) (Qej c.out) (Qej d.out) (Qej s.out) (Qft HB.out);clear HO_8 HO_10 HO_12 HO_14 c d s HB;obtain⟨HO_8,HO_10,HO_12,HO_14,c,d,s,HB⟩:=n_;refine Qgj (n:=14) (S:=fun w'=>True) (ds:=[]) (bm 14 0) qq_6 rfl rfl trivial (fun E=>?_);refine Qhy Qbb.tab19 Qbb.bits19 (fun HT_ HW_=>?_);generalize dv.drew=w57 at HO_8 HO_10 HO_12 HO_14 c d s HB E ⊢;refine pz_ (i:=0) (N:=some 93) (bm 14 1) (Qhq HT_.out qq_6) ?_;refine pz_ (i:=1) (N:=some 94) (bm 14 3) (Qhq HT_.out qq_6) ?_;refine Qgl (i:=2) (N:=some 95) (v:=undef) (a':=?_) (bm 14 7) rfl rfl (Qhq HT_.out qq_6) (fun _ _ _ h=>h) (Or.inr ⟨by rfl,rfl⟩) ?_ ?_;rotate_left
                 ·exact qq_18
                 refine Qgl (i:=3) (N:=some 96) (v:=undef) (a':=?_) (bm 14 15) rfl rfl (Qhq HT_.out qq_6) (fun _ _ _ h=>h) (Or.inr ⟨by rfl,rfl⟩) ?_ ?_;rotate_left
                 ·exact qq_18
                 refine Qgl (i:=4) (N:=some 97) (v:=undef) (a':=?_) (bm 14 31) rfl rfl (Qhq HT_.out qq_6) (fun _ _ _ h=>h) (Or.inr ⟨by rfl,rfl⟩) ?_ ?_;rotate_left
                 ·exact qq_18
                 refine Qgl (i:=5) (N:=some 98) (v:=undef) (a':=?_) (bm 14 63) rfl rfl (Qhq HT_.out qq_6) (fun _ _ _ h=>h) (Or.inr ⟨by rfl,rfl⟩) ?_ ?_;rotate_left
                 ·exact qq_18
                 refine Qgl (i:=6) (N:=some 99) (v:=undef) (a':=?_) (bm 14 127) rfl rfl (Qhq HT_.out qq_6) (fun _ _ _ h=>h) (Or.inr ⟨by rfl,rfl⟩) ?_ ?_;rotate_left
                 ·exact qq_18
                 refine Qgl (i:=7) (N:=some 100) (v:=undef) (a':=?_) (bm 14 255) rfl rfl (Qhq HT_.out qq_6) (fun _ _ _ h=>h) (Or.inr ⟨by rfl,rfl⟩) ?_ ?_;rotate_left
                 ·exact qq_18
                 refine Qgl (i:=8) (N:=some 101) (v:=undef) (a':=?_) (bm 14 511) rfl rfl (Qhq HT_.out qq_6) (fun _ _ _ h=>h) (Or.inr ⟨by rfl,rfl⟩) ?_ ?_;rotate_left
                 ·exact qq_18
                 refine Qgl (i:=9) (N:=some 102) (v:=undef) (a':=?_) (bm 14 1023) rfl rfl (Qhq HT_.out qq_6) (fun _ _ _ h=>h) (Or.inr ⟨by rfl,rfl⟩) ?_ ?_;rotate_left
                 ·exact qq_18
                 refine Qgl (i:=10) (N:=some 103) (v:=undef) (a':=?_) (bm 14 2047) rfl rfl (Qhq HT_.out qq_6) (fun _ _ _ h=>h) (Or.inr ⟨by rfl,rfl⟩) ?_ ?_;rotate_left
                 ·exact qq_18
                 refine Qgl (i:=11) (N:=some 104) (v:=undef) (a':=?_) (bm 14 4095) rfl rfl (Qhq HT_.out qq_6) (fun _ _ _ h=>h) (Or.inr ⟨by rfl,rfl⟩) ?_ ?_;rotate_left
                 ·exact qq_18
                 refine pz_ (i:=12) (N:=some 105) (bm 14 8191) (Qhq HT_.out qq_6) ?_;refine pz_ (i:=13) (N:=some 18) (bm 14 16383) (Qhq HT_.out qq_6) ?_;refine Qgn (Qht HT_.out qq_6) ?_
                 try go_wp2
                 go_roundg k3
                 case measure=>have:=HJ9.out;have:=HK2.out;have:=HK3.out;omega
                 case rel=>exact⟨(false),(wrap64 (ab+1)),qq_4,qq_4,H',⟨by have:=HJ9.out;have:=HK2.out;have:=HK3.out;omega⟩,⟨by(with_reducible repeat(first|apply Kd.R_alloc|apply Kd.R_drewN|apply Kd.R_drew));exact HO_8.out⟩,⟨by(with_reducible repeat(first|apply Kd.R_alloc|apply Kd.R_drewN|apply Kd.R_drew));exact HO_10.out⟩,⟨by(with_reducible repeat(first|apply Kd.R_alloc|apply Kd.R_drewN|apply Kd.R_drew));exact HO_12.out⟩,⟨by(with_reducible repeat(first|apply Kd.R_alloc|apply Kd.R_drewN|apply Kd.R_drew));exact HO_14.out⟩,⟨by(with_reducible repeat(first|apply Qek|apply Qej|apply Qei));exact c.out⟩,⟨by(with_reducible repeat(first|apply Qek|apply Qej|apply Qei));exact d.out⟩,⟨by(with_reducible repeat(first|apply Qek|apply Qej|apply Qei));exact s.out⟩,⟨qq_b⟩⟩
               ·rw [if_neg bf]at H;have ct:=decide_eq_false bf;clear bf
                by_cases bO:0≤a
                ·rw [if_pos bO]at H;have ea:=decide_eq_true bO;clear bO
                 by_cases bP:a<(A.length:Int)
                 ·rw [if_pos bP]at H;have eb:=decide_eq_true bP;clear bP
                  by_cases ai:((rdOf false A a) != O)=true
                  ·rw[if_pos ai]at H;have cu:((rdOf false A a) != O)=true:=ai
                   (try(have cv:decide ((rdOf false A a)=O)=false:=by simpa using ai))
                   (try(have cw:((rdOf false A a) == O)=false:=by simpa using ai))
                   (try(have ec:¬((rdOf false A a)=O):=by simpa using ai))
                   clear ai;obtain rfl:=Option.some.inj H;have ed:=T.out;have ee:=G.out;have ef:=U.out;have eg:=I.out;obtain⟨cR,cS,cT,cU⟩:=qc4 s.out;have eh:=Qdx s.out
                   go_wp2_with (first |((with_reducible refine Qiu (f:=37) rfl ?_);refine Qgs (some 87) rfl rfl Tryz.func37 qq_6 rfl #[.agg #[.bool ((Qjh l1 a).f0),.int .u64 ((Qjh l1 a).f1),.string ((Qjh l1 a).f2),.string ((Qjh l1 a).f3)]] rfl qq_1 ?_;(with_reducible refine(Qbq.calls k3 ((Qjh l1 a).f0) ((Qjh l1 a).f1) ((Qjh l1 a).f2) ((Qjh l1 a).f3) aR _ bA.out).mono ?_);rintro e eM ⟨rfl,hb⟩;refine⟨_,rfl,?_⟩;have n_:=qn8 (Kd.R_below qq_8 hb) (Kd.R_below qq_13 hb) (Kd.R_below qq_12 hb) (Kd.R_below qq_10 hb) (Qel (g:=t) (o:=.cells #[.slice y l.length z,.int .i64 m] 81 (0,0)) qq_0 hb) (Qel (g:=u) (o:=.cells #[.int .u8 q,.int .u32 x] 28 (0,0)) qq_0 hb) (Qel (g:=j) (o:=.cells #[.bool ((Qjh l1 a).f0),.int .u64 ((Qjh l1 a).f1),.string ((Qjh l1 a).f2),.string ((Qjh l1 a).f3)] 37 (0,0)) qq_0 hb) (Qfn qq_b hb);clear HO_8 HO_10 HO_12 HO_14 c d s HB;obtain⟨HO_8,HO_10,HO_12,HO_14,c,d,s,HB⟩:=n_;(try clear hb);(try clear hb2);(try clear hk);(try clear hi);obtain⟨Ao65,co65,eo65⟩:=Kd.R_slice HO_10.out;subst eo65;have X:0≤(a:Int):=of_decide_eq_true qq_2;have Y:a<(A.length:Int):=of_decide_eq_true qq_2;obtain⟨bQ,ba,bg⟩:=Kd.at_bool (Kd.R_reads' HO_10.out).2.2 a X Y;cases ba;replace X:=eq_true X;replace Y:=eq_true Y))
                   go_ret
                   exact⟨by first|rfl |(simp[Qiz,Qja]<;>rfl) |(simp only[← aj];first|rfl |(simp[Qiz,Qja]<;>rfl)) |(simp[*,Qiz,Qja]<;>rfl),qq_b⟩
                  ·rw[if_neg ai]at H;have cu:((rdOf false A a) != O)=false:=by simpa using ai
                   (try(have cv:decide ((rdOf false A a)=O)=true:=by simpa using ai))
                   (try(have cw:((rdOf false A a) == O)=true:=by simpa using ai))
                   clear ai
                   by_cases bR:O=true
                   ·subst bR;rw[if_pos rfl]at H
                    by_cases bS:M.length<2932031007402
                    ·rw[if_pos bS]at H;have cx:=QA bS;clear bS;obtain⟨cc,au⟩:∃y_:List (S37),y_=(M++[(⟨((Qjh l1 a).f0),((Qjh l1 a).f1),((Qjh l1 a).f2),((Qjh l1 a).f3)⟩:S37)]):=⟨_,rfl⟩;replace H:(Qbb.l0 k3 D A B cc l1 (l1.length:Int) (wrap64 (a+1)) l m q x)=some r:=by first |(rw[au];with_reducible exact H) |(have cd:=(Option.bind_some _ _).symm.trans H;rw[au];with_reducible exact cd) |(have cd:=(Option.bind_some _ _).symm.trans H;with_reducible exact cd)|with_reducible exact H |(rw[au];exact H)|exact H
                     have cy:=QA au;clear au;have H':=QA H;clear H;have ei:=T.out;have ej:=G.out;have ek:=U.out;have el:=I.out;obtain⟨cV,cW,cX,cY⟩:=qc4 s.out;have em:=Qdx s.out
                     go_wp2_with (first |((with_reducible refine Qiu (f:=37) rfl ?_);refine Qgs (some 87) rfl rfl Tryz.func37 qq_6 rfl #[.agg #[.bool ((Qjh l1 a).f0),.int .u64 ((Qjh l1 a).f1),.string ((Qjh l1 a).f2),.string ((Qjh l1 a).f3)]] rfl qq_1 ?_;(with_reducible refine(Qbq.calls k3 ((Qjh l1 a).f0) ((Qjh l1 a).f1) ((Qjh l1 a).f2) ((Qjh l1 a).f3) aR _ bA.out).mono ?_);rintro e eN ⟨rfl,hb⟩;refine⟨_,rfl,?_⟩;have n_:=qn8 (Kd.R_below qq_8 hb) (Kd.R_below qq_13 hb) (Kd.R_below qq_12 hb) (Kd.R_below qq_10 hb) (Qel (g:=t) (o:=.cells #[.slice y l.length z,.int .i64 m] 81 (0,0)) qq_0 hb) (Qel (g:=u) (o:=.cells #[.int .u8 q,.int .u32 x] 28 (0,0)) qq_0 hb) (Qel (g:=j) (o:=.cells #[.bool ((Qjh l1 a).f0),.int .u64 ((Qjh l1 a).f1),.string ((Qjh l1 a).f2),.string ((Qjh l1 a).f3)] 37 (0,0)) qq_0 hb) (Qfn qq_b hb);clear HO_8 HO_10 HO_12 HO_14 c d s HB;obtain⟨HO_8,HO_10,HO_12,HO_14,c,d,s,HB⟩:=n_;(try clear hb);(try clear hb2);(try clear hk);(try clear hi);obtain⟨Ao72,co72,eo72⟩:=Kd.R_slice HO_10.out;subst eo72;have X:0≤(a:Int):=of_decide_eq_true qq_2;have Y:a<(A.length:Int):=of_decide_eq_true qq_2;obtain⟨bQ,ba,bg⟩:=Kd.at_bool (Kd.R_reads' HO_10.out).2.2 a X Y;cases ba;replace X:=eq_true X;replace Y:=eq_true Y;obtain⟨cZ,da,db,dc⟩:=qc4 s.out;have en:=Qdx s.out) |((with_reducible refine Qiv (b:=.append) (xs:=#[.tmp 113,.tmp 115]) rfl ?_);(try(refine Qil (by rfl) ?_;dsimp only));at_builtin;refine Kd.R_append k37 (w0:=w) w.heap.size rfl (.tmp 113) (.tmp 115) 22 37 (.agg #[(.bool false),(.int .u64 0),(.string ⟨#[]⟩),(.string ⟨#[]⟩)]) 48 rfl Tryz.underlying22 Qjd rfl (by decide) (by omega) u14 M (⟨((Qjh l1 a).f0),((Qjh l1 a).f1),((Qjh l1 a).f2),((Qjh l1 a).f3)⟩:S37) [.bool ((Qjh l1 a).f0),.int .u64 ((Qjh l1 a).f1),.string ((Qjh l1 a).f2),.string ((Qjh l1 a).f3)] (fun k_=>k_≠j) (fun _=>False) rfl rfl ?aP (fun _ hk=>hk.elim) ?aF ?aO ?aB ?aS ?aL ?_;(case aP=>exact Qjg _ _ _ (⟨((Qjh l1 a).f0),((Qjh l1 a).f1),((Qjh l1 a).f2),((Qjh l1 a).f3)⟩:S37));(case aB=>exact qq_b);(case aF=>exact(fun k_ hk=>Kd.freshB (g:=j) (o:=.cells #[.bool ((Qjh l1 a).f0),.int .u64 ((Qjh l1 a).f1),.string ((Qjh l1 a).f2),.string ((Qjh l1 a).f3)] 37 (0,0)) qq_0 k_ hk));(case aO=>exact qq_10);(case aS=>exact(Qfm qq_b));(case aL=>have:=cx.out;omega);intro ex eO ho hb hg hat;rw[← cy.out]at ho;have n_:=qn8 (Kd.R_over' qq_8 (Kd.R_typed qq_10) (by decide) hg) (Kd.R_over' qq_13 (Kd.R_typed qq_10) (by decide) hg) (Kd.R_over' qq_12 (Kd.R_typed qq_10) (by decide) hg) (Qdy (g:=t) (o:=.cells #[.slice y l.length z,.int .i64 m] 81 (0,0)) qq_0 hg (Kd.R_ne HO_14.out c.out (by decide))) (Qdy (g:=u) (o:=.cells #[.int .u8 q,.int .u32 x] 28 (0,0)) qq_0 hg (Kd.R_ne HO_14.out d.out (by decide))) (Qdy (g:=j) (o:=.cells #[.bool ((Qjh l1 a).f0),.int .u64 ((Qjh l1 a).f1),.string ((Qjh l1 a).f2),.string ((Qjh l1 a).f3)] 37 (0,0)) qq_0 hg (Kd.R_away HO_14.out (fun _ hk=>hk))) (hb) (ho);clear HO_8 HO_10 HO_12 c d s HB HO_14;obtain⟨HO_8,HO_10,HO_12,c,d,s,HB,cz⟩:=n_;clear ho hb hg hat))
                     go_roundg k3
                     case measure=>have:=HJ9.out;have:=HK2.out;have:=HK3.out;omega
                     case rel=>exact⟨(cc),(wrap64 (a+1)),qq_4,H',⟨by have:=HJ9.out;have:=HK2.out;have:=HK3.out;omega⟩,⟨by(with_reducible repeat(first|apply Kd.R_alloc|apply Kd.R_drewN|apply Kd.R_drew));exact HO_8.out⟩,⟨by(with_reducible repeat(first|apply Kd.R_alloc|apply Kd.R_drewN|apply Kd.R_drew));exact HO_10.out⟩,⟨by(with_reducible repeat(first|apply Kd.R_alloc|apply Kd.R_drewN|apply Kd.R_drew));exact HO_12.out⟩,⟨by(with_reducible repeat(first|apply Kd.R_alloc|apply Kd.R_drewN|apply Kd.R_drew));exact Kd.R_mono cz.out (fun _ hk=>trivial)⟩,⟨by(with_reducible repeat(first|apply Qek|apply Qej|apply Qei));exact c.out⟩,⟨by(with_reducible repeat(first|apply Qek|apply Qej|apply Qei));exact d.out⟩,⟨qq_b⟩⟩
                    ·rw[if_neg bS]at H;exact absurd H (by simp)
                   ·replace bR:=Bool.eq_false_iff.mpr bR;subst bR;rw[if_neg (show ¬(false=true)by decide)]at H;have H':=QA H;clear H;have eo:=T.out;have ep:=G.out;have eq:=U.out;have er:=I.out;obtain⟨dd,de,df,dg⟩:=qc4 s.out;have es:=Qdx s.out
                    go_wp2_with (first |((with_reducible refine Qiu (f:=37) rfl ?_);refine Qgs (some 87) rfl rfl Tryz.func37 qq_6 rfl #[.agg #[.bool ((Qjh l1 a).f0),.int .u64 ((Qjh l1 a).f1),.string ((Qjh l1 a).f2),.string ((Qjh l1 a).f3)]] rfl qq_1 ?_;(with_reducible refine(Qbq.calls k3 ((Qjh l1 a).f0) ((Qjh l1 a).f1) ((Qjh l1 a).f2) ((Qjh l1 a).f3) aR _ bA.out).mono ?_);rintro e eP ⟨rfl,hb⟩;refine⟨_,rfl,?_⟩;have n_:=qn8 (Kd.R_below qq_8 hb) (Kd.R_below qq_13 hb) (Kd.R_below qq_12 hb) (Kd.R_below qq_10 hb) (Qel (g:=t) (o:=.cells #[.slice y l.length z,.int .i64 m] 81 (0,0)) qq_0 hb) (Qel (g:=u) (o:=.cells #[.int .u8 q,.int .u32 x] 28 (0,0)) qq_0 hb) (Qel (g:=j) (o:=.cells #[.bool ((Qjh l1 a).f0),.int .u64 ((Qjh l1 a).f1),.string ((Qjh l1 a).f2),.string ((Qjh l1 a).f3)] 37 (0,0)) qq_0 hb) (Qfn qq_b hb);clear HO_8 HO_10 HO_12 HO_14 c d s HB;obtain⟨HO_8,HO_10,HO_12,HO_14,c,d,s,HB⟩:=n_;(try clear hb);(try clear hb2);(try clear hk);(try clear hi);obtain⟨Ao79,co79,eo79⟩:=Kd.R_slice HO_10.out;subst eo79;have X:0≤(a:Int):=of_decide_eq_true qq_2;have Y:a<(A.length:Int):=of_decide_eq_true qq_2;obtain⟨bQ,ba,bg⟩:=Kd.at_bool (Kd.R_reads' HO_10.out).2.2 a X Y;cases ba;replace X:=eq_true X;replace Y:=eq_true Y))
                    go_roundg k3
                    case measure=>have:=HJ9.out;have:=HK2.out;have:=HK3.out;omega
                    case rel=>exact⟨(M),(wrap64 (a+1)),qq_4,H',⟨by have:=HJ9.out;have:=HK2.out;have:=HK3.out;omega⟩,⟨by(with_reducible repeat(first|apply Kd.R_alloc|apply Kd.R_drewN|apply Kd.R_drew));exact HO_8.out⟩,⟨by(with_reducible repeat(first|apply Kd.R_alloc|apply Kd.R_drewN|apply Kd.R_drew));exact HO_10.out⟩,⟨by(with_reducible repeat(first|apply Kd.R_alloc|apply Kd.R_drewN|apply Kd.R_drew));exact HO_12.out⟩,⟨by(with_reducible repeat(first|apply Kd.R_alloc|apply Kd.R_drewN|apply Kd.R_drew));exact Kd.R_mono HO_14.out (fun _ hk=>trivial)⟩,⟨by(with_reducible repeat(first|apply Qek|apply Qej|apply Qei));exact c.out⟩,⟨by(with_reducible repeat(first|apply Qek|apply Qej|apply Qei));exact d.out⟩,⟨qq_b⟩⟩
                 ·rw[if_neg bP]at H;exact absurd H (by simp)
                ·rw[if_neg bO]at H;exact absurd H (by simp)
            ·rw[if_neg be]at H;exact absurd H (by simp)
           ·rw[if_neg bz]at H;exact absurd H (by simp)
          ·rw[if_neg bx]at H;exact absurd H (by simp)
         ·rw[if_neg bw]at H;exact absurd H (by simp)
        ·rw[if_neg aZ]at H;have bM:=decide_eq_false aZ;clear aZ
         by_cases bB:0≤q
         ·rw[if_pos bB]at H;have et:=eq_true bB;have eu:=decide_eq_true bB;clear bB;obtain⟨ae,al⟩:∃j_:Int,(shl .i64 1 q)=j_:=⟨_,rfl⟩;replace H:((Qar.f k2 D l m).bind fun bb=>((Qcr.f k2 (ae) bb).bind fun bc=>((Qcq.f k2 bc).bind fun aT=>((Qau.f k2 M aT).bind fun bI=>(some bI)))))=some r:=by first |(rw[al]at H;exact H) |(simp only[al]at H ⊢;exact H)
          have bC:(IntKind.i64.wrap (1*2^min q.toNat 64))=ae:=al;have bD:q≤64→(IntKind.i64.wrap (1*2^q.toNat))=ae:=Qiw al;have dw:(IntKind.i64.wrap (2^min q.toNat 64))=ae:=by have h_:=bC;rw[Int.one_mul]at h_;exact h_
          have dx:q≤64→(IntKind.i64.wrap (2^q.toNat))=ae:=fun hle_=>by have h_:=bD hle_;rw[Int.one_mul]at h_;exact h_
          have dy:(wrap64 (1*2^min q.toNat 64))=ae:=(Qgu _).symm.trans bC;have dz:q≤64→(wrap64 (1*2^q.toNat))=ae:=fun h_=>(Qgu _).symm.trans (bD h_)
          replace H:=Option.bind_eq_some_iff.mp H;obtain⟨bb,ce,H⟩:=H;have dA:=QA ce;clear ce;replace H:=Option.bind_eq_some_iff.mp H;obtain⟨bc,cf,H⟩:=H;have dB:=QA cf;clear cf;replace H:=Option.bind_eq_some_iff.mp H;obtain⟨aT,cg,H⟩:=H;have dC:=QA cg;clear cg;replace H:=Option.bind_eq_some_iff.mp H;obtain⟨bI,ch,H⟩:=H;have dD:=QA ch;clear ch;obtain rfl:=Option.some.inj H
          try go_wp2
          have n_:=qn7 (Kd.R_drew HO_8.out) (Kd.R_drew HO_10.out) (Kd.R_drew HO_12.out) (Kd.R_drew HO_14.out) (Qej c.out) (Qej d.out) (Qft HB.out);clear HO_8 HO_10 HO_12 HO_14 c d HB;obtain⟨HO_8,HO_10,HO_12,HO_14,c,d,HB⟩:=n_;obtain⟨Ao87,co87,eo87⟩:=Kd.R_slice HO_8.out
          (first|subst eo87 |(injection eo87 with f1_ f2_ f3_;have f4_:=f1_.symm;have f5_:=f3_.symm;clear f1_ f2_ f3_;subst f4_;subst f5_))
          refine Qgj (n:=9) (S:=fun w'=>w'.cell? ⟨u,0,none⟩=some (.int .u8 q)∧w'.cell? ⟨u,1,none⟩=some (.int .u32 x)∧w'.cell? ⟨t,0,none⟩=some (.slice y l.length z)∧w'.cell? ⟨t,1,none⟩=some (.int .i64 m)) (ds:=[]) (bm 9 0) qq_6 rfl rfl ⟨(Qdw d.out 0).trans rfl,(Qdw d.out 1).trans rfl,(Qdw c.out 0).trans rfl,(Qdw c.out 1).trans rfl⟩ (fun E=>?_);refine Qhy Qbb.tab25 Qbb.bits25 (fun HT_ HW_=>?_);generalize wr.drew=w86 at HO_8 HO_10 HO_12 HO_14 c d HB E ⊢;refine pz_ (i:=0) (N:=some 118) (bm 9 1) (Qhq HT_.out qq_6) ?_;refine pz_ (i:=3) (N:=some 121) (bm 9 9) (Qhq HT_.out qq_6) ?_;refine tz_ (i:=1) (N:=some 119) (bm 9 11) (Qhx HT_.out HW_.out qq_6) E ?_;refine pz_ (i:=2) (N:=some 120) (bm 9 15) (Qhq HT_.out qq_6) ?_;refine tz_ (i:=4) (N:=some 122) (bm 9 31) (Qhx HT_.out HW_.out qq_6) E ?_;refine one_ (i:=5) (N:=some 123) (bm 9 63) rfl rfl (Qhr HT_.out qq_6) (by decide) (fun K hK=>?_);refine Qgr Tryz.func39 qq_6 rfl #[.slice Ao87 D.length co87,.agg #[.slice y l.length z,.int .i64 m]] (by rfl) rfl rfl qq_1 ?_;with_reducible refine(Qar.calls k2 _ _ D _ _ l m bb _ ?side1 ?side2 ?side3 ?side4 dA.out).mono ?_
          (case side1=>repeat(first|exact(Kd.R_reads' HO_8.out).2.2 |(with_reducible refine Kd.C_alloc ?_ _) |(with_reducible refine Kd.C_drewN ?_ _) |(with_reducible refine Kd.C_drew ?_)))
          (case side2=>exact(Kd.R_reads' HO_8.out).2.1)
          (case side3=>repeat(first|exact(Kd.C_below ap.out HB.out) |(with_reducible refine Kd.C_alloc ?_ _) |(with_reducible refine Kd.C_drewN ?_ _) |(with_reducible refine Kd.C_drew ?_)))
          (case side4=>exact aq.out)
          rintro e eQ ⟨ey,rfl,L,hb⟩;refine⟨_,rfl,?_⟩;have n_:=qn8 (Kd.R_elder' qq_8 (Kd.R_base L) hb) (Kd.R_below qq_13 hb) (Kd.R_below qq_12 hb) (Kd.R_below qq_10 hb) (Kd.R_lower (Kd.R_new' L (Kd.R_lt qq_8)) (Qfm qq_b)) (Qel (g:=t) (o:=.cells #[.slice y l.length z,.int .i64 m] 81 (0,0)) qq_0 hb) (Qel (g:=u) (o:=.cells #[.int .u8 q,.int .u32 x] 28 (0,0)) qq_0 hb) (Qfn qq_b hb);clear HO_8 HO_10 HO_12 HO_14 c d HB;obtain⟨HO_8,HO_10,HO_12,HO_14,P,c,d,HB⟩:=n_
          (try clear hb)
          (try clear hb2)
          (try clear hk)
          (try clear hi)
          (try clear L)
          obtain⟨Ao89,co89,eo89⟩:=Kd.R_slice P.out
          (first|subst eo89 |(injection eo89 with f1_ f2_ f3_;have f4_:=f1_.symm;have f5_:=f3_.symm;clear f1_ f2_ f3_;subst f4_;subst f5_))
          refine hK.out _ _ ⟨(Qdw d.out 0).trans rfl,(Qdw d.out 1).trans rfl,(Qdw c.out 0).trans rfl,(Qdw c.out 1).trans rfl⟩ (fun E=>?_);clear hK K;refine nzp_ 123 ?_;refine one_ (i:=6) (N:=some 124) (bm 9 127) rfl rfl (Qhr HT_.out qq_6) (by decide) (fun K hK=>?_);refine Qgr Tryz.func34 qq_6 rfl #[.int .i64 ae,.slice Ao89 bb.length co89] (by rfl) rfl rfl (by(try simp only[List.map_toArray,List.map_cons,List.map_nil]);first|done |(simp only[al];rfl)|rfl |(simp only[List.length_drop,List.length_take];rfl)) ?_;with_reducible refine(Qcr.calls k2 ae _ _ bb bc _ ?side1 ?side2 dB.out).mono ?_
          (case side1=>repeat(first|exact(Kd.R_reads' P.out).2.2 |(with_reducible refine Kd.C_alloc ?_ _) |(with_reducible refine Kd.C_drewN ?_ _) |(with_reducible refine Kd.C_drew ?_)))
          (case side2=>exact(Kd.R_reads' P.out).2.1)
          rintro e eR ⟨ez,rfl,L,hb⟩;refine⟨_,rfl,?_⟩;have n_:=qn9 (Kd.R_below qq_8 hb) (Kd.R_below qq_13 hb) (Kd.R_below qq_12 hb) (Kd.R_below qq_10 hb) (Kd.R_below (by(with_reducible repeat(first|apply Kd.R_alloc|apply Kd.R_drewN|apply Kd.R_drew));exact P.out) hb) (Kd.R_lower L (Qfm qq_b)) (Qel (g:=t) (o:=.cells #[.slice y l.length z,.int .i64 m] 81 (0,0)) qq_0 hb) (Qel (g:=u) (o:=.cells #[.int .u8 q,.int .u32 x] 28 (0,0)) qq_0 hb) (Qfn qq_b hb);clear HO_8 HO_10 HO_12 HO_14 P c d HB;obtain⟨HO_8,HO_10,HO_12,HO_14,P,W,c,d,HB⟩:=n_
          (try clear hb)
          (try clear hb2)
          (try clear hk)
          (try clear hi)
          (try clear L)
          obtain⟨Ao91,co91,eo91⟩:=Kd.R_slice W.out
          (first|subst eo91 |(injection eo91 with f1_ f2_ f3_;have f4_:=f1_.symm;have f5_:=f3_.symm;clear f1_ f2_ f3_;subst f4_;subst f5_))
          refine hK.out _ _ ⟨(Qdw d.out 0).trans rfl,(Qdw d.out 1).trans rfl,(Qdw c.out 0).trans rfl,(Qdw c.out 1).trans rfl⟩ (fun E=>?_);clear hK K;refine nzp_ 124 ?_;refine one_ (i:=7) (N:=some 125) (bm 9 255) rfl rfl (Qhr HT_.out qq_6) (by decide) (fun K hK=>?_);refine Qgr Tryz.func36 qq_6 rfl #[.slice Ao91 bc.length co91] (by rfl) rfl rfl qq_1 ?_;with_reducible refine(Qcq.calls k2 _ _ bc aT _ ?side1 ?side2 dC.out).mono ?_
          (case side1=>repeat(first|exact(Kd.R_reads' W.out).2.2 |(with_reducible refine Kd.C_alloc ?_ _) |(with_reducible refine Kd.C_drewN ?_ _) |(with_reducible refine Kd.C_drew ?_)))
          (case side2=>exact(Kd.R_reads' W.out).2.1)
          rintro e eS ⟨eA,rfl,L,hb⟩;refine⟨_,rfl,?_⟩;have n_:=qn10 (Kd.R_below qq_8 hb) (Kd.R_below qq_13 hb) (Kd.R_below qq_12 hb) (Kd.R_elder' qq_10 (Kd.R_base L) hb) (Kd.R_below (by(with_reducible repeat(first|apply Kd.R_alloc|apply Kd.R_drewN|apply Kd.R_drew));exact P.out) hb) (Kd.R_below (by(with_reducible repeat(first|apply Kd.R_alloc|apply Kd.R_drewN|apply Kd.R_drew));exact W.out) hb) (Kd.R_lower (Kd.R_new' L (Kd.R_lt qq_10)) (Qfm qq_b)) (Qel (g:=t) (o:=.cells #[.slice y l.length z,.int .i64 m] 81 (0,0)) qq_0 hb) (Qel (g:=u) (o:=.cells #[.int .u8 q,.int .u32 x] 28 (0,0)) qq_0 hb) (Qfn qq_b hb);clear HO_8 HO_10 HO_12 HO_14 P W c d HB;obtain⟨HO_8,HO_10,HO_12,HO_14,P,W,av,c,d,HB⟩:=n_
          (try clear hb)
          (try clear hb2)
          (try clear hk)
          (try clear hi)
          (try clear L)
          refine hK.out _ _ ⟨(Qdw d.out 0).trans rfl,(Qdw d.out 1).trans rfl,(Qdw c.out 0).trans rfl,(Qdw c.out 1).trans rfl⟩ (fun E=>?_);clear hK K;refine nzp_ 125 ?_;refine pz_ (i:=8) (N:=some 20) (bm 9 511) (Qhq HT_.out qq_6) ?_;refine Qgn (Qht HT_.out qq_6) ?_;obtain⟨Ao93,co93,eo93⟩:=Kd.R_slice HO_14.out;subst eo93;obtain⟨Ao94,co94,eo94⟩:=Kd.R_slice av.out;subst eo94
          try go_wp2_with (first |((with_reducible refine Qiu (f:=44) rfl ?_);refine Qgs (some 128) rfl rfl Tryz.func44 qq_6 rfl #[.slice Ao93 M.length co93,.slice Ao94 aT.length co94] rfl qq_1 ?_;(with_reducible refine(Qau.calls k2 _ _ M (fun k_=>some k_=(.slice Ao94 aT.length co94:Value).ownBlock) _ _ aT bI _ ?side1 ?side2 ?side3 dD.out).mono ?_);(case side1=>repeat(first|exact(Kd.R_reads' HO_14.out).2.2 |(with_reducible refine Kd.C_alloc ?_ _) |(with_reducible refine Kd.C_drewN ?_ _) |(with_reducible refine Kd.C_drew ?_)));(case side2=>exact(Kd.R_reads' HO_14.out).2.1);(case side3=>exact Kd.R_V (Kd.R_tight rfl (Kd.R_types (Kd.R_types (Kd.R_apart' (Kd.R_apart' (Kd.R_apart' (Kd.R_apart' (Kd.R_apart' (av.out) (Kd.R_typed HO_8.out) (by decide)) (Kd.R_typed HO_10.out) (by decide)) (Kd.R_typed HO_12.out) (by decide)) (Kd.R_typed P.out) (by decide)) (Kd.R_typed W.out) (by decide)) c.out (by decide)) d.out (by decide))));rintro e eT ⟨rfl,hb⟩;refine⟨_,rfl,?_⟩;have n_:=qn10 (Kd.R_below qq_8 hb) (Kd.R_below qq_13 hb) (Kd.R_below qq_12 hb) (Kd.R_below qq_10 hb) (Kd.R_below (by(with_reducible repeat(first|apply Kd.R_alloc|apply Kd.R_drewN|apply Kd.R_drew));exact P.out) hb) (Kd.R_below (by(with_reducible repeat(first|apply Kd.R_alloc|apply Kd.R_drewN|apply Kd.R_drew));exact W.out) hb) (Kd.R_below (by(with_reducible repeat(first|apply Kd.R_alloc|apply Kd.R_drewN|apply Kd.R_drew));exact av.out) hb) (Qel (g:=t) (o:=.cells #[.slice y l.length z,.int .i64 m] 81 (0,0)) qq_0 hb) (Qel (g:=u) (o:=.cells #[.int .u8 q,.int .u32 x] 28 (0,0)) qq_0 hb) (Qfn qq_b hb);clear HO_8 HO_10 HO_12 HO_14 P W av c d HB;obtain⟨HO_8,HO_10,HO_12,HO_14,P,W,av,c,d,HB⟩:=n_;(try clear hb);(try clear hb2);(try clear hk);(try clear hi)))
          go_ret
          exact⟨by first|rfl |(simp[Qiz,Qja]<;>rfl) |(simp only[← al];first|rfl |(simp[Qiz,Qja]<;>rfl)) |(simp[*,Qiz,Qja]<;>rfl),qq_b⟩
         ·rw[if_neg bB]at H;exact absurd H (by simp)
  ·replace c7:=Bool.eq_false_iff.mpr c7;subst c7;rw[if_neg (show ¬(false=true)by decide)]at H;obtain rfl:=Option.some.inj H
   go_enter Tryz.func10,Tryz.ntmps10
   go_wp2_with (first |((with_reducible refine Qfx (N:=5) rfl ?_);(try(refine Qil (by rfl) ?_;dsimp only));refine qq_e 5 #[.slice y l.length z,.int .i64 m] 81 ?_;intro t hg eU hbox hb;have n_:=qn4 (Qfn qq_b hb) (hbox) (qq_s hg:w.heap.size≤t) (qq_s hg:w.heap.size≤t);clear HB;obtain⟨HB,c,bK,bL⟩:=n_;clear hb hbox hg) |((with_reducible refine Qiu (f:=38) rfl ?_);refine Qgs (some 21) rfl rfl Tryz.func38 qq_6 rfl #[] rfl qq_1 ?_;(with_reducible refine(Qbd.calls k  true _ A4.out).mono ?_);rintro e eV ⟨rfl,hb⟩;refine⟨_,rfl,?_⟩;have n_:=qn2 (Qel (g:=t) (o:=.cells #[.slice y l.length z,.int .i64 m] 81 (0,0)) qq_0 hb) (Qfn qq_b hb);clear c HB;obtain⟨c,HB⟩:=n_;(try clear hb);(try clear hb2);(try clear hk);(try clear hi);obtain⟨dh,di⟩:=qc2 c.out;have ev:=Qdx c.out) |((with_reducible refine Qiu (f:=46) rfl ?_);refine Qgs (some 27) rfl rfl Tryz.func46 qq_6 rfl #[.int .u8 a0,.slice A1 l1.length c1,.agg #[.slice y l.length z,.int .i64 m]] rfl qq_1 ?_;(with_reducible refine(Qbc.calls k a0 _ _ l1 _ _ l m q x D false _ ?side1 ?side2 ?side3 ?side4 A6.out).mono ?_);(case side1=>repeat(first|exact(Kd.C_below bv.out HB.out) |(with_reducible refine Kd.C_alloc ?_ _) |(with_reducible refine Kd.C_drewN ?_ _) |(with_reducible refine Kd.C_drew ?_)));(case side2=>exact bJ.out);(case side3=>repeat(first|exact(Kd.C_below ap.out HB.out) |(with_reducible refine Kd.C_alloc ?_ _) |(with_reducible refine Kd.C_drewN ?_ _) |(with_reducible refine Kd.C_drew ?_)));(case side4=>exact aq.out);rintro e eW ⟨aY,rfl,L,hb⟩;refine⟨_,rfl,?_⟩;have n_:=qn3 (Kd.R_lower L (Qfm qq_b)) (Qel (g:=t) (o:=.cells #[.slice y l.length z,.int .i64 m] 81 (0,0)) qq_0 hb) (Qfn qq_b hb);clear c HB;obtain⟨J,c,HB⟩:=n_;(try clear hb);(try clear hb2);(try clear hk);(try clear hi);(try clear L)) |((with_reducible refine Qfx (N:=7) rfl ?_);(try(refine Qil (by rfl) ?_;dsimp only));refine qq_e 7 #[.int .u8 0,.int .u32 0] 28 ?_;intro u hg eB hbox hb;have n_:=qn8 (Kd.R_below (by(with_reducible repeat(first|apply Kd.R_alloc|apply Kd.R_drewN|apply Kd.R_drew));exact J.out) hb) (Qel (g:=t) (o:=.cells #[.slice y l.length z,.int .i64 m] 81 (0,0)) qq_0 hb) (Qfn qq_b hb) (hbox) (qq_s hg:w.heap.size≤u) (qq_s hg:w.heap.size≤u) ((by rw[hg];exact Nat.ne_of_lt (Qdv (g:=t) (o:=.cells #[.slice y l.length z,.int .i64 m] 81 (0,0)) qq_0):t≠u)) ((by rw[hg];exact Nat.ne_of_gt (Qdv (g:=t) (o:=.cells #[.slice y l.length z,.int .i64 m] 81 (0,0)) qq_0):u≠t));clear J c HB;obtain⟨J,c,HB,d,cj,ck,ag,ah⟩:=n_;clear hb hbox hg;have dE:=ah.out;have dF:=ag.out;obtain⟨cH,cI⟩:=qc2 d.out;have dG:=Qdx d.out))
   go_ret
   exact⟨qq_3,qq_b⟩
 ·replace c5:=Bool.eq_false_iff.mpr c5;subst c5;rw[if_neg (show ¬(false=true)by decide)]at H;obtain rfl:=Option.some.inj H
  go_enter Tryz.func10,Tryz.ntmps10
  go_wp2_with (first |((with_reducible refine Qfx (N:=5) rfl ?_);(try(refine Qil (by rfl) ?_;dsimp only));refine qq_e 5 #[.slice y l.length z,.int .i64 m] 81 ?_;intro t hg eC hbox hb;have n_:=qn4 (Qfn qq_b hb) (hbox) (qq_s hg:w.heap.size≤t) (qq_s hg:w.heap.size≤t);clear HB;obtain⟨HB,c,bK,bL⟩:=n_;clear hb hbox hg) |((with_reducible refine Qiu (f:=38) rfl ?_);refine Qgs (some 21) rfl rfl Tryz.func38 qq_6 rfl #[] rfl qq_1 ?_;(with_reducible refine(Qbd.calls k  false _ A4.out).mono ?_);rintro e eD ⟨rfl,hb⟩;refine⟨_,rfl,?_⟩;have n_:=qn2 (Qel (g:=t) (o:=.cells #[.slice y l.length z,.int .i64 m] 81 (0,0)) qq_0 hb) (Qfn qq_b hb);clear c HB;obtain⟨c,HB⟩:=n_;(try clear hb);(try clear hb2);(try clear hk);(try clear hi)))
  go_ret
  exact⟨qq_3,qq_b⟩
end Go.Proofs.YteaocbonofboeaaGreat.C
end
