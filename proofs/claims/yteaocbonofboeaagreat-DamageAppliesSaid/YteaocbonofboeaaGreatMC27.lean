/- Merged texts. -/
import Derived.Test.YteaocbonofboeaaGreatMC02
import Derived.Test.YteaocbonofboeaaGreatMC11
import Derived.Test.YteaocbonofboeaaGreatMC26
import Derived.Test.YteaocbonofboeaaGreatMC06
import Derived.Test.YteaocbonofboeaaGreatMC07
import Derived.Test.YteaocbonofboeaaGreatMC12
set_option linter.unusedVariables false
set_option linter.unusedSimpArgs false
set_option maxHeartbeats 8000000
set_option maxRecDepth 100000
section
namespace Go.Proofs.YteaocbonofboeaaGreat.C
open Go.RowKit Go.Proofs.YteaocbonofboeaaGreatW.PrintWords Go.Proofs.YteaocbonofboeaaGreatW.PrintLast Go.Proofs.YteaocbonofboeaaGreatW.PrintMore
attribute [local go_sem] Qhx Qhy Qhz Qia Qib Qic Qid Qie
mutual
def Qaw.j0:Nat→List Int→Int→Int→Bool→List (S158)→Int→Option (Bool)
 | 0,_,_,_,_,_,_=>none
 | k+1,x0,x2,x3,x25,x538000,x538001=>if x25=true then((Qax.f k).bind fun t539=>(some t539))else((some (([]:List Int):List Int)).bind fun y540=>(if y540.length+x0.length<140737488355328 then((some (y540++x0:List Int)).bind fun y543=>((Qaq.f k y543 x538000 x538001).bind fun t546=>((Qay.f k x538000).bind fun t549=>((Qbm.f k (strOfNums x0) t549 x538001).bind fun t552=>(if(strOfNums t546).toList=t552.toList then(Qaw.j1 k x0 x2 x3 ((strOfNums y543).toList != (strOfNums x0).toList) x538000 x538001)else(Qaw.j1 k x0 x2 x3 true x538000 x538001))))))else(none)))
def Qaw.j1:Nat→List Int→Int→Int→Bool→List (S158)→Int→Option (Bool)
 | 0,_,_,_,_,_,_=>none
 | k+1,x0,x2,x3,x50,x538000,x538001=>if x50=true then(some false)else(Qaw.l0 k x0 x2 x3 false (x0.length:Int) 0 x538000 x538001)
def Qaw.l0:Nat→List Int→Int→Int→Bool→Int→Int→List (S158)→Int→Option (Bool)
 | 0,_,_,_,_,_,_,_,_=>none
 | k+1,x0,x2,x3,x11,x52,x53,x538000,x538001=>if x53<x52 then(if x11=true then(Qaw.l0 k x0 x2 x3 true x52 (wrap64 (x53+1)) x538000 x538001)else(if x53≥x2 then(if x53<x3 then((Qay.f k x538000).bind fun t553=>((Qbn.f k t553 x538001 (x0.length:Int) x53).bind fun t556=>(Qaw.l0 k x0 x2 x3 t556 x52 (wrap64 (x53+1)) x538000 x538001)))else(Qaw.l0 k x0 x2 x3 false x52 (wrap64 (x53+1)) x538000 x538001))else(Qaw.l0 k x0 x2 x3 false x52 (wrap64 (x53+1)) x538000 x538001)))else((Qas.f x538000 x538001 (x0.length:Int) x2 x3).bind fun t557=>(some (t557 == x11)))
end
def Qaw.f(k:Nat)(l0:List Int)(l1_0:List (S158))(a1_1:Int)(a2:Int)(a3:Int):Option (Bool):=(Qax.f k).bind fun t538=>(if t538=true then(if(l0.length:Int) > 400 then(Qaw.j0 k l0 a2 a3 true l1_0 a1_1)else(Qaw.j0 k l0 a2 a3 (decide ((l1_0.length:Int) > 20)) l1_0 a1_1))else(Qaw.j0 k l0 a2 a3 true l1_0 a1_1))
def Qaw.T5:Bool × List (List Nat × List Nat):=(true,[([],[]),([0],[0]),([],[]),([2],[2]),([],[]),([4],[4]),([5],[5]),([],[]),([7],[7]),([3,6,8,6],[3,6,8]),([1,9],[1,9]),([10,9],[10]),([11],[11]),([12,11],[11,12]),([11],[11]),([14,11],[11,14]),([13,15,11],[11,13,15]),([11,16],[11,16])])
def Qaw.B5:List Nat:=[0,1,0,4,0,16,48,0,128,508,1023,2047,4095,8191,4095,20479,65535,131071]
theorem Qaw.tab5:rtab .any (Qhq Tryz.f6 5)=Qaw.T5:=by kernel_rfl
theorem Qaw.bits5:Qhk Qaw.T5.2 Qaw.B5=true:=by kernel_rfl
def Qaw.T11:Bool × List (List Nat × List Nat):=(true,[([],[]),([0],[0]),([1],[1]),([1],[1]),([2,3,1],[1,2,3]),([4,1,1],[1,4]),([5],[5]),([5],[5]),([6,7,5],[5,6,7]),([5,8,1],[1,5,8]),([9,5,1],[1,9]),([10],[10]),([11,10],[10,11]),([12,10,10],[10,12]),([10],[10]),([14,10],[10,14]),([10],[10]),([16,10],[10,16]),([10],[10]),([13,15,17,18,13,10],[10,13,15,17,18]),([10,19,1],[1,10,19]),([1,20],[1,20]),([21,19,0,1,2,3,4,5,6,7,8,9,10,11,12,13,14,15,16,17,18,19,20,21],[0,21])])
def Qaw.B11:List Nat:=[0,1,3,3,15,31,63,63,255,511,1023,2047,4095,8191,2047,18431,2047,67583,2047,524287,1048575,2097151,4194303]
theorem Qaw.tab11:rtab .any (Qhq Tryz.f6 11)=Qaw.T11:=by kernel_rfl
theorem Qaw.bits11:Qhk Qaw.T11.2 Qaw.B11=true:=by kernel_rfl
theorem Qaw.calls (k:Nat) (A0:Option Addr) (c0:Nat) (l0:List Int) (p:Option Addr) (q:Nat) (d:List (S158)) (j:Int) (a2:Int) (a3:Int) (r:Bool) (w:World) (hr0:Kd.C (Kd.int .u8) w A0 l0.length l0) (hc0:l0.length≤c0) (hr1_0:Kd.C k158 w p d.length d) (hc1_0:d.length≤q) (h:Qaw.f k l0 d j a2 a3=some r) :
  Calls Tryz.prog 6 #[.slice A0 l0.length c0,.agg #[.slice p d.length q,.int .i64 j],.int .i64 a2,.int .i64 a3] w fun e w'=>e=.returned (.bool r)∧Below w.heap.size w w':=by
 have hu81:=Tryz.underlying81;have I:=QA hr0;have bz:=QA hc0;clear hr0 hc0;have J:=QA hr1_0;have L:=QA hc1_0;clear hr1_0 hc1_0;have HB:=QA (Below.refl w.heap.size w);have H:((Qax.f k).bind fun ap=>(if ap=true then(if(l0.length:Int) > 400 then(Qaw.j0 k l0 a2 a3 true d j)else(Qaw.j0 k l0 a2 a3 (decide ((d.length:Int) > 20)) d j))else(Qaw.j0 k l0 a2 a3 true d j)))=some r:=h;clear h;have aE:=QA H;clear H
 go_enter Tryz.func6,Tryz.ntmps6
 go_upto_region 1 with(first |((with_reducible refine Qfn (N:=5) rfl ?_);(try(refine Qhw (by rfl) ?_;dsimp only));refine qq_e 5 #[.slice p d.length q,.int .i64 j] 81 ?_;intro m hg w6 hbox hb;have n_:=qn4 (Qfd qq_b hb) (hbox) (qq_s hg:w.heap.size≤m) (qq_s hg:w.heap.size≤m);clear HB;obtain⟨HB,a,bs,bu⟩:=n_;clear hb hbox hg))
 (try simp only[Act.put,List.setIfInBounds_toArray,List.set_cons_zero,List.set_cons_succ])
 go_cut [25] (fun bi wc=>∃(kq:Nat) (Y:Bool),bi=.bool Y∧Aside0 (Qaw.j0 kq l0 a2 a3 Y d j=some r)∧Aside0 (kq≤k)∧Aside0 (wc.heap[m]? = some (.cells #[(.slice p d.length q),.int .i64 j] 81 (0,0)))∧Aside0 (Below w.heap.size w wc))
 case first =>
  have H:=aE.out;clear aE;replace H:=Option.bind_eq_some_iff.mp H;obtain⟨ap,aY,H⟩:=H;have A7:=QA aY;clear aY
  by_cases c8:ap=true
  ·subst c8;rw[if_pos rfl]at H
   by_cases c9:(l0.length:Int) > 400
   ·rw[if_pos c9]at H;have E:decide (400<(l0.length:Int))=true:=decide_eq_true c9;have ak:decide (400<l0.length)=true:=decide_eq_true (by omega);clear c9
    (first|rw[E] |(simp only[Qgk,Qgl];rw[E])|skip)
    have H':=QA H;clear H
    go_wp2_with (first |((with_reducible refine Qif (f:=38) rfl ?_);refine Qgi (some 13) rfl rfl Tryz.func38 qq_2 rfl #[] rfl qq_0 ?_;(with_reducible refine(Qax.calls k  true _ A7.out).mono ?_);rintro e bA ⟨rfl,hb⟩;refine⟨_,rfl,?_⟩;have n_:=qn2 (Qed (g:=m) (o:=.cells #[.slice p d.length q,.int .i64 j] 81 (0,0)) qq_1 hb) (Qfd qq_b hb);clear a HB;obtain⟨a,HB⟩:=n_;(try clear hb);(try clear hb2);(try clear hk);(try clear hi)))
    go_meet
    case rel=>exact⟨_,(true),qq_4,H',⟨by first|omega|exact Nat.le_refl _⟩,⟨by(with_reducible repeat(first|apply Qec|apply Qeb|apply Qea));exact a.out⟩,⟨qq_b⟩⟩
   ·rw[if_neg c9]at H;have E:decide (400<(l0.length:Int))=false:=decide_eq_false c9;have ak:decide (400<l0.length)=false:=decide_eq_false (by omega);clear c9
    (first|rw[E] |(simp only[Qgk,Qgl];rw[E])|skip)
    have H':=QA H;clear H
    go_wp2_with (first |((with_reducible refine Qif (f:=38) rfl ?_);refine Qgi (some 13) rfl rfl Tryz.func38 qq_2 rfl #[] rfl qq_0 ?_;(with_reducible refine(Qax.calls k  true _ A7.out).mono ?_);rintro e bB ⟨rfl,hb⟩;refine⟨_,rfl,?_⟩;have n_:=qn2 (Qed (g:=m) (o:=.cells #[.slice p d.length q,.int .i64 j] 81 (0,0)) qq_1 hb) (Qfd qq_b hb);clear a HB;obtain⟨a,HB⟩:=n_;(try clear hb);(try clear hb2);(try clear hk);(try clear hi);obtain⟨W,X⟩:=qc2 a.out;have al:=Qdp a.out))
    go_meet
    case rel=>exact⟨_,(decide ((d.length:Int) > 20)),qq_4,H',⟨by first|omega|exact Nat.le_refl _⟩,⟨by(with_reducible repeat(first|apply Qec|apply Qeb|apply Qea));exact a.out⟩,⟨qq_b⟩⟩
  ·replace c8:=Bool.eq_false_iff.mpr c8;subst c8;rw[if_neg (show ¬(false=true)by decide)]at H;have H':=QA H;clear H
   go_wp2_with (first |((with_reducible refine Qif (f:=38) rfl ?_);refine Qgi (some 13) rfl rfl Tryz.func38 qq_2 rfl #[] rfl qq_0 ?_;(with_reducible refine(Qax.calls k  false _ A7.out).mono ?_);rintro e bC ⟨rfl,hb⟩;refine⟨_,rfl,?_⟩;have n_:=qn2 (Qed (g:=m) (o:=.cells #[.slice p d.length q,.int .i64 j] 81 (0,0)) qq_1 hb) (Qfd qq_b hb);clear a HB;obtain⟨a,HB⟩:=n_;(try clear hb);(try clear hb2);(try clear hk);(try clear hi)))
   go_meet
   case rel=>exact⟨_,(true),qq_4,H',⟨by first|omega|exact Nat.le_refl _⟩,⟨by(with_reducible repeat(first|apply Qec|apply Qeb|apply Qea));exact a.out⟩,⟨qq_b⟩⟩
 case rest =>
  clear aE
  try clear c8
  try clear c9
  try clear E
  try clear ak
  try clear W
  try clear X
  try clear al
  obtain⟨kq,Y,rfl,HA,HJ4,a,HB⟩:=hcut
  cases kq with
  | zero=>exact absurd HA.out (by simp[Qaw.j0])
  | succ kj4 =>
   have H:=HA.out;clear HA;simp only[Qaw.j0]at H
   by_cases ad:Y=true
   ·subst ad;rw[if_pos rfl]at H;replace H:=Option.bind_eq_some_iff.mp H;obtain⟨bc,aG,H⟩:=H;have bj:=QA aG;clear aG;obtain rfl:=Option.some.inj H
    go_wp2_with (first |((with_reducible refine Qif (f:=38) rfl ?_);refine Qgi (some 26) rfl rfl Tryz.func38 qq_2 rfl #[] rfl qq_0 ?_;(with_reducible refine(Qax.calls kj4  bc _ bj.out).mono ?_);rintro e bD ⟨rfl,hb⟩;refine⟨_,rfl,?_⟩;have n_:=qn2 (Qed (g:=m) (o:=.cells #[.slice p d.length q,.int .i64 j] 81 (0,0)) qq_1 hb) (Qfd qq_b hb);clear a HB;obtain⟨a,HB⟩:=n_;(try clear hb);(try clear hb2);(try clear hk);(try clear hi)))
    go_ret
    exact⟨qq_5,qq_b⟩
   ·replace ad:=Bool.eq_false_iff.mpr ad;subst ad;rw[if_neg (show ¬(false=true)by decide)]at H;obtain⟨aa,M⟩:∃y_:List Int,y_=(([]:List Int)):=⟨_,rfl⟩;replace H:(if aa.length+l0.length<140737488355328 then((some (aa++l0:List Int)).bind fun u=>((Qaq.f kj4 u d j).bind fun x=>((Qay.f kj4 d).bind fun z=>((Qbm.f kj4 (strOfNums l0) z j).bind fun y=>(if(strOfNums x).toList=y.toList then(Qaw.j1 kj4 l0 a2 a3 ((strOfNums u).toList != (strOfNums l0).toList) d j)else(Qaw.j1 kj4 l0 a2 a3 true d j))))))else(none))=some r:=by first |(rw[M];with_reducible exact H) |(have ab:=(Option.bind_some _ _).symm.trans H;rw[M];with_reducible exact ab) |(have ab:=(Option.bind_some _ _).symm.trans H;with_reducible exact ab)|with_reducible exact H |(rw[M];exact H)|exact H
    have au:=QA M;clear M
    by_cases ae:aa.length+l0.length<140737488355328
    ·rw [if_pos ae]at H;have aT:=QA ae;clear ae;obtain⟨u,O⟩:∃y_:List Int,y_=(aa++l0):=⟨_,rfl⟩;replace H:((Qaq.f kj4 u d j).bind fun x=>((Qay.f kj4 d).bind fun z=>((Qbm.f kj4 (strOfNums l0) z j).bind fun y=>(if(strOfNums x).toList=y.toList then(Qaw.j1 kj4 l0 a2 a3 ((strOfNums u).toList != (strOfNums l0).toList) d j)else(Qaw.j1 kj4 l0 a2 a3 true d j)))))=some r:=by first |(rw[O];with_reducible exact H) |(have ab:=(Option.bind_some _ _).symm.trans H;rw[O];with_reducible exact ab) |(have ab:=(Option.bind_some _ _).symm.trans H;with_reducible exact ab)|with_reducible exact H |(rw[O];exact H)|exact H
     have aU:=QA O;clear O;replace H:=Option.bind_eq_some_iff.mp H;obtain⟨x,aH,H⟩:=H;have bk:=QA aH;clear aH;have aq:=QA H;clear H
     go_upto_region 5 with(first |((with_reducible refine Qfn (N:=27) rfl ?_);(try(refine Qhw (by rfl) ?_;dsimp only));refine Kd.R_lit (Kd.int .u8) _ 5 ?hg (N:=27) ?hd (xs:=([]:List Int)) (inner:=[]) (ok:=fun _=>True) (okp:=fun _=>True) ?hr ?hp (fun _ hk=>hk) trivial (Below.refl _ _) (Nat.le_refl _) (by simp) ?_;(case hd=>rfl);(case hg=>rfl);(case hr=>exact qq_10);(case hp=>exact(Reps.none _ _));intro bd bE ac hb hg_ hnew_;clear hg_ hnew_;(first|rw[← au.out]at ac |(simp only[Int.reduceToNat]at ac;rw[← au.out]at ac));have n_:=qn3 (Kd.R_lower ac (Qfc qq_b)) (Qed (g:=m) (o:=.cells #[.slice p d.length q,.int .i64 j] 81 (0,0)) qq_1 hb) (Qfd qq_b hb);clear a HB;obtain⟨am,a,HB⟩:=n_;clear hb ac) |((with_reducible refine Qig (b:=.append) (xs:=#[.tmp 27,.tmp 28]) rfl ?_);(try(refine Qhw (by rfl) ?_;dsimp only));at_builtin;refine Kd.R_append_rows (Kd.int .u8) (w0:=w) w.heap.size rfl (.tmp 27) (.tmp 28) 40 5 (.int .u8 0) 1 rfl Tryz.underlying40 Qim rfl (by decide) (by omega) bd aa l0 _ _ _ (fun _=>True) (fun _=>False) rfl rfl ?aO ?aR (fun _ _ h=>h) (fun _ h=>h.elim) ?aF ?aB ?aS ?aL ?_;(case aR=>repeat(first|exact(Kd.C_below I.out HB.out) |(with_reducible refine Kd.C_alloc ?_ _) |(with_reducible refine Kd.C_drewN ?_ _) |(with_reducible refine Kd.C_drew ?_)));(case aB=>exact qq_b);(case aF=>exact(fun _ _=>trivial));(case aO=>exact(by(with_reducible repeat(first|apply Kd.R_alloc|apply Kd.R_drewN|apply Kd.R_drew));exact am.out));(case aS=>exact(Qfc qq_b));(case aL=>have:=aT.out;omega);intro bw bF ho hb hg hat;rw[← aU.out]at ho;have n_:=qn3 (Qdq (g:=m) (o:=.cells #[.slice p d.length q,.int .i64 j] 81 (0,0)) qq_1 hg (Kd.R_ne am.out a.out (by decide))) (hb) (ho);clear a HB am;obtain⟨a,HB,HO545⟩:=n_;clear ho hb hg hat;obtain⟨af,ag⟩:=qc2 a.out;have av:=Qdp a.out;obtain⟨Ao24,co24,eo24⟩:=Kd.R_slice HO545.out;subst eo24) |((with_reducible refine Qif (f:=39) rfl ?_);refine Qgi (some 32) rfl rfl Tryz.func39 qq_2 rfl #[.slice Ao24 u.length co24,.agg #[.slice p d.length q,.int .i64 j]] rfl qq_0 ?_;(with_reducible refine(Qaq.calls kj4 _ _ u _ _ d j x _ ?side1 ?side2 ?side3 ?side4 bk.out).mono ?_);(case side1=>repeat(first|exact(Kd.R_reads' HO545.out).2.2 |(with_reducible refine Kd.C_alloc ?_ _) |(with_reducible refine Kd.C_drewN ?_ _) |(with_reducible refine Kd.C_drew ?_)));(case side2=>exact(Kd.R_reads' HO545.out).2.1);(case side3=>repeat(first|exact(Kd.C_below J.out HB.out) |(with_reducible refine Kd.C_alloc ?_ _) |(with_reducible refine Kd.C_drewN ?_ _) |(with_reducible refine Kd.C_drew ?_)));(case side4=>exact L.out);rintro e aZ ⟨aI,rfl,D,hb⟩;refine⟨_,rfl,?_⟩;have n_:=qn4 (Kd.R_elder' qq_12 (Kd.R_base D) hb) (Kd.R_lower (Kd.R_new' D (Kd.R_lt qq_12)) (Qfc qq_b)) (Qed (g:=m) (o:=.cells #[.slice p d.length q,.int .i64 j] 81 (0,0)) qq_1 hb) (Qfd qq_b hb);clear HO545 a HB;obtain⟨HO545,HO548,a,HB⟩:=n_;(try clear hb);(try clear hb2);(try clear hk);(try clear hi);(try clear D)))
     (try simp only[Act.put,List.setIfInBounds_toArray,List.set_cons_zero,List.set_cons_succ])
     go_cut [50] (fun bl wc=>∃(kq:Nat) (T:Bool),bl=.bool T∧Aside0 (Qaw.j1 kq l0 a2 a3 T d j=some r)∧Aside0 (kq≤kj4)∧Aside0 (wc.heap[m]? = some (.cells #[(.slice p d.length q),.int .i64 j] 81 (0,0)))∧Aside0 (Below w.heap.size w wc))
     case first =>
      have H:=aq.out;clear aq;replace H:=Option.bind_eq_some_iff.mp H;obtain⟨z,aJ,H⟩:=H;have ba:=QA aJ;clear aJ;replace H:=Option.bind_eq_some_iff.mp H;obtain⟨y,aK,H⟩:=H;have bb:=QA aK;clear aK
      by_cases U:(strOfNums x).toList=y.toList
      ·rw[if_pos U]at H;have B:((strOfNums x).toList == y.toList)=true:=beq_iff_eq.mpr U;have an:((strOfNums x).toList != y.toList)=false:=bne_eq_false_iff_eq.mpr U;clear U
       (first|rw[B] |(simp only[Qgk,Qgl];rw[B])|skip)
       have H':=QA H;clear H
       try go_wp2
       have n_:=qn4 (Kd.R_drew HO545.out) (Kd.R_drew HO548.out) (Qeb a.out) (Qfj HB.out);clear HO545 HO548 a HB;obtain⟨HO545,HO548,a,HB⟩:=n_;have aw:=Qcz (P:=Tryz.prog) Tryz.underlying40 Tryz.underlying5 Tryz.underlying9 (Kd.own_of_R HO548.out);have ax:=Kd.C_string (P:=Tryz.prog) (A:=A0) (c:=c0) Tryz.underlying40 Tryz.underlying5 Tryz.underlying9 (Kd.C_below I.out HB.out);refine Qfz (n:=18) (S:=fun w'=>w'.cell? ⟨m,0,none⟩=some (.slice p d.length q)∧w'.cell? ⟨m,1,none⟩=some (.int .i64 j)∧(convert 40 9 aI).run Tryz.prog w'=.ok (.string (strOfNums x)) w'∧(convert 40 9 (.slice A0 l0.length c0)).run Tryz.prog w'=.ok (.string (strOfNums l0)) w'∧(convert 40 9 (.slice Ao24 u.length co24)).run Tryz.prog w'=.ok (.string (strOfNums u)) w') (ds:=[]) (bm 18 0) qq_2 rfl rfl ⟨(Qdo a.out 0).trans rfl,(Qdo a.out 1).trans rfl,Qcz (P:=Tryz.prog) Tryz.underlying40 Tryz.underlying5 Tryz.underlying9 (Kd.own_of_R HO548.out),Kd.C_string (P:=Tryz.prog) (A:=A0) (c:=c0) Tryz.underlying40 Tryz.underlying5 Tryz.underlying9 (Kd.C_below I.out HB.out),Qcz (P:=Tryz.prog) Tryz.underlying40 Tryz.underlying5 Tryz.underlying9 (Kd.own_of_R HO545.out)⟩ (fun l=>?_);refine Qho Qaw.tab5 Qaw.bits5 (fun HT_ HW_=>?_);generalize aZ.drew=w29 at HO545 HO548 a HB l ⊢;refine pz_ (i:=0) (N:=some 33) (bm 18 1) (Qhg HT_.out qq_2) ?_;refine tz_ (i:=1) (N:=some 34) (bm 18 3) (Qhn HT_.out HW_.out qq_2) l ?_;refine pz_ (i:=2) (N:=some 35) (bm 18 7) (Qhg HT_.out qq_2) ?_;refine tz_ (i:=3) (N:=some 36) (bm 18 15) (Qhn HT_.out HW_.out qq_2) l ?_;refine pz_ (i:=4) (N:=some 37) (bm 18 31) (Qhg HT_.out qq_2) ?_;refine pz_ (i:=7) (N:=some 40) (bm 18 159) (Qhg HT_.out qq_2) ?_;refine tz_ (i:=5) (N:=some 38) (bm 18 191) (Qhn HT_.out HW_.out qq_2) l ?_;refine tz_ (i:=8) (N:=some 41) (bm 18 447) (Qhn HT_.out HW_.out qq_2) l ?_;refine one_ (i:=6) (N:=some 39) (bm 18 511) rfl rfl (Qhh HT_.out qq_2) (by decide) (fun K hK=>?_);refine Qgh Tryz.func41 qq_2 rfl #[.slice p d.length q] (by rfl) rfl rfl qq_0 ?_;with_reducible refine(Qay.calls kj4 _ _ d z _ ?side1 ?side2 ba.out).mono ?_
       (case side1=>repeat(first|exact(Kd.C_below J.out HB.out) |(with_reducible refine Kd.C_alloc ?_ _) |(with_reducible refine Kd.C_drewN ?_ _) |(with_reducible refine Kd.C_drew ?_)))
       (case side2=>exact L.out)
       rintro e bG ⟨be,rfl,D,hb⟩;refine⟨_,rfl,?_⟩;have n_:=qn5 (Kd.R_below qq_12 hb) (Kd.R_below qq_18 hb) (Kd.R_lower D (Qfc qq_b)) (Qed (g:=m) (o:=.cells #[.slice p d.length q,.int .i64 j] 81 (0,0)) qq_1 hb) (Qfd qq_b hb);clear HO545 HO548 a HB;obtain⟨HO545,HO548,t,a,HB⟩:=n_
       (try clear hb)
       (try clear hb2)
       (try clear hk)
       (try clear hi)
       (try clear D)
       obtain⟨Ao33,co33,eo33⟩:=Kd.R_slice t.out
       (first|subst eo33 |(injection eo33 with f1_ f2_ f3_;have f4_:=f1_.symm;have f5_:=f3_.symm;clear f1_ f2_ f3_;subst f4_;subst f5_))
       refine hK.out _ _ ⟨(Qdo a.out 0).trans rfl,(Qdo a.out 1).trans rfl,Qcz (P:=Tryz.prog) Tryz.underlying40 Tryz.underlying5 Tryz.underlying9 (Kd.own_of_R HO548.out),Kd.C_string (P:=Tryz.prog) (A:=A0) (c:=c0) Tryz.underlying40 Tryz.underlying5 Tryz.underlying9 (Kd.C_below I.out HB.out),Qcz (P:=Tryz.prog) Tryz.underlying40 Tryz.underlying5 Tryz.underlying9 (Kd.own_of_R HO545.out)⟩ (fun l=>?_);clear hK K;refine nzp_ 39 ?_;refine one_ (i:=9) (N:=some 42) (bm 18 1023) rfl rfl (Qhh HT_.out qq_2) (by decide) (fun K hK=>?_);refine Qgh Tryz.func40 qq_2 rfl #[.string (strOfNums l0),.slice Ao33 z.length co33,.int .i64 j] (by rfl) rfl rfl qq_0 ?_;with_reducible refine(Qbm.calls kj4 (strOfNums l0) _ _ z j y _ ?side1 ?side2 bb.out).mono ?_
       (case side1=>repeat(first|exact(Kd.R_reads' t.out).2.2 |(with_reducible refine Kd.C_alloc ?_ _) |(with_reducible refine Kd.C_drewN ?_ _) |(with_reducible refine Kd.C_drew ?_)))
       (case side2=>exact(Kd.R_reads' t.out).2.1)
       rintro e bH ⟨rfl,hb⟩;refine⟨_,rfl,?_⟩;have n_:=qn5 (Kd.R_below qq_12 hb) (Kd.R_below qq_18 hb) (Kd.R_below (by(with_reducible repeat(first|apply Kd.R_alloc|apply Kd.R_drewN|apply Kd.R_drew));exact t.out) hb) (Qed (g:=m) (o:=.cells #[.slice p d.length q,.int .i64 j] 81 (0,0)) qq_1 hb) (Qfd qq_b hb);clear HO545 HO548 t a HB;obtain⟨HO545,HO548,t,a,HB⟩:=n_
       (try clear hb)
       (try clear hb2)
       (try clear hk)
       (try clear hi)
       have ay:=Qcz (P:=Tryz.prog) Tryz.underlying40 Tryz.underlying5 Tryz.underlying9 (Kd.own_of_R HO545.out);have az:=Kd.C_string (P:=Tryz.prog) (A:=A0) (c:=c0) Tryz.underlying40 Tryz.underlying5 Tryz.underlying9 (Kd.C_below I.out HB.out);refine hK.out _ _ ⟨(Qdo a.out 0).trans rfl,(Qdo a.out 1).trans rfl,Qcz (P:=Tryz.prog) Tryz.underlying40 Tryz.underlying5 Tryz.underlying9 (Kd.own_of_R HO548.out),Kd.C_string (P:=Tryz.prog) (A:=A0) (c:=c0) Tryz.underlying40 Tryz.underlying5 Tryz.underlying9 (Kd.C_below I.out HB.out),Qcz (P:=Tryz.prog) Tryz.underlying40 Tryz.underlying5 Tryz.underlying9 (Kd.own_of_R HO545.out)⟩ (fun l=>?_);clear hK K;refine nzp_ 42 ?_;refine pz_ (i:=10) (N:=some 43) (bm 18 2047) (Qhg HT_.out qq_2) ?_;refine pz_ (i:=11) (N:=some 44) (bm 18 4095) (Qhg HT_.out qq_2) ?_;refine pz_ (i:=12) (N:=some 45) (bm 18 8191) (Qhg HT_.out qq_2) ?_;refine tz_ (i:=13) (N:=some 46) (bm 18 16383) (Qhn HT_.out HW_.out qq_2) l ?_;refine pz_ (i:=14) (N:=some 47) (bm 18 32767) (Qhg HT_.out qq_2) ?_;refine tz_ (i:=15) (N:=some 48) (bm 18 65535) (Qhn HT_.out HW_.out qq_2) l ?_;refine pz_ (i:=16) (N:=some 49) (bm 18 131071) (Qhg HT_.out qq_2) ?_;refine pz_ (i:=17) (N:=some 50) (bm 18 262143) (Qhg HT_.out qq_2) ?_;refine Qgd (Qhj HT_.out qq_2) ?_
       try go_wp2
       go_meet
       case rel=>exact⟨_,(((strOfNums u).toList != (strOfNums l0).toList)),qq_4,H',⟨by have:=HJ4.out;first|omega|exact Nat.le_refl _⟩,⟨by(with_reducible repeat(first|apply Qec|apply Qeb|apply Qea));exact a.out⟩,⟨qq_b⟩⟩
      ·rw[if_neg U]at H;have B:((strOfNums x).toList == y.toList)=false:=beq_eq_false_iff_ne.mpr U;have an:((strOfNums x).toList != y.toList)=true:=bne_iff_ne.mpr U
       (first|rw[B] |(simp only[Qgk,Qgl];rw[B])|skip)
       have H':=QA H;clear H
       try go_wp2
       have n_:=qn4 (Kd.R_drew HO545.out) (Kd.R_drew HO548.out) (Qeb a.out) (Qfj HB.out);clear HO545 HO548 a HB;obtain⟨HO545,HO548,a,HB⟩:=n_;have aA:=Qcz (P:=Tryz.prog) Tryz.underlying40 Tryz.underlying5 Tryz.underlying9 (Kd.own_of_R HO548.out);have aC:=Kd.C_string (P:=Tryz.prog) (A:=A0) (c:=c0) Tryz.underlying40 Tryz.underlying5 Tryz.underlying9 (Kd.C_below I.out HB.out);refine Qfz (n:=18) (S:=fun w'=>w'.cell? ⟨m,0,none⟩=some (.slice p d.length q)∧w'.cell? ⟨m,1,none⟩=some (.int .i64 j)∧(convert 40 9 aI).run Tryz.prog w'=.ok (.string (strOfNums x)) w'∧(convert 40 9 (.slice A0 l0.length c0)).run Tryz.prog w'=.ok (.string (strOfNums l0)) w'∧(convert 40 9 (.slice Ao24 u.length co24)).run Tryz.prog w'=.ok (.string (strOfNums u)) w') (ds:=[]) (bm 18 0) qq_2 rfl rfl ⟨(Qdo a.out 0).trans rfl,(Qdo a.out 1).trans rfl,Qcz (P:=Tryz.prog) Tryz.underlying40 Tryz.underlying5 Tryz.underlying9 (Kd.own_of_R HO548.out),Kd.C_string (P:=Tryz.prog) (A:=A0) (c:=c0) Tryz.underlying40 Tryz.underlying5 Tryz.underlying9 (Kd.C_below I.out HB.out),Qcz (P:=Tryz.prog) Tryz.underlying40 Tryz.underlying5 Tryz.underlying9 (Kd.own_of_R HO545.out)⟩ (fun l=>?_);refine Qho Qaw.tab5 Qaw.bits5 (fun HT_ HW_=>?_);generalize aZ.drew=w38 at HO545 HO548 a HB l ⊢;refine pz_ (i:=0) (N:=some 33) (bm 18 1) (Qhg HT_.out qq_2) ?_;refine tz_ (i:=1) (N:=some 34) (bm 18 3) (Qhn HT_.out HW_.out qq_2) l ?_;refine pz_ (i:=2) (N:=some 35) (bm 18 7) (Qhg HT_.out qq_2) ?_;refine tz_ (i:=3) (N:=some 36) (bm 18 15) (Qhn HT_.out HW_.out qq_2) l ?_;refine pz_ (i:=4) (N:=some 37) (bm 18 31) (Qhg HT_.out qq_2) ?_;refine pz_ (i:=7) (N:=some 40) (bm 18 159) (Qhg HT_.out qq_2) ?_;refine tz_ (i:=5) (N:=some 38) (bm 18 191) (Qhn HT_.out HW_.out qq_2) l ?_;refine tz_ (i:=8) (N:=some 41) (bm 18 447) (Qhn HT_.out HW_.out qq_2) l ?_;refine one_ (i:=6) (N:=some 39) (bm 18 511) rfl rfl (Qhh HT_.out qq_2) (by decide) (fun K hK=>?_);refine Qgh Tryz.func41 qq_2 rfl #[.slice p d.length q] (by rfl) rfl rfl qq_0 ?_;with_reducible refine(Qay.calls kj4 _ _ d z _ ?side1 ?side2 ba.out).mono ?_
       (case side1=>repeat(first|exact(Kd.C_below J.out HB.out) |(with_reducible refine Kd.C_alloc ?_ _) |(with_reducible refine Kd.C_drewN ?_ _) |(with_reducible refine Kd.C_drew ?_)))
       (case side2=>exact L.out)
       rintro e bI ⟨be,rfl,D,hb⟩;refine⟨_,rfl,?_⟩;have n_:=qn5 (Kd.R_below qq_12 hb) (Kd.R_below qq_18 hb) (Kd.R_lower D (Qfc qq_b)) (Qed (g:=m) (o:=.cells #[.slice p d.length q,.int .i64 j] 81 (0,0)) qq_1 hb) (Qfd qq_b hb);clear HO545 HO548 a HB;obtain⟨HO545,HO548,t,a,HB⟩:=n_
       (try clear hb)
       (try clear hb2)
       (try clear hk)
       (try clear hi)
       (try clear D)
       obtain⟨Ao42,co42,eo42⟩:=Kd.R_slice t.out
       (first|subst eo42 |(injection eo42 with f1_ f2_ f3_;have f4_:=f1_.symm;have f5_:=f3_.symm;clear f1_ f2_ f3_;subst f4_;subst f5_))
       refine hK.out _ _ ⟨(Qdo a.out 0).trans rfl,(Qdo a.out 1).trans rfl,Qcz (P:=Tryz.prog) Tryz.underlying40 Tryz.underlying5 Tryz.underlying9 (Kd.own_of_R HO548.out),Kd.C_string (P:=Tryz.prog) (A:=A0) (c:=c0) Tryz.underlying40 Tryz.underlying5 Tryz.underlying9 (Kd.C_below I.out HB.out),Qcz (P:=Tryz.prog) Tryz.underlying40 Tryz.underlying5 Tryz.underlying9 (Kd.own_of_R HO545.out)⟩ (fun l=>?_);clear hK K;refine nzp_ 39 ?_;refine one_ (i:=9) (N:=some 42) (bm 18 1023) rfl rfl (Qhh HT_.out qq_2) (by decide) (fun K hK=>?_);refine Qgh Tryz.func40 qq_2 rfl #[.string (strOfNums l0),.slice Ao42 z.length co42,.int .i64 j] (by rfl) rfl rfl qq_0 ?_;with_reducible refine(Qbm.calls kj4 (strOfNums l0) _ _ z j y _ ?side1 ?side2 bb.out).mono ?_
       (case side1=>repeat(first|exact(Kd.R_reads' t.out).2.2 |(with_reducible refine Kd.C_alloc ?_ _) |(with_reducible refine Kd.C_drewN ?_ _) |(with_reducible refine Kd.C_drew ?_)))
       (case side2=>exact(Kd.R_reads' t.out).2.1)
       rintro e bJ ⟨rfl,hb⟩;refine⟨_,rfl,?_⟩;have n_:=qn5 (Kd.R_below qq_12 hb) (Kd.R_below qq_18 hb) (Kd.R_below (by(with_reducible repeat(first|apply Kd.R_alloc|apply Kd.R_drewN|apply Kd.R_drew));exact t.out) hb) (Qed (g:=m) (o:=.cells #[.slice p d.length q,.int .i64 j] 81 (0,0)) qq_1 hb) (Qfd qq_b hb);clear HO545 HO548 t a HB;obtain⟨HO545,HO548,t,a,HB⟩:=n_
       (try clear hb)
       (try clear hb2)
       (try clear hk)
       (try clear hi)
       refine hK.out _ _ ⟨(Qdo a.out 0).trans rfl,(Qdo a.out 1).trans rfl,Qcz (P:=Tryz.prog) Tryz.underlying40 Tryz.underlying5 Tryz.underlying9 (Kd.own_of_R HO548.out),Kd.C_string (P:=Tryz.prog) (A:=A0) (c:=c0) Tryz.underlying40 Tryz.underlying5 Tryz.underlying9 (Kd.C_below I.out HB.out),Qcz (P:=Tryz.prog) Tryz.underlying40 Tryz.underlying5 Tryz.underlying9 (Kd.own_of_R HO545.out)⟩ (fun l=>?_);clear hK K;refine nzp_ 42 ?_;refine pz_ (i:=10) (N:=some 43) (bm 18 2047) (Qhg HT_.out qq_2) ?_;refine pz_ (i:=11) (N:=some 44) (bm 18 4095) (Qhg HT_.out qq_2) ?_;refine Qgb (i:=12) (N:=some 45) (v:=undef) (a':=?_) (bm 18 8191) rfl rfl (Qhg HT_.out qq_2) (fun _ _ _ h=>h) (Or.inr ⟨by rfl,rfl⟩) ?_ ?_;rotate_left
       ·exact qq_3
       refine Qgb (i:=13) (N:=some 46) (v:=undef) (a':=?_) (bm 18 16383) rfl rfl (Qhg HT_.out qq_2) (fun _ _ _ h=>h) (Or.inr ⟨by rfl,rfl⟩) ?_ ?_;rotate_left
       ·exact qq_3
       refine Qgb (i:=14) (N:=some 47) (v:=undef) (a':=?_) (bm 18 32767) rfl rfl (Qhg HT_.out qq_2) (fun _ _ _ h=>h) (Or.inr ⟨by rfl,rfl⟩) ?_ ?_;rotate_left
       ·exact qq_3
       refine Qgb (i:=15) (N:=some 48) (v:=undef) (a':=?_) (bm 18 65535) rfl rfl (Qhg HT_.out qq_2) (fun _ _ _ h=>h) (Or.inr ⟨by rfl,rfl⟩) ?_ ?_;rotate_left
       ·exact qq_3
       refine Qgb (i:=16) (N:=some 49) (v:=undef) (a':=?_) (bm 18 131071) rfl rfl (Qhg HT_.out qq_2) (fun _ _ _ h=>h) (Or.inr ⟨by rfl,rfl⟩) ?_ ?_;rotate_left
       ·exact qq_3
       refine pz_ (i:=17) (N:=some 50) (bm 18 262143) (Qhg HT_.out qq_2) ?_;refine Qgd (Qhj HT_.out qq_2) ?_
       try go_wp2
       go_meet
       case rel=>exact⟨_,(true),qq_4,H',⟨by have:=HJ4.out;first|omega|exact Nat.le_refl _⟩,⟨by(with_reducible repeat(first|apply Qec|apply Qeb|apply Qea));exact a.out⟩,⟨qq_b⟩⟩
     case rest =>
      clear aq
      try clear c8
      try clear c9
      try clear E
      try clear ak
      try clear ad
      try clear ae
      try clear U
      try clear B
      try clear an
      try clear aw
      try clear ax
      try clear ay
      try clear az
      try clear aA
      try clear aC
      try clear W
      try clear X
      try clear af
      try clear ag
      try clear al
      try clear av
      obtain⟨kq,T,rfl,HA,HJ18,a,HB⟩:=hcut
      cases kq with
      | zero=>exact absurd HA.out (by simp[Qaw.j1])
      | succ kj18 =>
       have H:=HA.out;clear HA;simp only[Qaw.j1]at H
       by_cases ao:T=true
       ·subst ao;rw[if_pos rfl]at H;obtain rfl:=Option.some.inj H;go_wp2;go_ret
        exact⟨qq_5,qq_b⟩
       ·replace ao:=Bool.eq_false_iff.mpr ao;subst ao;rw[if_neg (show ¬(false=true)by decide)]at H;have H':=QA H;clear H;go_wp2
        go_loopg [11,53] kj18 (fun kq bn bo w'=>∃(Z:Bool) (s:Int),bn=.bool Z∧bo=.int .i64 s∧Aside0 (Qaw.l0 kq l0 a2 a3 Z (l0.length:Int) s d j=some r)∧Aside0 (kq≤kj18)∧Aside0 (w'.heap[m]? = some (.cells #[(.slice p d.length q),.int .i64 j] 81 (0,0)))∧Aside0 (Below w.heap.size w w'))
        case atStart=>exact⟨(false),(0),qq_4,qq_4,H',⟨Nat.le_refl _⟩,⟨by(with_reducible repeat(first|apply Qec|apply Qeb|apply Qea));exact a.out⟩,⟨qq_b⟩⟩
        case round =>
         clear H'
         try clear c8
         try clear c9
         try clear E
         try clear ak
         try clear ad
         try clear ae
         try clear U
         try clear B
         try clear an
         try clear aw
         try clear ax
         try clear ay
         try clear az
         try clear aA
         try clear aC
         try clear ao
         try clear W
         try clear X
         try clear af
         try clear ag
         try clear al
         try clear av
         obtain⟨Z,s,rfl,rfl,HA,HK3,a,HB⟩:=hrel
         cases gk with
         | zero=>exact absurd HA.out (by simp[Qaw.l0])
         | succ k3 =>
          have H:=HA.out;clear HA;simp only[Qaw.l0]at H
          by_cases ah:s<(l0.length:Int)
          ·rw [if_pos ah]at H;have aV:=decide_eq_true ah;clear ah
           by_cases aD:Z=true
           ·subst aD;rw[if_pos rfl]at H;have H':=QA H;clear H
            try go_wp2
            have n_:=qn2 (Qeb a.out) (Qfj HB.out);clear a HB;obtain⟨a,HB⟩:=n_;refine Qfz (n:=23) (S:=fun w'=>True) (ds:=[]) (bm 23 0) qq_2 rfl rfl trivial (fun l=>?_);refine Qho Qaw.tab11 Qaw.bits11 (fun HT_ HW_=>?_);generalize wr.drew=w48 at a HB l ⊢;refine pz_ (i:=0) (N:=some 56) (bm 23 1) (Qhg HT_.out qq_2) ?_;refine pz_ (i:=1) (N:=some 57) (bm 23 3) (Qhg HT_.out qq_2) ?_;refine Qgb (i:=2) (N:=some 58) (v:=undef) (a':=?_) (bm 23 7) rfl rfl (Qhg HT_.out qq_2) (fun _ _ _ h=>h) (Or.inr ⟨by rfl,rfl⟩) ?_ ?_;rotate_left
            ·exact qq_3
            refine Qgb (i:=3) (N:=some 59) (v:=undef) (a':=?_) (bm 23 15) rfl rfl (Qhg HT_.out qq_2) (fun _ _ _ h=>h) (Or.inr ⟨by rfl,rfl⟩) ?_ ?_;rotate_left
            ·exact qq_3
            refine Qgb (i:=4) (N:=some 60) (v:=undef) (a':=?_) (bm 23 31) rfl rfl (Qhg HT_.out qq_2) (fun _ _ _ h=>h) (Or.inr ⟨by rfl,rfl⟩) ?_ ?_;rotate_left
            ·exact qq_3
            refine Qgb (i:=5) (N:=some 61) (v:=undef) (a':=?_) (bm 23 63) rfl rfl (Qhg HT_.out qq_2) (fun _ _ _ h=>h) (Or.inr ⟨by rfl,rfl⟩) ?_ ?_;rotate_left
            ·exact qq_3
            refine Qgb (i:=6) (N:=some 62) (v:=undef) (a':=?_) (bm 23 127) rfl rfl (Qhg HT_.out qq_2) (fun _ _ _ h=>h) (Or.inr ⟨by rfl,rfl⟩) ?_ ?_;rotate_left
            ·exact qq_3
            refine Qgb (i:=7) (N:=some 63) (v:=undef) (a':=?_) (bm 23 255) rfl rfl (Qhg HT_.out qq_2) (fun _ _ _ h=>h) (Or.inr ⟨by rfl,rfl⟩) ?_ ?_;rotate_left
            ·exact qq_3
            refine Qgb (i:=8) (N:=some 64) (v:=undef) (a':=?_) (bm 23 511) rfl rfl (Qhg HT_.out qq_2) (fun _ _ _ h=>h) (Or.inr ⟨by rfl,rfl⟩) ?_ ?_;rotate_left
            ·exact qq_3
            refine Qgb (i:=9) (N:=some 65) (v:=undef) (a':=?_) (bm 23 1023) rfl rfl (Qhg HT_.out qq_2) (fun _ _ _ h=>h) (Or.inr ⟨by rfl,rfl⟩) ?_ ?_;rotate_left
            ·exact qq_3
            refine Qgb (i:=10) (N:=some 66) (v:=undef) (a':=?_) (bm 23 2047) rfl rfl (Qhg HT_.out qq_2) (fun _ _ _ h=>h) (Or.inr ⟨by rfl,rfl⟩) ?_ ?_;rotate_left
            ·exact qq_3
            refine Qgb (i:=11) (N:=some 67) (v:=undef) (a':=?_) (bm 23 4095) rfl rfl (Qhg HT_.out qq_2) (fun _ _ _ h=>h) (Or.inr ⟨by rfl,rfl⟩) ?_ ?_;rotate_left
            ·exact qq_3
            refine Qgb (i:=12) (N:=some 68) (v:=undef) (a':=?_) (bm 23 8191) rfl rfl (Qhg HT_.out qq_2) (fun _ _ _ h=>h) (Or.inr ⟨by rfl,rfl⟩) ?_ ?_;rotate_left
            ·exact qq_3
            refine Qgb (i:=13) (N:=some 69) (v:=undef) (a':=?_) (bm 23 16383) rfl rfl (Qhg HT_.out qq_2) (fun _ _ _ h=>h) (Or.inr ⟨by rfl,rfl⟩) ?_ ?_;rotate_left
            ·exact qq_3
            refine Qgb (i:=14) (N:=some 70) (v:=undef) (a':=?_) (bm 23 32767) rfl rfl (Qhg HT_.out qq_2) (fun _ _ _ h=>h) (Or.inr ⟨by rfl,rfl⟩) ?_ ?_;rotate_left
            ·exact qq_3
            refine Qgb (i:=15) (N:=some 71) (v:=undef) (a':=?_) (bm 23 65535) rfl rfl (Qhg HT_.out qq_2) (fun _ _ _ h=>h) (Or.inr ⟨by rfl,rfl⟩) ?_ ?_;rotate_left
            ·exact qq_3
            refine Qgb (i:=16) (N:=some 72) (v:=undef) (a':=?_) (bm 23 131071) rfl rfl (Qhg HT_.out qq_2) (fun _ _ _ h=>h) (Or.inr ⟨by rfl,rfl⟩) ?_ ?_;rotate_left
            ·exact qq_3
            refine Qgb (i:=17) (N:=some 73) (v:=undef) (a':=?_) (bm 23 262143) rfl rfl (Qhg HT_.out qq_2) (fun _ _ _ h=>h) (Or.inr ⟨by rfl,rfl⟩) ?_ ?_;rotate_left
            ·exact qq_3
            refine Qgb (i:=18) (N:=some 74) (v:=undef) (a':=?_) (bm 23 524287) rfl rfl (Qhg HT_.out qq_2) (fun _ _ _ h=>h) (Or.inr ⟨by rfl,rfl⟩) ?_ ?_;rotate_left
            ·exact qq_3
            refine Qgb (i:=19) (N:=some 75) (v:=undef) (a':=?_) (bm 23 1048575) rfl rfl (Qhg HT_.out qq_2) (fun _ _ _ h=>h) (Or.inr ⟨by rfl,rfl⟩) ?_ ?_;rotate_left
            ·exact qq_3
            refine Qgb (i:=20) (N:=some 76) (v:=undef) (a':=?_) (bm 23 2097151) rfl rfl (Qhg HT_.out qq_2) (fun _ _ _ h=>h) (Or.inr ⟨by rfl,rfl⟩) ?_ ?_;rotate_left
            ·exact qq_3
            refine pz_ (i:=21) (N:=some 77) (bm 23 4194303) (Qhg HT_.out qq_2) ?_;refine pz_ (i:=22) (N:=some 11) (bm 23 8388607) (Qhg HT_.out qq_2) ?_;refine Qgd (Qhj HT_.out qq_2) ?_
            try go_wp2
            go_roundg k3
            case measure=>have:=HJ4.out;have:=HJ18.out;have:=HK3.out;omega
            case rel=>exact⟨(true),(wrap64 (s+1)),qq_4,qq_4,H',⟨by have:=HJ4.out;have:=HJ18.out;have:=HK3.out;omega⟩,⟨by(with_reducible repeat(first|apply Qec|apply Qeb|apply Qea));exact a.out⟩,⟨qq_b⟩⟩
           ·replace aD:=Bool.eq_false_iff.mpr aD;subst aD;rw[if_neg (show ¬(false=true)by decide)]at H
            by_cases ai:s≥a2
            ·rw[if_pos ai]at H;have aW:decide (a2≤s)=true:=decide_eq_true ai;clear ai
             by_cases aj:s<a3
             ·rw[if_pos aj]at H;have aX:=decide_eq_true aj;clear aj;replace H:=Option.bind_eq_some_iff.mp H;obtain⟨ar,aM,H⟩:=H;have bp:=QA aM;clear aM;replace H:=Option.bind_eq_some_iff.mp H;obtain⟨aN,aP,H⟩:=H;have bq:=QA aP;clear aP;have H':=QA H;clear H
              try go_wp2
              have n_:=qn2 (Qeb a.out) (Qfj HB.out);clear a HB;obtain⟨a,HB⟩:=n_;refine Qfz (n:=23) (S:=fun w'=>w'.cell? ⟨m,0,none⟩=some (.slice p d.length q)∧w'.cell? ⟨m,1,none⟩=some (.int .i64 j)) (ds:=[]) (bm 23 0) qq_2 rfl rfl ⟨(Qdo a.out 0).trans rfl,(Qdo a.out 1).trans rfl⟩ (fun l=>?_);refine Qho Qaw.tab11 Qaw.bits11 (fun HT_ HW_=>?_);generalize wr.drew=w53 at a HB l ⊢;refine pz_ (i:=0) (N:=some 56) (bm 23 1) (Qhg HT_.out qq_2) ?_;refine pz_ (i:=1) (N:=some 57) (bm 23 3) (Qhg HT_.out qq_2) ?_;refine pz_ (i:=2) (N:=some 58) (bm 23 7) (Qhg HT_.out qq_2) ?_;refine pz_ (i:=3) (N:=some 59) (bm 23 15) (Qhg HT_.out qq_2) ?_;refine pz_ (i:=4) (N:=some 60) (bm 23 31) (Qhg HT_.out qq_2) ?_;refine pz_ (i:=5) (N:=some 61) (bm 23 63) (Qhg HT_.out qq_2) ?_;refine pz_ (i:=6) (N:=some 62) (bm 23 127) (Qhg HT_.out qq_2) ?_;refine pz_ (i:=7) (N:=some 63) (bm 23 255) (Qhg HT_.out qq_2) ?_;refine pz_ (i:=8) (N:=some 64) (bm 23 511) (Qhg HT_.out qq_2) ?_;refine pz_ (i:=9) (N:=some 65) (bm 23 1023) (Qhg HT_.out qq_2) ?_;refine pz_ (i:=10) (N:=some 66) (bm 23 2047) (Qhg HT_.out qq_2) ?_;refine pz_ (i:=11) (N:=some 67) (bm 23 4095) (Qhg HT_.out qq_2) ?_;refine pz_ (i:=14) (N:=some 70) (bm 23 20479) (Qhg HT_.out qq_2) ?_;refine pz_ (i:=16) (N:=some 72) (bm 23 86015) (Qhg HT_.out qq_2) ?_;refine pz_ (i:=17) (N:=some 73) (bm 23 217087) (Qhg HT_.out qq_2) ?_;refine pz_ (i:=18) (N:=some 74) (bm 23 479231) (Qhg HT_.out qq_2) ?_;refine tz_ (i:=12) (N:=some 68) (bm 23 483327) (Qhn HT_.out HW_.out qq_2) l ?_;refine tz_ (i:=15) (N:=some 71) (bm 23 516095) (Qhn HT_.out HW_.out qq_2) l ?_;refine one_ (i:=13) (N:=some 69) (bm 23 524287) rfl rfl (Qhh HT_.out qq_2) (by decide) (fun K hK=>?_);refine Qgh Tryz.func41 qq_2 rfl #[.slice p d.length q] (by rfl) rfl rfl qq_0 ?_;with_reducible refine(Qay.calls k3 _ _ d ar _ ?side1 ?side2 bp.out).mono ?_
              (case side1=>repeat(first|exact(Kd.C_below J.out HB.out) |(with_reducible refine Kd.C_alloc ?_ _) |(with_reducible refine Kd.C_drewN ?_ _) |(with_reducible refine Kd.C_drew ?_)))
              (case side2=>exact L.out)
              rintro e bK ⟨bx,rfl,D,hb⟩;refine⟨_,rfl,?_⟩;have n_:=qn3 (Kd.R_lower D (Qfc qq_b)) (Qed (g:=m) (o:=.cells #[.slice p d.length q,.int .i64 j] 81 (0,0)) qq_1 hb) (Qfd qq_b hb);clear a HB;obtain⟨G,a,HB⟩:=n_
              (try clear hb)
              (try clear hb2)
              (try clear hk)
              (try clear hi)
              (try clear D)
              obtain⟨Ao55,co55,eo55⟩:=Kd.R_slice G.out
              (first|subst eo55 |(injection eo55 with f1_ f2_ f3_;have f4_:=f1_.symm;have f5_:=f3_.symm;clear f1_ f2_ f3_;subst f4_;subst f5_))
              refine hK.out _ _ ⟨(Qdo a.out 0).trans rfl,(Qdo a.out 1).trans rfl⟩ (fun l=>?_);clear hK K;refine nzp_ 69 ?_;refine one_ (i:=19) (N:=some 75) (bm 23 1048575) rfl rfl (Qhh HT_.out qq_2) (by decide) (fun K hK=>?_);refine Qgh Tryz.func42 qq_2 rfl #[.slice Ao55 ar.length co55,.int .i64 j,.int .i64 (l0.length:Int),.int .i64 s] (by rfl) rfl rfl qq_0 ?_;with_reducible refine(Qbn.calls k3 _ _ ar j (l0.length:Int) s aN _ ?side1 ?side2 bq.out).mono ?_
              (case side1=>repeat(first|exact(Kd.R_reads' G.out).2.2 |(with_reducible refine Kd.C_alloc ?_ _) |(with_reducible refine Kd.C_drewN ?_ _) |(with_reducible refine Kd.C_drew ?_)))
              (case side2=>exact(Kd.R_reads' G.out).2.1)
              rintro e bL ⟨rfl,hb⟩;refine⟨_,rfl,?_⟩;have n_:=qn3 (Kd.R_below (by(with_reducible repeat(first|apply Kd.R_alloc|apply Kd.R_drewN|apply Kd.R_drew));exact G.out) hb) (Qed (g:=m) (o:=.cells #[.slice p d.length q,.int .i64 j] 81 (0,0)) qq_1 hb) (Qfd qq_b hb);clear G a HB;obtain⟨G,a,HB⟩:=n_
              (try clear hb)
              (try clear hb2)
              (try clear hk)
              (try clear hi)
              refine hK.out _ _ ⟨(Qdo a.out 0).trans rfl,(Qdo a.out 1).trans rfl⟩ (fun l=>?_);clear hK K;refine nzp_ 75 ?_;refine pz_ (i:=20) (N:=some 76) (bm 23 2097151) (Qhg HT_.out qq_2) ?_;refine pz_ (i:=21) (N:=some 77) (bm 23 4194303) (Qhg HT_.out qq_2) ?_;refine pz_ (i:=22) (N:=some 11) (bm 23 8388607) (Qhg HT_.out qq_2) ?_;refine Qgd (Qhj HT_.out qq_2) ?_
              try go_wp2
              go_roundg k3
              case measure=>have:=HJ4.out;have:=HJ18.out;have:=HK3.out;omega
              case rel=>exact⟨(aN),(wrap64 (s+1)),qq_4,qq_4,H',⟨by have:=HJ4.out;have:=HJ18.out;have:=HK3.out;omega⟩,⟨by(with_reducible repeat(first|apply Qec|apply Qeb|apply Qea));exact a.out⟩,⟨qq_b⟩⟩
             ·rw[if_neg aj]at H;have aX:=decide_eq_false aj;clear aj;have H':=QA H;clear H
              try go_wp2
              have n_:=qn2 (Qeb a.out) (Qfj HB.out);clear a HB;obtain⟨a,HB⟩:=n_;refine Qfz (n:=23) (S:=fun w'=>True) (ds:=[]) (bm 23 0) qq_2 rfl rfl trivial (fun l=>?_);refine Qho Qaw.tab11 Qaw.bits11 (fun HT_ HW_=>?_);generalize wr.drew=w57 at a HB l ⊢;refine pz_ (i:=0) (N:=some 56) (bm 23 1) (Qhg HT_.out qq_2) ?_;refine pz_ (i:=1) (N:=some 57) (bm 23 3) (Qhg HT_.out qq_2) ?_;refine pz_ (i:=2) (N:=some 58) (bm 23 7) (Qhg HT_.out qq_2) ?_;refine pz_ (i:=3) (N:=some 59) (bm 23 15) (Qhg HT_.out qq_2) ?_;refine pz_ (i:=4) (N:=some 60) (bm 23 31) (Qhg HT_.out qq_2) ?_;refine pz_ (i:=5) (N:=some 61) (bm 23 63) (Qhg HT_.out qq_2) ?_;refine pz_ (i:=6) (N:=some 62) (bm 23 127) (Qhg HT_.out qq_2) ?_;refine pz_ (i:=7) (N:=some 63) (bm 23 255) (Qhg HT_.out qq_2) ?_;refine pz_ (i:=8) (N:=some 64) (bm 23 511) (Qhg HT_.out qq_2) ?_;refine pz_ (i:=9) (N:=some 65) (bm 23 1023) (Qhg HT_.out qq_2) ?_;refine pz_ (i:=10) (N:=some 66) (bm 23 2047) (Qhg HT_.out qq_2) ?_;refine Qgb (i:=11) (N:=some 67) (v:=undef) (a':=?_) (bm 23 4095) rfl rfl (Qhg HT_.out qq_2) (fun _ _ _ h=>h) (Or.inr ⟨by rfl,rfl⟩) ?_ ?_;rotate_left
              ·exact qq_3
              refine Qgb (i:=12) (N:=some 68) (v:=undef) (a':=?_) (bm 23 8191) rfl rfl (Qhg HT_.out qq_2) (fun _ _ _ h=>h) (Or.inr ⟨by rfl,rfl⟩) ?_ ?_;rotate_left
              ·exact qq_3
              refine Qgb (i:=13) (N:=some 69) (v:=undef) (a':=?_) (bm 23 16383) rfl rfl (Qhg HT_.out qq_2) (fun _ _ _ h=>h) (Or.inr ⟨by rfl,rfl⟩) ?_ ?_;rotate_left
              ·exact qq_3
              refine Qgb (i:=14) (N:=some 70) (v:=undef) (a':=?_) (bm 23 32767) rfl rfl (Qhg HT_.out qq_2) (fun _ _ _ h=>h) (Or.inr ⟨by rfl,rfl⟩) ?_ ?_;rotate_left
              ·exact qq_3
              refine Qgb (i:=15) (N:=some 71) (v:=undef) (a':=?_) (bm 23 65535) rfl rfl (Qhg HT_.out qq_2) (fun _ _ _ h=>h) (Or.inr ⟨by rfl,rfl⟩) ?_ ?_;rotate_left
              ·exact qq_3
              refine Qgb (i:=16) (N:=some 72) (v:=undef) (a':=?_) (bm 23 131071) rfl rfl (Qhg HT_.out qq_2) (fun _ _ _ h=>h) (Or.inr ⟨by rfl,rfl⟩) ?_ ?_;rotate_left
              ·exact qq_3
              refine Qgb (i:=17) (N:=some 73) (v:=undef) (a':=?_) (bm 23 262143) rfl rfl (Qhg HT_.out qq_2) (fun _ _ _ h=>h) (Or.inr ⟨by rfl,rfl⟩) ?_ ?_;rotate_left
              ·exact qq_3
              refine Qgb (i:=18) (N:=some 74) (v:=undef) (a':=?_) (bm 23 524287) rfl rfl (Qhg HT_.out qq_2) (fun _ _ _ h=>h) (Or.inr ⟨by rfl,rfl⟩) ?_ ?_;rotate_left
              ·exact qq_3
              refine Qgb (i:=19) (N:=some 75) (v:=undef) (a':=?_) (bm 23 1048575) rfl rfl (Qhg HT_.out qq_2) (fun _ _ _ h=>h) (Or.inr ⟨by rfl,rfl⟩) ?_ ?_;rotate_left
              ·exact qq_3
              refine pz_ (i:=20) (N:=some 76) (bm 23 2097151) (Qhg HT_.out qq_2) ?_;refine pz_ (i:=21) (N:=some 77) (bm 23 4194303) (Qhg HT_.out qq_2) ?_;refine pz_ (i:=22) (N:=some 11) (bm 23 8388607) (Qhg HT_.out qq_2) ?_;refine Qgd (Qhj HT_.out qq_2) ?_
              try go_wp2
              go_roundg k3
              case measure=>have:=HJ4.out;have:=HJ18.out;have:=HK3.out;omega
              case rel=>exact⟨(false),(wrap64 (s+1)),qq_4,qq_4,H',⟨by have:=HJ4.out;have:=HJ18.out;have:=HK3.out;omega⟩,⟨by(with_reducible repeat(first|apply Qec|apply Qeb|apply Qea));exact a.out⟩,⟨qq_b⟩⟩
            ·rw[if_neg ai]at H;have aW:decide (a2≤s)=false:=decide_eq_false ai;clear ai;have H':=QA H;clear H
             try go_wp2
             have n_:=qn2 (Qeb a.out) (Qfj HB.out);clear a HB;obtain⟨a,HB⟩:=n_;refine Qfz (n:=23) (S:=fun w'=>True) (ds:=[]) (bm 23 0) qq_2 rfl rfl trivial (fun l=>?_);refine Qho Qaw.tab11 Qaw.bits11 (fun HT_ HW_=>?_);generalize wr.drew=w58 at a HB l ⊢;refine pz_ (i:=0) (N:=some 56) (bm 23 1) (Qhg HT_.out qq_2) ?_;refine pz_ (i:=1) (N:=some 57) (bm 23 3) (Qhg HT_.out qq_2) ?_;refine pz_ (i:=2) (N:=some 58) (bm 23 7) (Qhg HT_.out qq_2) ?_;refine pz_ (i:=3) (N:=some 59) (bm 23 15) (Qhg HT_.out qq_2) ?_;refine pz_ (i:=4) (N:=some 60) (bm 23 31) (Qhg HT_.out qq_2) ?_;refine pz_ (i:=5) (N:=some 61) (bm 23 63) (Qhg HT_.out qq_2) ?_;refine Qgb (i:=6) (N:=some 62) (v:=undef) (a':=?_) (bm 23 127) rfl rfl (Qhg HT_.out qq_2) (fun _ _ _ h=>h) (Or.inr ⟨by rfl,rfl⟩) ?_ ?_;rotate_left
             ·exact qq_3
             refine Qgb (i:=7) (N:=some 63) (v:=undef) (a':=?_) (bm 23 255) rfl rfl (Qhg HT_.out qq_2) (fun _ _ _ h=>h) (Or.inr ⟨by rfl,rfl⟩) ?_ ?_;rotate_left
             ·exact qq_3
             refine Qgb (i:=8) (N:=some 64) (v:=undef) (a':=?_) (bm 23 511) rfl rfl (Qhg HT_.out qq_2) (fun _ _ _ h=>h) (Or.inr ⟨by rfl,rfl⟩) ?_ ?_;rotate_left
             ·exact qq_3
             refine pz_ (i:=9) (N:=some 65) (bm 23 1023) (Qhg HT_.out qq_2) ?_;refine pz_ (i:=10) (N:=some 66) (bm 23 2047) (Qhg HT_.out qq_2) ?_;refine Qgb (i:=11) (N:=some 67) (v:=undef) (a':=?_) (bm 23 4095) rfl rfl (Qhg HT_.out qq_2) (fun _ _ _ h=>h) (Or.inr ⟨by rfl,rfl⟩) ?_ ?_;rotate_left
             ·exact qq_3
             refine Qgb (i:=12) (N:=some 68) (v:=undef) (a':=?_) (bm 23 8191) rfl rfl (Qhg HT_.out qq_2) (fun _ _ _ h=>h) (Or.inr ⟨by rfl,rfl⟩) ?_ ?_;rotate_left
             ·exact qq_3
             refine Qgb (i:=13) (N:=some 69) (v:=undef) (a':=?_) (bm 23 16383) rfl rfl (Qhg HT_.out qq_2) (fun _ _ _ h=>h) (Or.inr ⟨by rfl,rfl⟩) ?_ ?_;rotate_left
             ·exact qq_3
             refine Qgb (i:=14) (N:=some 70) (v:=undef) (a':=?_) (bm 23 32767) rfl rfl (Qhg HT_.out qq_2) (fun _ _ _ h=>h) (Or.inr ⟨by rfl,rfl⟩) ?_ ?_;rotate_left
             ·exact qq_3
             refine Qgb (i:=15) (N:=some 71) (v:=undef) (a':=?_) (bm 23 65535) rfl rfl (Qhg HT_.out qq_2) (fun _ _ _ h=>h) (Or.inr ⟨by rfl,rfl⟩) ?_ ?_;rotate_left
             ·exact qq_3
             refine Qgb (i:=16) (N:=some 72) (v:=undef) (a':=?_) (bm 23 131071) rfl rfl (Qhg HT_.out qq_2) (fun _ _ _ h=>h) (Or.inr ⟨by rfl,rfl⟩) ?_ ?_;rotate_left
             ·exact qq_3
             refine Qgb (i:=17) (N:=some 73) (v:=undef) (a':=?_) (bm 23 262143) rfl rfl (Qhg HT_.out qq_2) (fun _ _ _ h=>h) (Or.inr ⟨by rfl,rfl⟩) ?_ ?_;rotate_left
             ·exact qq_3
             refine Qgb (i:=18) (N:=some 74) (v:=undef) (a':=?_) (bm 23 524287) rfl rfl (Qhg HT_.out qq_2) (fun _ _ _ h=>h) (Or.inr ⟨by rfl,rfl⟩) ?_ ?_;rotate_left
             ·exact qq_3
             refine Qgb (i:=19) (N:=some 75) (v:=undef) (a':=?_) (bm 23 1048575) rfl rfl (Qhg HT_.out qq_2) (fun _ _ _ h=>h) (Or.inr ⟨by rfl,rfl⟩) ?_ ?_;rotate_left
             ·exact qq_3
             refine pz_ (i:=20) (N:=some 76) (bm 23 2097151) (Qhg HT_.out qq_2) ?_;refine pz_ (i:=21) (N:=some 77) (bm 23 4194303) (Qhg HT_.out qq_2) ?_;refine pz_ (i:=22) (N:=some 11) (bm 23 8388607) (Qhg HT_.out qq_2) ?_;refine Qgd (Qhj HT_.out qq_2) ?_
             try go_wp2
             go_roundg k3
             case measure=>have:=HJ4.out;have:=HJ18.out;have:=HK3.out;omega
             case rel=>exact⟨(false),(wrap64 (s+1)),qq_4,qq_4,H',⟨by have:=HJ4.out;have:=HJ18.out;have:=HK3.out;omega⟩,⟨by(with_reducible repeat(first|apply Qec|apply Qeb|apply Qea));exact a.out⟩,⟨qq_b⟩⟩
          ·rw[if_neg ah]at H;have aV:=decide_eq_false ah;clear ah;replace H:=Option.bind_eq_some_iff.mp H;obtain⟨bf,aQ,H⟩:=H;have br:=QA aQ;clear aQ;obtain rfl:=Option.some.inj H;obtain⟨bg,bh⟩:=qc2 a.out;have bv:=Qdp a.out
           go_wp2_with (first |((with_reducible refine Qif (f:=43) rfl ?_);refine Qgi (some 84) rfl rfl Tryz.func43 qq_2 rfl #[.agg #[.slice p d.length q,.int .i64 j],.int .i64 (l0.length:Int),.int .i64 a2,.int .i64 a3] rfl qq_0 ?_;(with_reducible refine(Qas.calls _ _ d j (l0.length:Int) a2 a3 bf _ ?side1 ?side2 br.out).mono ?_);(case side1=>repeat(first|exact(Kd.C_below J.out HB.out) |(with_reducible refine Kd.C_alloc ?_ _) |(with_reducible refine Kd.C_drewN ?_ _) |(with_reducible refine Kd.C_drew ?_)));(case side2=>exact L.out);rintro e bM ⟨rfl,hb⟩;refine⟨_,rfl,?_⟩;have n_:=qn2 (Qed (g:=m) (o:=.cells #[.slice p d.length q,.int .i64 j] 81 (0,0)) qq_1 hb) (Qfd qq_b hb);clear a HB;obtain⟨a,HB⟩:=n_;(try clear hb);(try clear hb2);(try clear hk);(try clear hi)))
           go_ret
           exact⟨qq_5,qq_b⟩
    ·rw[if_neg ae]at H;exact absurd H (by simp)
end Go.Proofs.YteaocbonofboeaaGreat.C
end
