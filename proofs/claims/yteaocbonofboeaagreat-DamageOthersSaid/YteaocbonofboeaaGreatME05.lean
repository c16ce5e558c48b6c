/- Merged texts. -/
import Derived.Test.YteaocbonofboeaaGreatME02
import Derived.Test.YteaocbonofboeaaGreatME04
set_option linter.unusedVariables false
set_option linter.unusedSimpArgs false
set_option maxHeartbeats 8000000
set_option maxRecDepth 100000
section
namespace Go.Proofs.YteaocbonofboeaaGreat.C
open Go.RowKit Go.Proofs.YteaocbonofboeaaGreatW.PrintWords Go.Proofs.YteaocbonofboeaaGreatW.PrintLast Go.Proofs.YteaocbonofboeaaGreatW.PrintMore
attribute [local go_sem] Qie Qif Qig Qih Qii Qij Qik Qil
def Qcn.f(k:Nat)(a0_0:Int)(a0_1:Int)(a1_0:Int)(a1_1:Int):Option (Int):=(Qah.f a0_0 a1_0).bind fun t276=>((Qag.f a0_1 a1_1).bind fun t277=>((Qai.f k (([t276,t277]:List Int))).bind fun t281=>(some t281)))
def Qcn.T1:Bool × List (List Nat × List Nat):=(true,[([],[]),([0],[0]),([],[]),([2],[2]),([1,3],[1,3]),([],[]),([5],[5]),([],[]),([7],[7]),([6,8,4],[6,8]),([4,9],[4,9]),([10,9],[10]),([11,11,0,1,2,3,4,5,6,7,8,9,10,11],[11])])
def Qcn.B1:List Nat:=[0,1,0,4,15,0,32,0,128,511,1023,2047,4095]
theorem Qcn.tab1:rtab .any (Qhw Tryz.f116 1)=Qcn.T1:=by kernel_rfl
theorem Qcn.bits1:Qhq Qcn.T1.2 Qcn.B1=true:=by kernel_rfl
theorem Qcn.calls(k:Nat)(j:Int)(l:Int)(p:Int)(q:Int)(r:Int)(w:World)(h:Qcn.f k j l p q=some r) :
  Calls Tryz.prog 116 #[.agg #[.int .u64 j,.int .u32 l],.agg #[.int .u64 p,.int .u32 q]] w fun e w'=>e=.returned (.int .i64 r)∧Below w.heap.size w w':=by
 have hu129:=Tryz.underlying129;have HB:=QA (Below.refl w.heap.size w);have H:((Qah.f j p).bind fun s=>((Qag.f l q).bind fun t=>((Qai.f k (([s,t]:List Int))).bind fun v=>(some v))))=some r:=h;clear h;replace H:=Option.bind_eq_some_iff.mp H;obtain⟨s,D,H⟩:=H;have A3:=QA D;clear D;replace H:=Option.bind_eq_some_iff.mp H;obtain⟨t,E,H⟩:=H;have A4:=QA E;clear E;obtain⟨z,u⟩:∃y_:List Int,y_=(([s,t]:List Int)):=⟨_,rfl⟩;replace H:((Qai.f k z).bind fun v=>(some v))=some r:=by first |(rw[u];with_reducible exact H) |(have B:=(Option.bind_some _ _).symm.trans H;rw[u];with_reducible exact B) |(have B:=(Option.bind_some _ _).symm.trans H;with_reducible exact B)|with_reducible exact H |(rw[u];exact H)|exact H
 have A:=QA u;clear u;replace H:=Option.bind_eq_some_iff.mp H;obtain⟨v,G,H⟩:=H;have A5:=QA G;clear G;obtain rfl:=Option.some.inj H
 go_enter Tryz.func116,Tryz.ntmps116
 try go_wp2_with (first |((with_reducible refine Qft (N:=2) rfl ?_);refine qq_e 2 #[.int .u64 j,.int .u32 l] 129 ?_;intro c hg w6 hbox hb;have n_:=qn4 (Qfi qq_b hb) (hbox) (qq_s hg:w.heap.size≤c) (qq_s hg:w.heap.size≤c);clear HB;obtain⟨HB,a,L,O⟩:=n_;clear hb hbox hg) |((with_reducible refine Qft (N:=3) rfl ?_);refine qq_e 3 #[.int .u64 p,.int .u32 q] 129 ?_;intro m hg w7 hbox hb;have n_:=qn7 (Qeg (g:=c) (o:=.cells #[.int .u64 j,.int .u32 l] 129 (0,0)) qq_0 hb) (Qfi qq_b hb) (hbox) (qq_s hg:w.heap.size≤m) (qq_s hg:w.heap.size≤m) ((by rw[hg];exact Nat.ne_of_lt (Qdq (g:=c) (o:=.cells #[.int .u64 j,.int .u32 l] 129 (0,0)) qq_0):c≠m)) ((by rw[hg];exact Nat.ne_of_gt (Qdq (g:=c) (o:=.cells #[.int .u64 j,.int .u32 l] 129 (0,0)) qq_0):m≠c));clear a HB;obtain⟨a,HB,b,P,T,I,J⟩:=n_;clear hb hbox hg))
 have n_:=qn3 (Qee a.out) (Qee b.out) (Qfo HB.out);clear a b HB;obtain⟨a,b,HB⟩:=n_;refine Qgf (n:=13) (S:=fun w'=>w'.cell? ⟨c,0,none⟩=some (.int .u64 j)∧w'.cell? ⟨c,1,none⟩=some (.int .u32 l)∧w'.cell? ⟨m,0,none⟩=some (.int .u64 p)∧w'.cell? ⟨m,1,none⟩=some (.int .u32 q)) (ds:=[]) (bm 13 0) qq_4 rfl rfl ⟨(Qdr a.out 0).trans rfl,(Qdr a.out 1).trans rfl,(Qdr b.out 0).trans rfl,(Qdr b.out 1).trans rfl⟩ (fun d=>?_);refine Qhu Qcn.tab1 Qcn.bits1 (fun HT_ HW_=>?_);generalize w7.drew=w8 at a b HB d ⊢;refine pz_ (i:=0) (N:=some 5) (bm 13 1) (Qhm HT_.out qq_4) ?_;refine pz_ (i:=2) (N:=some 7) (bm 13 5) (Qhm HT_.out qq_4) ?_;refine pz_ (i:=5) (N:=some 10) (bm 13 37) (Qhm HT_.out qq_4) ?_;refine pz_ (i:=7) (N:=some 12) (bm 13 165) (Qhm HT_.out qq_4) ?_;refine tz_ (i:=1) (N:=some 6) (bm 13 167) (Qht HT_.out HW_.out qq_4) d ?_;refine tz_ (i:=3) (N:=some 8) (bm 13 175) (Qht HT_.out HW_.out qq_4) d ?_;refine tz_ (i:=6) (N:=some 11) (bm 13 239) (Qht HT_.out HW_.out qq_4) d ?_;refine tz_ (i:=8) (N:=some 13) (bm 13 495) (Qht HT_.out HW_.out qq_4) d ?_;refine one_ (i:=4) (N:=some 9) (bm 13 511) rfl rfl (Qhn HT_.out qq_4) (by decide) (fun K hK=>?_);refine Qgn Tryz.func166 qq_4 rfl #[.int .u64 j,.int .u64 p] (by rfl) rfl rfl qq_1 ?_;with_reducible refine(Qah.calls j p s _ A3.out).mono ?_
 rintro e w' ⟨rfl,⟨nd,rfl⟩⟩;refine⟨_,rfl,?_⟩;refine hK.out _ _ ⟨(Qdr a.out 0).trans rfl,(Qdr a.out 1).trans rfl,(Qdr b.out 0).trans rfl,(Qdr b.out 1).trans rfl⟩ (fun d=>?_);clear hK K;refine nzp_ 9 ?_;refine one_ (i:=9) (N:=some 14) (bm 13 1023) rfl rfl (Qhn HT_.out qq_4) (by decide) (fun K hK=>?_);refine Qgn Tryz.func167 qq_4 rfl #[.int .u32 l,.int .u32 q] (by rfl) rfl rfl qq_1 ?_;with_reducible refine(Qag.calls l q t _ A4.out).mono ?_
 rintro e w' ⟨rfl,⟨nd,rfl⟩⟩;refine⟨_,rfl,?_⟩;refine hK.out _ _ ⟨(Qdr a.out 0).trans rfl,(Qdr a.out 1).trans rfl,(Qdr b.out 0).trans rfl,(Qdr b.out 1).trans rfl⟩ (fun d=>?_);clear hK K;refine nzp_ 14 ?_;refine one_ (i:=10) (N:=some 15) (bm 13 2047) rfl rfl (Qhn HT_.out qq_4) (by decide) (fun K hK=>?_);refine Kd.R_lit_step (Kd.int .i64) _ 3 ?hg (N:=15) ?hd (xs:=([s,t]:List Int)) (inner:=[.int .i64 s,.int .i64 t]) (ok:=fun _=>True) (okp:=fun _=>True) ?hr ?hp (fun _ hk=>hk) trivial (Below.refl _ _) (Nat.le_refl _) (by simp) ?_;(case hd=>rfl);(case hg=>rfl);(case hr=>exact qq_16);(case hp=>exact(Reps.one (show Kd.M (Kd.int .i64) _ _ _ s [.int .i64 s] from rfl) (Reps.one (show Kd.M (Kd.int .i64) _ _ _ t [.int .i64 t] from rfl) (Reps.none _ _))));intro U w9 x hb hg_ hnew_;clear hg_ hnew_
 (first|rw[← A.out]at x |(simp only[Int.reduceToNat]at x;rw[← A.out]at x))
 have n_:=qn4 (Kd.R_lower x (Qfh qq_b)) (Qeg (g:=c) (o:=.cells #[.int .u64 j,.int .u32 l] 129 (0,0)) qq_0 hb) (Qeg (g:=m) (o:=.cells #[.int .u64 p,.int .u32 q] 129 (0,0)) qq_0 hb) (Qfi qq_b hb);clear a b HB;obtain⟨y,a,b,HB⟩:=n_;clear hb x;obtain⟨Ao11,co11,eo11⟩:=Kd.R_slice y.out
 (first|subst eo11 |(injection eo11 with f1_ f2_ f3_;have f4_:=f1_.symm;have f5_:=f3_.symm;clear f1_ f2_ f3_;subst f4_;subst f5_))
 refine hK.out _ _ ⟨(Qdr a.out 0).trans rfl,(Qdr a.out 1).trans rfl,(Qdr b.out 0).trans rfl,(Qdr b.out 1).trans rfl⟩ (fun d=>?_);clear hK K;refine nzp_ 15 ?_;refine one_ (i:=11) (N:=some 16) (bm 13 4095) rfl rfl (Qhn HT_.out qq_4) (by decide) (fun K hK=>?_);refine Qgn Tryz.func165 qq_4 rfl #[.slice Ao11 z.length co11] (by rfl) rfl rfl qq_1 ?_;with_reducible refine(Qai.calls k _ _ z v _ ?side1 ?side2 A5.out).mono ?_
 (case side1=>repeat(first|exact(Kd.R_reads' y.out).2.2 |(with_reducible refine Kd.C_alloc ?_ _) |(with_reducible refine Kd.C_drewN ?_ _) |(with_reducible refine Kd.C_drew ?_)))
 (case side2=>exact(Kd.R_reads' y.out).2.1)
 rintro e w' ⟨rfl,⟨nd,rfl⟩⟩;refine⟨_,rfl,?_⟩;refine hK.out _ _ ⟨(Qdr a.out 0).trans rfl,(Qdr a.out 1).trans rfl,(Qdr b.out 0).trans rfl,(Qdr b.out 1).trans rfl⟩ (fun d=>?_);clear hK K;refine nzp_ 16 ?_;refine pz_ (i:=12) (N:=some 4) (bm 13 8191) (Qhm HT_.out qq_4) ?_;refine Qgj (Qhp HT_.out qq_4) ?_
 try go_wp2
 go_ret
 exact⟨qq_6,qq_b⟩
def Qco.l0:Nat→List (S129)→Int→Option (Bool)
 | 0,_,_=>none
 | k+1,x0,x3=>if x3<(x0.length:Int)then(if 0≤(wrap64 (x3-1))then(if(wrap64 (x3-1))<(x0.length:Int)then(if 0≤x3 then((Qcn.f k ((Qjg x0 (wrap64 (x3-1))).f0) ((Qjg x0 (wrap64 (x3-1))).f1) ((Qjg x0 x3).f0) ((Qjg x0 x3).f1)).bind fun t286=>(if t286≥0 then(some false)else(Qco.l0 k x0 (wrap64 (x3+1)))))else(none))else(none))else(none))else(some true)
def Qco.f(k:Nat)(l0:List (S129)):Option (Bool):=Qco.l0 k l0 1
def Qco.T4:Bool × List (List Nat × List Nat):=(true,[([],[]),([],[]),([1],[1]),([0,2],[0,2]),([3],[3]),([],[]),([],[]),([5,6],[5,6]),([7],[7]),([4,8],[4,8]),([9],[9])])
def Qco.B4:List Nat:=[0,0,2,7,15,0,0,96,224,511,1023]
theorem Qco.tab4:rtab .any (Qhw Tryz.f160 4)=Qco.T4:=by kernel_rfl
theorem Qco.bits4:Qhq Qco.T4.2 Qco.B4=true:=by kernel_rfl
theorem Qco.calls (k:Nat) (A0:Option Addr) (c0:Nat) (l0:List (S129)) (r:Bool) (w:World) (hr0:Kd.C k129 w A0 l0.length l0) (hc0:l0.length≤c0) (h:Qco.f k l0=some r) :
  Calls Tryz.prog 160 #[.slice A0 l0.length c0] w fun e w'=>e=.returned (.bool r)∧Below w.heap.size w w':=by
 have hu129:=Tryz.underlying129;have z:=QA hr0;have L:=QA hc0;clear hr0 hc0;have HB:=QA (Below.refl w.heap.size w);have H:(Qco.l0 k l0 1)=some r:=h;clear h;have H':=QA H;clear H
 go_enter Tryz.func160,Tryz.ntmps160
 go_wp2
 go_loopg [3] k (fun kq v3 w'=>∃(a:Int),v3=.int .i64 a∧Aside0 (Qco.l0 kq l0 a=some r)∧Aside0 (kq≤k)∧Aside0 (Below w.heap.size w w'))
 case atStart=>exact⟨(1),qq_5,H',⟨Nat.le_refl _⟩,⟨qq_b⟩⟩
 case round =>
  clear H';obtain⟨a,rfl,HA,HK1,HB⟩:=hrel
  cases gk with
  | zero=>exact absurd HA.out (by simp[Qco.l0])
  | succ k1 =>
   have H:=HA.out;clear HA;simp only[Qco.l0]at H
   by_cases c2:a<(l0.length:Int)
   ·rw [if_pos c2]at H;have B:=decide_eq_true c2;clear c2;obtain⟨b,u⟩:∃j_:Int,(wrap64 (a-1))=j_:=⟨_,rfl⟩;replace H:(if 0≤(b)then(if(b)<(l0.length:Int)then(if 0≤a then((Qcn.f k1 ((Qjg l0 (b)).f0) ((Qjg l0 (b)).f1) ((Qjg l0 a).f0) ((Qjg l0 a).f1)).bind fun o=>(if o≥0 then(some false)else(Qco.l0 k1 l0 (wrap64 (a+1)))))else(none))else(none))else(none))=some r:=by first |(rw[u]at H;exact H) |(simp only[u]at H ⊢;exact H)
    have E:(IntKind.i64.wrap (a-1))=b:=(Qgq _).trans u
    by_cases c4:0≤(b)
    ·rw [if_pos c4]at H;have G:=decide_eq_true c4;clear c4
     by_cases c5:(b)<(l0.length:Int)
     ·rw[if_pos c5]at H;have I:=decide_eq_true c5;clear c5
      by_cases c6:0≤a
      ·rw[if_pos c6]at H;have J:=decide_eq_true c6;clear c6;replace H:=Option.bind_eq_some_iff.mp H;obtain⟨o,A,H⟩:=H;have A7:=QA A;clear A
       by_cases c8:o≥0
       ·rw[if_pos c8]at H;have D:decide (0≤o)=true:=decide_eq_true c8;clear c8;obtain rfl:=Option.some.inj H
        try go_wp2
        have n_:=qn1 (Qfo HB.out);clear HB;have HB:=n_;clear n_;have p:0≤((b):Int):=of_decide_eq_true qq_2;have q:(b)<(l0.length:Int):=of_decide_eq_true qq_2;obtain⟨c,x,d,g⟩:=Qjh z.out (b) p q;have hw284_1:=g;have hw284_0:=d
        cases x
        replace d:=qq_h HB.out d;replace g:=qq_h HB.out g;replace p:=eq_true p;replace q:=eq_true q;have s:0≤(a:Int):=of_decide_eq_true qq_2;have t:a<(l0.length:Int):=of_decide_eq_true qq_2;obtain⟨v,y,j,l⟩:=Qjh z.out a s t;have hw285_1:=l;have hw285_0:=j;obtain rfl:c=v:=(by injection y);replace j:=qq_h HB.out j;replace l:=qq_h HB.out l;replace s:=eq_true s;replace t:=eq_true t;refine Qgf (n:=11) (S:=fun w'=>w'.cell? (c.add (((b)).toNat*2))=some (.int .u64 ((Qjg l0 (b)).f0))∧w'.cell? ⟨(c.add (((b)).toNat*2)).block,(c.add (((b)).toNat*2)).off+1,none⟩=some (.int .u32 ((Qjg l0 (b)).f1))∧w'.cell? (c.add ((a).toNat*2))=some (.int .u64 ((Qjg l0 a).f0))∧w'.cell? ⟨(c.add ((a).toNat*2)).block,(c.add ((a).toNat*2)).off+1,none⟩=some (.int .u32 ((Qjg l0 a).f1))) (ds:=[]) (bm 11 0) qq_4 rfl rfl ⟨((HB.out.cell (World.block_lt_of_cell? w _ hw284_0)).trans hw284_0),((HB.out.cell (World.block_lt_of_cell? w _ hw284_1)).trans hw284_1),((HB.out.cell (World.block_lt_of_cell? w _ hw285_0)).trans hw285_0),((HB.out.cell (World.block_lt_of_cell? w _ hw285_1)).trans hw285_1)⟩ (fun m=>?_);refine Qhu Qco.tab4 Qco.bits4 (fun HT_ HW_=>?_);generalize wr.drew=w9 at HB d g j l m ⊢;refine pz_ (i:=0) (N:=some 10) (bm 11 1) (Qhm HT_.out qq_4) ?_;refine pz_ (i:=1) (N:=some 11) (bm 11 3) (Qhm HT_.out qq_4) ?_;refine pz_ (i:=2) (N:=some 12) (bm 11 7) (Qhm HT_.out qq_4) ?_;refine pz_ (i:=3) (N:=some 13) (bm 11 15) (Qhm HT_.out qq_4) ?_;refine pz_ (i:=5) (N:=some 15) (bm 11 47) (Qhm HT_.out qq_4) ?_;refine pz_ (i:=6) (N:=some 16) (bm 11 111) (Qhm HT_.out qq_4) ?_;refine pz_ (i:=7) (N:=some 17) (bm 11 239) (Qhm HT_.out qq_4) ?_;refine tz_ (i:=4) (N:=some 14) (bm 11 255) (Qht HT_.out HW_.out qq_4) m ?_;refine tz_ (i:=8) (N:=some 18) (bm 11 511) (Qht HT_.out HW_.out qq_4) m ?_;refine one_ (i:=9) (N:=some 19) (bm 11 1023) rfl rfl (Qhn HT_.out qq_4) (by decide) (fun K hK=>?_);refine Qgn Tryz.func116 qq_4 rfl #[.agg #[.int .u64 ((Qjg l0 (b)).f0),.int .u32 ((Qjg l0 (b)).f1)],.agg #[.int .u64 ((Qjg l0 a).f0),.int .u32 ((Qjg l0 a).f1)]] (by rfl) rfl rfl (by(try simp only[List.map_toArray,List.map_cons,List.map_nil]);first|done |(simp only[u];rfl)|rfl |(simp only[List.length_drop,List.length_take];rfl)) ?_;with_reducible refine(Qcn.calls k1 ((Qjg l0 (b)).f0) ((Qjg l0 (b)).f1) ((Qjg l0 a).f0) ((Qjg l0 a).f1) o _ A7.out).mono ?_
        rintro e M ⟨rfl,hb⟩;refine⟨_,rfl,?_⟩;have n_:=qn1 (Qfi qq_b hb);clear HB;have HB:=n_;clear n_
        (try clear hb)
        (try clear hb2)
        (try clear hk)
        (try clear hi)
        refine hK.out _ _ ⟨((HB.out.cell (World.block_lt_of_cell? w _ hw284_0)).trans hw284_0),((HB.out.cell (World.block_lt_of_cell? w _ hw284_1)).trans hw284_1),((HB.out.cell (World.block_lt_of_cell? w _ hw285_0)).trans hw285_0),((HB.out.cell (World.block_lt_of_cell? w _ hw285_1)).trans hw285_1)⟩ (fun m=>?_);clear hK K;refine nzp_ 19 ?_;refine pz_ (i:=10) (N:=some 20) (bm 11 2047) (Qhm HT_.out qq_4) ?_;refine Qgj (Qhp HT_.out qq_4) ?_
        try go_wp2
        go_ret
        exact⟨by first|rfl |(simp[Qir,Qis]<;>rfl) |(simp only[← u];first|rfl |(simp[Qir,Qis]<;>rfl)) |(simp[*,Qir,Qis]<;>rfl),qq_b⟩
       ·rw[if_neg c8]at H;have D:decide (0≤o)=false:=decide_eq_false c8;clear c8;have H':=QA H;clear H
        try go_wp2
        have n_:=qn1 (Qfo HB.out);clear HB;have HB:=n_;clear n_;have p:0≤((b):Int):=of_decide_eq_true qq_2;have q:(b)<(l0.length:Int):=of_decide_eq_true qq_2;obtain⟨c,x,d,g⟩:=Qjh z.out (b) p q;have hw284_1:=g;have hw284_0:=d
        cases x
        replace d:=qq_h HB.out d;replace g:=qq_h HB.out g;replace p:=eq_true p;replace q:=eq_true q;have s:0≤(a:Int):=of_decide_eq_true qq_2;have t:a<(l0.length:Int):=of_decide_eq_true qq_2;obtain⟨v,y,j,l⟩:=Qjh z.out a s t;have hw285_1:=l;have hw285_0:=j;obtain rfl:c=v:=(by injection y);replace j:=qq_h HB.out j;replace l:=qq_h HB.out l;replace s:=eq_true s;replace t:=eq_true t;refine Qgf (n:=11) (S:=fun w'=>w'.cell? (c.add (((b)).toNat*2))=some (.int .u64 ((Qjg l0 (b)).f0))∧w'.cell? ⟨(c.add (((b)).toNat*2)).block,(c.add (((b)).toNat*2)).off+1,none⟩=some (.int .u32 ((Qjg l0 (b)).f1))∧w'.cell? (c.add ((a).toNat*2))=some (.int .u64 ((Qjg l0 a).f0))∧w'.cell? ⟨(c.add ((a).toNat*2)).block,(c.add ((a).toNat*2)).off+1,none⟩=some (.int .u32 ((Qjg l0 a).f1))) (ds:=[]) (bm 11 0) qq_4 rfl rfl ⟨((HB.out.cell (World.block_lt_of_cell? w _ hw284_0)).trans hw284_0),((HB.out.cell (World.block_lt_of_cell? w _ hw284_1)).trans hw284_1),((HB.out.cell (World.block_lt_of_cell? w _ hw285_0)).trans hw285_0),((HB.out.cell (World.block_lt_of_cell? w _ hw285_1)).trans hw285_1)⟩ (fun m=>?_);refine Qhu Qco.tab4 Qco.bits4 (fun HT_ HW_=>?_);generalize wr.drew=w11 at HB d g j l m ⊢;refine pz_ (i:=0) (N:=some 10) (bm 11 1) (Qhm HT_.out qq_4) ?_;refine pz_ (i:=1) (N:=some 11) (bm 11 3) (Qhm HT_.out qq_4) ?_;refine pz_ (i:=2) (N:=some 12) (bm 11 7) (Qhm HT_.out qq_4) ?_;refine pz_ (i:=3) (N:=some 13) (bm 11 15) (Qhm HT_.out qq_4) ?_;refine pz_ (i:=5) (N:=some 15) (bm 11 47) (Qhm HT_.out qq_4) ?_;refine pz_ (i:=6) (N:=some 16) (bm 11 111) (Qhm HT_.out qq_4) ?_;refine pz_ (i:=7) (N:=some 17) (bm 11 239) (Qhm HT_.out qq_4) ?_;refine tz_ (i:=4) (N:=some 14) (bm 11 255) (Qht HT_.out HW_.out qq_4) m ?_;refine tz_ (i:=8) (N:=some 18) (bm 11 511) (Qht HT_.out HW_.out qq_4) m ?_;refine one_ (i:=9) (N:=some 19) (bm 11 1023) rfl rfl (Qhn HT_.out qq_4) (by decide) (fun K hK=>?_);refine Qgn Tryz.func116 qq_4 rfl #[.agg #[.int .u64 ((Qjg l0 (b)).f0),.int .u32 ((Qjg l0 (b)).f1)],.agg #[.int .u64 ((Qjg l0 a).f0),.int .u32 ((Qjg l0 a).f1)]] (by rfl) rfl rfl (by(try simp only[List.map_toArray,List.map_cons,List.map_nil]);first|done |(simp only[u];rfl)|rfl |(simp only[List.length_drop,List.length_take];rfl)) ?_;with_reducible refine(Qcn.calls k1 ((Qjg l0 (b)).f0) ((Qjg l0 (b)).f1) ((Qjg l0 a).f0) ((Qjg l0 a).f1) o _ A7.out).mono ?_
        rintro e O ⟨rfl,hb⟩;refine⟨_,rfl,?_⟩;have n_:=qn1 (Qfi qq_b hb);clear HB;have HB:=n_;clear n_
        (try clear hb)
        (try clear hb2)
        (try clear hk)
        (try clear hi)
        refine hK.out _ _ ⟨((HB.out.cell (World.block_lt_of_cell? w _ hw284_0)).trans hw284_0),((HB.out.cell (World.block_lt_of_cell? w _ hw284_1)).trans hw284_1),((HB.out.cell (World.block_lt_of_cell? w _ hw285_0)).trans hw285_0),((HB.out.cell (World.block_lt_of_cell? w _ hw285_1)).trans hw285_1)⟩ (fun m=>?_);clear hK K;refine nzp_ 19 ?_;refine pz_ (i:=10) (N:=some 20) (bm 11 2047) (Qhm HT_.out qq_4) ?_;refine Qgj (Qhp HT_.out qq_4) ?_
        try go_wp2
        go_roundg k1
        case measure=>have:=HK1.out;omega
        case rel=>exact⟨(wrap64 (a+1)),qq_5,H',⟨by have:=HK1.out;omega⟩,⟨qq_b⟩⟩
      ·rw[if_neg c6]at H;exact absurd H (by simp)
     ·rw[if_neg c5]at H;exact absurd H (by simp)
    ·rw[if_neg c4]at H;exact absurd H (by simp)
   ·rw[if_neg c2]at H;have B:=decide_eq_false c2;clear c2;obtain rfl:=Option.some.inj H;go_wp2;go_ret
    exact⟨qq_6,qq_b⟩
theorem eqA129(d:Nat)(w:World)(x0 y0:Int)(x1 y1:Int) :
  (Op.equalIn (d+2) 129 (.agg #[.int .u64 x0,.int .u32 x1]) (.agg #[.int .u64 y0,.int .u32 y1])).run Tryz.prog w=.ok (x0 == y0 && (x1 == y1)) w:=by
 refine Qic Tryz.underlying129 qq_4 ?_;refine Qib (by rfl) (by go_simp;rfl) (by go_simp;rfl) (by go_simp) ?_;exact Qia (by rfl) (by go_simp;rfl) (by go_simp;rfl) (by go_simp)
def Qbd.f:Nat→Int→Option (ByteArray)
 | 0,_=>none
 | k+1,a0=>if a0<128 then(some (strOfNums (([(a0)%256]:List Int))))else((some (([(IntKind.u64.wrap (128+(Int.tmod a0 128)))%256]:List Int):List Int)).bind fun y151=>((Qbd.f k (IntKind.u64.wrap (Int.tdiv a0 128))).bind fun t154=>(if(strOfNums y151).size+t154.size≤9223372036854775807 then(some ((strOfNums y151)++t154))else(none))))
def Qbd.T3:Bool × List (List Nat × List Nat):=(true,[([],[]),([0],[0]),([1],[1]),([2],[2]),([3],[3]),([4],[4]),([],[]),([6],[6]),([7],[7]),([5,8],[5,8]),([9,8,0,1,2,3,4,5,6,7,8,9],[9])])
def Qbd.B3:List Nat:=[0,1,3,7,15,31,0,64,192,511,1023]
theorem Qbd.tab3:rtab .any (Qhw Tryz.f135 3)=Qbd.T3:=by kernel_rfl
theorem Qbd.bits3:Qhq Qbd.T3.2 Qbd.B3=true:=by kernel_rfl
theorem Qbd.calls(k:Nat):∀(a0:Int) (r:ByteArray) (w:World) (h:Qbd.f k a0=some r),
  Calls Tryz.prog 135 #[.int .u64 a0] w fun e w'=>e=.returned (.string r)∧Below w.heap.size w w':=by
 induction k using Nat.strongRecOn with
 | _ k ih =>
 intro a0 r w h
 cases k with
 | zero=>exact absurd h (by simp[Qbd.f])
 | succ k =>
 simp only[Qbd.f]at h;have HB:=QA (Below.refl w.heap.size w);have H:(if a0<128 then(some (strOfNums (([(a0)%256]:List Int))))else((some (([(IntKind.u64.wrap (128+(Int.tmod a0 128)))%256]:List Int):List Int)).bind fun d=>((Qbd.f k (IntKind.u64.wrap (Int.tdiv a0 128))).bind fun b=>(if(strOfNums d).size+b.size≤9223372036854775807 then(some ((strOfNums d)++b))else(none)))))=some r:=h;clear h
 by_cases c2:a0<128
 ·rw[if_pos c2]at H;have J:=decide_eq_true c2;clear c2;obtain⟨L,g⟩:∃y_:List Int,y_=(([(a0)%256]:List Int)):=⟨_,rfl⟩;replace H:(some (strOfNums L))=some r:=by first |(rw[g];with_reducible exact H) |(have p:=(Option.bind_some _ _).symm.trans H;rw[g];with_reducible exact p) |(have p:=(Option.bind_some _ _).symm.trans H;with_reducible exact p)|with_reducible exact H |(rw[g];exact H)|exact H
  have x:=QA g;clear g;obtain rfl:=Option.some.inj H
  go_enter Tryz.func135,Tryz.ntmps135
  go_wp2_with (first |((with_reducible refine Qft (N:=7) rfl ?_);refine Kd.R_lit (Kd.int .u8) _ 5 ?hg (N:=7) ?hd (xs:=([(a0)%256]:List Int)) (inner:=[.int .u8 ((a0)%256)]) (ok:=fun _=>True) (okp:=fun _=>True) ?hr ?hp (fun _ hk=>hk) trivial (Below.refl _ _) (Nat.le_refl _) (by simp) ?_;(case hd=>rfl);(case hg=>rfl);(case hr=>exact qq_16);(case hp=>exact(Reps.one (show Kd.M (Kd.int .u8) _ _ _ ((a0)%256) [.int .u8 ((a0)%256)] from rfl) (Reps.none _ _)));intro O w3 u hb hg_ hnew_;clear hg_ hnew_;(first|rw[← x.out]at u |(simp only[Int.reduceToNat]at u;rw[← x.out]at u));have n_:=qn2 (Kd.R_lower u (Qfh qq_b)) (Qfi qq_b hb);clear HB;obtain⟨y,HB⟩:=n_;clear hb u;have T:=Qdc (P:=Tryz.prog) Tryz.underlying40 Tryz.underlying5 Tryz.underlying9 (Kd.own_of_R y.out)))
  go_ret
  exact⟨qq_6,qq_b⟩
 ·rw [if_neg c2]at H;have J:=decide_eq_false c2;clear c2;obtain⟨d,l⟩:∃y_:List Int,y_=(([(IntKind.u64.wrap (128+(Int.tmod a0 128)))%256]:List Int)):=⟨_,rfl⟩;replace H:((Qbd.f k (IntKind.u64.wrap (Int.tdiv a0 128))).bind fun b=>(if(strOfNums d).size+b.size≤9223372036854775807 then(some ((strOfNums d)++b))else(none)))=some r:=by first |(rw[l];with_reducible exact H) |(have p:=(Option.bind_some _ _).symm.trans H;rw[l];with_reducible exact p) |(have p:=(Option.bind_some _ _).symm.trans H;with_reducible exact p)|with_reducible exact H |(rw[l];exact H)|exact H
  have o:=QA l;clear l;replace H:=Option.bind_eq_some_iff.mp H;obtain⟨b,A,H⟩:=H;have A6:=QA A;clear A
  by_cases c7:(strOfNums d).size+b.size≤9223372036854775807
  ·rw [if_pos c7]at H;have U:=eq_true c7;have W:=decide_eq_true c7
   try have X:(9223372036854775807<(strOfNums d).size+b.size)=False:=eq_false (Nat.not_lt.2 c7)
   obtain rfl:=Option.some.inj H
   go_enter Tryz.func135,Tryz.ntmps135
   try go_wp2
   have n_:=qn1 (Qfo HB.out);clear HB;have HB:=n_;clear n_;refine Qgf (n:=11) (S:=fun w'=>True) (ds:=[]) (bm 11 0) qq_4 rfl rfl trivial (fun a=>?_);refine Qhu Qbd.tab3 Qbd.bits3 (fun HT_ HW_=>?_);generalize w.drew=w8 at HB a ⊢;refine pz_ (i:=0) (N:=some 9) (bm 11 1) (Qhm HT_.out qq_4) ?_;refine pz_ (i:=1) (N:=some 10) (bm 11 3) (Qhm HT_.out qq_4) ?_;refine pz_ (i:=2) (N:=some 11) (bm 11 7) (Qhm HT_.out qq_4) ?_;refine pz_ (i:=3) (N:=some 12) (bm 11 15) (Qhm HT_.out qq_4) ?_;refine pz_ (i:=6) (N:=some 15) (bm 11 79) (Qhm HT_.out qq_4) ?_;refine pz_ (i:=7) (N:=some 16) (bm 11 207) (Qhm HT_.out qq_4) ?_;refine join_ (σ:=Value) 2 (bm 11 511) (fun s_=>[(13,s_),(14,.string (strOfNums d)),(17,.string b)]) (fun s_ w'=>(Kd.R (Kd.int .u8) 5 w' w.heap.size (fun _=>True) s_ d)∧(Below w.heap.size w w')) ?_ ?_;rotate_left
   ·intro hCont;refine two_ (i:=4) (j:=8) (Ni:=some 13) (Nj:=some 17) (bm 11 223) (bm 11 463) rfl rfl rfl rfl (Qho HT_.out qq_4) (by decide) (by decide) (fun K hK=>?_) (fun K hK=>?_)
    ·skip
     refine Kd.R_lit_step (Kd.int .u8) _ 5 ?hg (N:=13) ?hd (xs:=([(IntKind.u64.wrap (128+(Int.tmod a0 128)))%256]:List Int)) (inner:=[.int .u8 ((IntKind.u64.wrap (128+(Int.tmod a0 128)))%256)]) (ok:=fun _=>True) (okp:=fun _=>True) ?hr ?hp (fun _ hk=>hk) trivial (Below.refl _ _) (Nat.le_refl _) (by simp) ?_;(case hd=>rfl);(case hg=>rfl);(case hr=>exact qq_16);(case hp=>exact(Reps.one (show Kd.M (Kd.int .u8) _ _ _ ((IntKind.u64.wrap (128+(Int.tmod a0 128)))%256) [.int .u8 ((IntKind.u64.wrap (128+(Int.tmod a0 128)))%256)] from rfl) (Reps.none _ _)));intro m w9 q hb hg_ hnew_;clear hg_ hnew_
     (first|rw[← o.out]at q |(simp only[Int.reduceToNat]at q;rw[← o.out]at q))
     have n_:=qn2 (Kd.R_lower q (Qfh qq_b)) (Qfi qq_b hb);clear HB;obtain⟨c,HB⟩:=n_;clear hb q;refine hK.out _ _ trivial (fun a=>?_);clear hK K;refine nzp_ 13 ?_;refine two_ (i:=5) (j:=8) (Ni:=some 14) (Nj:=some 17) (bm 11 255) (bm 11 479) rfl rfl rfl rfl (Qho HT_.out qq_4) (by decide) (by decide) (fun K hK=>?_) (fun K hK=>?_)
     ·skip
      have z:=Qdc (P:=Tryz.prog) Tryz.underlying40 Tryz.underlying5 Tryz.underlying9 (Kd.own_of_R c.out);refine Qgp (w1:=?_) (v:=?_) (by rfl) rfl ?_ ?_;rotate_left 2
      ·go_simp
       constructor
       ·rfl
       ·rfl
      clear z;refine hK.out _ _ trivial (fun a=>?_);clear hK K;refine nzp_ 14 ?_;refine one_ (i:=8) (N:=some 17) (bm 11 511) rfl rfl (Qhn HT_.out qq_4) (by decide) (fun K hK=>?_);refine Qgn Tryz.func135 qq_4 rfl #[.int .u64 (IntKind.u64.wrap (Int.tdiv a0 128))] (by rfl) rfl rfl qq_1 ?_;with_reducible refine(ih k (by omega) (IntKind.u64.wrap (Int.tdiv a0 128)) b _ A6.out).mono ?_
      rintro e Y ⟨rfl,hb⟩;refine⟨_,rfl,?_⟩;have n_:=qn2 (Kd.R_below qq_8 hb) (Qfi qq_b hb);clear c HB;obtain⟨c,HB⟩:=n_
      (try clear hb)
      (try clear hb2)
      (try clear hk)
      (try clear hi)
      refine hK.out _ _ trivial (fun a=>?_);clear hK K;refine nzp_ 17 ?_;exact Qgl (by simp only[Qgk,Act.put,List.setIfInBounds_toArray,List.set_cons_zero,List.set_cons_succ]) (hCont (m) _ ⟨qq_8,qq_b⟩)
     ·skip
      refine Qgn Tryz.func135 qq_4 rfl #[.int .u64 (IntKind.u64.wrap (Int.tdiv a0 128))] (by rfl) rfl rfl qq_1 ?_;with_reducible refine(ih k (by omega) (IntKind.u64.wrap (Int.tdiv a0 128)) b _ A6.out).mono ?_
      rintro e Z ⟨rfl,hb⟩;refine⟨_,rfl,?_⟩;have n_:=qn2 (Kd.R_below qq_8 hb) (Qfi qq_b hb);clear c HB;obtain⟨c,HB⟩:=n_
      (try clear hb)
      (try clear hb2)
      (try clear hk)
      (try clear hi)
      refine hK.out _ _ trivial (fun a=>?_);clear hK K;refine nzp_ 17 ?_;refine one_ (i:=5) (N:=some 14) (bm 11 511) rfl rfl (Qhn HT_.out qq_4) (by decide) (fun K hK=>?_);have t:=Qdc (P:=Tryz.prog) Tryz.underlying40 Tryz.underlying5 Tryz.underlying9 (Kd.own_of_R c.out);refine Qgp (w1:=?_) (v:=?_) (by rfl) rfl ?_ ?_;rotate_left 2
      ·go_simp
       constructor
       ·rfl
       ·rfl
      clear t;refine hK.out _ _ trivial (fun a=>?_);clear hK K;refine nzp_ 14 ?_;exact Qgl (by simp only[Qgk,Act.put,List.setIfInBounds_toArray,List.set_cons_zero,List.set_cons_succ]) (hCont (m) _ ⟨qq_8,qq_b⟩)
    ·skip
     refine Qgn Tryz.func135 qq_4 rfl #[.int .u64 (IntKind.u64.wrap (Int.tdiv a0 128))] (by rfl) rfl rfl qq_1 ?_;with_reducible refine(ih k (by omega) (IntKind.u64.wrap (Int.tdiv a0 128)) b _ A6.out).mono ?_
     rintro e w9 ⟨rfl,hb⟩;refine⟨_,rfl,?_⟩;have n_:=qn1 (Qfi qq_b hb);clear HB;have HB:=n_;clear n_
     (try clear hb)
     (try clear hb2)
     (try clear hk)
     (try clear hi)
     refine hK.out _ _ trivial (fun a=>?_);clear hK K;refine nzp_ 17 ?_;refine one_ (i:=4) (N:=some 13) (bm 11 479) rfl rfl (Qhn HT_.out qq_4) (by decide) (fun K hK=>?_);refine Kd.R_lit_step (Kd.int .u8) _ 5 ?hg (N:=13) ?hd (xs:=([(IntKind.u64.wrap (128+(Int.tmod a0 128)))%256]:List Int)) (inner:=[.int .u8 ((IntKind.u64.wrap (128+(Int.tmod a0 128)))%256)]) (ok:=fun _=>True) (okp:=fun _=>True) ?hr ?hp (fun _ hk=>hk) trivial (Below.refl _ _) (Nat.le_refl _) (by simp) ?_;(case hd=>rfl);(case hg=>rfl);(case hr=>exact qq_16);(case hp=>exact(Reps.one (show Kd.M (Kd.int .u8) _ _ _ ((IntKind.u64.wrap (128+(Int.tmod a0 128)))%256) [.int .u8 ((IntKind.u64.wrap (128+(Int.tmod a0 128)))%256)] from rfl) (Reps.none _ _)));intro m aa s hb hg_ hnew_;clear hg_ hnew_
     (first|rw[← o.out]at s |(simp only[Int.reduceToNat]at s;rw[← o.out]at s))
     have n_:=qn2 (Kd.R_lower s (Qfh qq_b)) (Qfi qq_b hb);clear HB;obtain⟨c,HB⟩:=n_;clear hb s;refine hK.out _ _ trivial (fun a=>?_);clear hK K;refine nzp_ 13 ?_;refine one_ (i:=5) (N:=some 14) (bm 11 511) rfl rfl (Qhn HT_.out qq_4) (by decide) (fun K hK=>?_);have t:=Qdc (P:=Tryz.prog) Tryz.underlying40 Tryz.underlying5 Tryz.underlying9 (Kd.own_of_R c.out);refine Qgp (w1:=?_) (v:=?_) (by rfl) rfl ?_ ?_;rotate_left 2
     ·go_simp
      constructor
      ·rfl
      ·rfl
     clear t;refine hK.out _ _ trivial (fun a=>?_);clear hK K;refine nzp_ 14 ?_;exact Qgl (by simp only[Qgk,Act.put,List.setIfInBounds_toArray,List.set_cons_zero,List.set_cons_succ]) (hCont (m) _ ⟨qq_8,qq_b⟩)
   rintro m B ⟨D,E⟩;have G:Aside0 (Kd.R (Kd.int .u8) 5 B w.heap.size (fun _=>True) m d):=⟨D⟩;have I:Aside0 (Below w.heap.size w B):=⟨E⟩;clear HB D E;have c:=G;have HB:=I;clear G I;have a:=trivial;refine nza_ ?_;refine pz_ (i:=9) (N:=some 18) (bm 11 1023) (Qhm HT_.out qq_4) ?_;refine pz_ (i:=10) (N:=some 2) (bm 11 2047) (Qhm HT_.out qq_4) ?_;refine Qgj (Qhp HT_.out qq_4) ?_
   try go_wp2
   go_ret
   exact⟨qq_6,qq_b⟩
  ·rw[if_neg c7]at H;exact absurd H (by simp)
def Qbc.l0:Nat→ByteArray→Int→Int→Option (Int)
 | 0,_,_,_=>none
 | k+1,x0,x3,x4=>if x4≥0 then(if 0≤x4 then(if x4<(x0.size:Int)then(Qbc.l0 k x0 (IntKind.u64.wrap ((IntKind.u64.wrap (x3*256))+(IntKind.u64.wrap (bt x0 x4)))) (wrap64 (x4-1)))else(none))else(none))else(some x3)
def Qbc.f(k:Nat)(a0:ByteArray):Option (Int):=Qbc.l0 k a0 0 (wrap64 ((a0.size:Int)-1))
theorem Qbc.mono_l:∀k,(∀y0 y1 y2,LeO (Qbc.l0 k y0 y1 y2) (Qbc.l0 (k+1) y0 y1 y2))
 | 0=>fun _ _ _ r h=>by simp[Qbc.l0]at h
 | k+1=>by
  have ih0:=Qbc.mono_l k
  ·intro y0 y1 y2;unfold Qbc.l0
   repeat' first
   |(with_reducible exact ih0 _ _ _)
   |(with_reducible exact LeO.refl _)
   |(with_reducible exact LeO.none _)
   |(with_reducible refine LeO.ite ?_ ?_)
   |(with_reducible refine LeO.bind ?_ (fun _=>?_))
   | exact ih0 _ _ _
   | exact LeO.none _
   | refine LeO.ite ?_ ?_
   | refine LeO.bind ?_ (fun _=>?_)
theorem Qbc.mono:∀a0 k,LeO (Qbc.f k a0) (Qbc.f (k+1) a0):=by
 intro a0 k;have ih0:=Qbc.mono_l k;unfold Qbc.f
 repeat' first
   |(with_reducible exact ih0 _ _ _)
   |(with_reducible exact LeO.refl _)
   |(with_reducible exact LeO.none _)
   |(with_reducible refine LeO.ite ?_ ?_)
   |(with_reducible refine LeO.bind ?_ (fun _=>?_))
   | exact ih0 _ _ _
   | exact LeO.none _
   | refine LeO.ite ?_ ?_
   | refine LeO.bind ?_ (fun _=>?_)
theorem Qbc.calls(k:Nat)(a0:ByteArray)(r:Int)(w:World)(h:Qbc.f k a0=some r) :
  Calls Tryz.prog 186 #[.string a0] w fun e w'=>e=.returned (.int .u64 r)∧Drawn0 w w':=by
 have H:(Qbc.l0 k a0 0 (wrap64 ((a0.size:Int)-1)))=some r:=h;clear h;have H':=QA H;clear H
 go_enter Tryz.func186,Tryz.ntmps186
 go_wp2
 go_loopg [3,4] k (fun kq v3 v4 w'=>∃(b:Int) (a:Int),v3=.int .u64 b∧v4=.int .i64 a∧Aside0 (Qbc.l0 kq a0 b a=some r)∧Aside0 (kq≤k)∧Drawn0 w w')
 case atStart=>exact⟨(0),(wrap64 ((a0.size:Int)-1)),qq_5,qq_5,H',⟨Nat.le_refl _⟩,by repeat(first|exact Drawn0.refl _|apply Drawn0.step)⟩
 case round =>
  clear H';obtain⟨b,a,rfl,rfl,HA,HK1,⟨m1,rfl⟩⟩:=hrel
  cases gk with
  | zero=>exact absurd HA.out (by simp[Qbc.l0])
  | succ k1 =>
   have H:=HA.out;clear HA;simp only[Qbc.l0]at H
   by_cases c2:a≥0
   ·rw[if_pos c2]at H;have c:decide (0≤a)=true:=decide_eq_true c2;clear c2
    by_cases c3:0≤a
    ·rw[if_pos c3]at H;have d:=decide_eq_true c3;clear c3
     by_cases c4:a<(a0.size:Int)
     ·rw[if_pos c4]at H;have g:=decide_eq_true c4;clear c4;have H':=QA H;clear H;have p5:0≤(a:Int):=of_decide_eq_true qq_2;have q5:a<(a0.size:Int):=of_decide_eq_true qq_2;have j:=Qcr a0 a;replace p5:=eq_true p5;replace q5:=eq_true q5;go_wp2
      go_roundg k1
      case measure=>have:=HK1.out;omega
      case rel=>exact⟨(IntKind.u64.wrap ((IntKind.u64.wrap (b*256))+(IntKind.u64.wrap (bt a0 a)))),(wrap64 (a-1)),qq_5,qq_5,H',⟨by have:=HK1.out;omega⟩,by repeat(first|exact Drawn0.refl _|apply Drawn0.step)⟩
     ·rw[if_neg c4]at H;exact absurd H (by simp)
    ·rw[if_neg c3]at H;exact absurd H (by simp)
   ·rw[if_neg c2]at H;have c:decide (0≤a)=false:=decide_eq_false c2;clear c2;obtain rfl:=Option.some.inj H;go_wp2;go_ret
    exact⟨by first|rfl |(simp;done) |(simp[*];done),by repeat(first|exact Drawn0.refl _|apply Drawn0.step)⟩
def Qbj.l0:Nat→Int→Int→Int→Option (Int)
 | 0,_,_,_=>none
 | k+1,x0,x6,x7=>if x7<x6 then(Qbj.l0 k (IntKind.u64.wrap ((IntKind.u64.wrap (2*x0))+(IntKind.u64.wrap (Int.tdiv x0 9223372036854775808)))) x6 (wrap64 (x7+1)))else(some x0)
def Qbj.f(k:Nat)(a0:Int)(a1:Int):Option (Int):=Qbj.l0 k a0 a1 0
theorem Qbj.mono_l:∀k,(∀y0 y1 y2,LeO (Qbj.l0 k y0 y1 y2) (Qbj.l0 (k+1) y0 y1 y2))
 | 0=>fun _ _ _ r h=>by simp[Qbj.l0]at h
 | k+1=>by
  have ih0:=Qbj.mono_l k
  ·intro y0 y1 y2;unfold Qbj.l0
   repeat' first
   |(with_reducible exact ih0 _ _ _)
   |(with_reducible exact LeO.refl _)
   |(with_reducible exact LeO.none _)
   |(with_reducible refine LeO.ite ?_ ?_)
   |(with_reducible refine LeO.bind ?_ (fun _=>?_))
   | exact ih0 _ _ _
   | exact LeO.none _
   | refine LeO.ite ?_ ?_
   | refine LeO.bind ?_ (fun _=>?_)
theorem Qbj.mono:∀a0 a1 k,LeO (Qbj.f k a0 a1) (Qbj.f (k+1) a0 a1):=by
 intro a0 a1 k;have ih0:=Qbj.mono_l k;unfold Qbj.f
 repeat' first
   |(with_reducible exact ih0 _ _ _)
   |(with_reducible exact LeO.refl _)
   |(with_reducible exact LeO.none _)
   |(with_reducible refine LeO.ite ?_ ?_)
   |(with_reducible refine LeO.bind ?_ (fun _=>?_))
   | exact ih0 _ _ _
   | exact LeO.none _
   | refine LeO.ite ?_ ?_
   | refine LeO.bind ?_ (fun _=>?_)
theorem Qbj.calls(k:Nat)(a0:Int)(a1:Int)(r:Int)(w:World)(h:Qbj.f k a0 a1=some r) :
  Calls Tryz.prog 192 #[.int .u64 a0,.int .i64 a1] w fun e w'=>e=.returned (.int .u64 r)∧Drawn0 w w':=by
 have H:(Qbj.l0 k a0 a1 0)=some r:=h;clear h;have H':=QA H;clear H
 go_enter Tryz.func192,Tryz.ntmps192
 go_wp2
 go_loopg [0,7] k (fun kq v0 v7 w'=>∃(a:Int) (b:Int),v0=.int .u64 a∧v7=.int .i64 b∧Aside0 (Qbj.l0 kq a a1 b=some r)∧Aside0 (kq≤k)∧Drawn0 w w')
 case atStart=>exact⟨(a0),(0),qq_5,qq_5,H',⟨Nat.le_refl _⟩,by repeat(first|exact Drawn0.refl _|apply Drawn0.step)⟩
 case round =>
  clear H';obtain⟨a,b,rfl,rfl,HA,HK1,⟨m1,rfl⟩⟩:=hrel
  cases gk with
  | zero=>exact absurd HA.out (by simp[Qbj.l0])
  | succ k1 =>
   have H:=HA.out;clear HA;simp only[Qbj.l0]at H
   by_cases c3:b<a1
   ·rw[if_pos c3]at H;have c:=decide_eq_true c3;clear c3;have H':=QA H;clear H;go_wp2
    go_roundg k1
    case measure=>have:=HK1.out;omega
    case rel=>exact⟨(IntKind.u64.wrap ((IntKind.u64.wrap (2*a))+(IntKind.u64.wrap (Int.tdiv a 9223372036854775808)))),(wrap64 (b+1)),qq_5,qq_5,H',⟨by have:=HK1.out;omega⟩,by repeat(first|exact Drawn0.refl _|apply Drawn0.step)⟩
   ·rw[if_neg c3]at H;have c:=decide_eq_false c3;clear c3;obtain rfl:=Option.some.inj H;go_wp2;go_ret
    exact⟨by first|rfl |(simp;done) |(simp[*];done),by repeat(first|exact Drawn0.refl _|apply Drawn0.step)⟩
def Qbh.f(k:Nat)(a0:Int)(a1:Int):Option (Int):=(Qbj.f k (IntKind.u64.wrap (a0+(IntKind.u64.wrap (a1*14029467366897019727)))) 31).bind fun t133=>(some (IntKind.u64.wrap (t133*11400714785074694791)))
theorem Qbh.mono:∀a0 a1 k,LeO (Qbh.f k a0 a1) (Qbh.f (k+1) a0 a1):=by
 intro a0 a1 k;unfold Qbh.f
 repeat' first
   |(with_reducible exact Qbj.mono _ _ _)
   |(with_reducible exact LeO.refl _)
   |(with_reducible exact LeO.none _)
   |(with_reducible refine LeO.ite ?_ ?_)
   |(with_reducible refine LeO.bind ?_ (fun _=>?_))
   | exact Qbj.mono _ _ _
   | exact LeO.none _
   | refine LeO.ite ?_ ?_
   | refine LeO.bind ?_ (fun _=>?_)
theorem Qbh.calls(k:Nat)(a0:Int)(a1:Int)(r:Int)(w:World)(h:Qbh.f k a0 a1=some r) :
  Calls Tryz.prog 191 #[.int .u64 a0,.int .u64 a1] w fun e w'=>e=.returned (.int .u64 r)∧Drawn0 w w':=by
 have H:((Qbj.f k (IntKind.u64.wrap (a0+(IntKind.u64.wrap (a1*14029467366897019727)))) 31).bind fun t133=>(some (IntKind.u64.wrap (t133*11400714785074694791))))=some r:=h;clear h;replace H:=Option.bind_eq_some_iff.mp H;obtain⟨t133,A30,H⟩:=H;have A3:=QA A30;clear A30;obtain rfl:=Option.some.inj H
 go_enter Tryz.func191,Tryz.ntmps191
 go_wp2_with (first |((with_reducible refine Qim (f:=192) rfl ?_);refine Qgo (some 9) rfl rfl Tryz.func192 qq_4 rfl #[.int .u64 (IntKind.u64.wrap (a0+(IntKind.u64.wrap (a1*14029467366897019727)))),.int .i64 31] rfl qq_1 ?_;(with_reducible refine(Qbj.calls k (IntKind.u64.wrap (a0+(IntKind.u64.wrap (a1*14029467366897019727)))) 31 t133 _ A3.out).mono ?_);rintro e w' ⟨rfl,⟨nd,rfl⟩⟩;refine⟨_,rfl,?_⟩))
 go_ret
 exact⟨by first|rfl |(simp;done) |(simp[*];done),by repeat(first|exact Drawn0.refl _|apply Drawn0.step)⟩
def Qbi.l0:Nat→Int→Int→Int→Int→Option (Int)
 | 0,_,_,_,_=>none
 | k+1,x0,x5,x7,x8=>if x8<x7 then(Qbi.l0 k x0 (IntKind.u64.wrap (Int.tdiv x5 2)) x7 (wrap64 (x8+1)))else(some (Go.bits .xor .u64 x0 x5))
def Qbi.f(k:Nat)(a0:Int)(a1:Int):Option (Int):=Qbi.l0 k a0 a0 a1 0
theorem Qbi.mono_l:∀k,(∀y0 y1 y2 y3,LeO (Qbi.l0 k y0 y1 y2 y3) (Qbi.l0 (k+1) y0 y1 y2 y3))
 | 0=>fun _ _ _ _ r h=>by simp[Qbi.l0]at h
 | k+1=>by
  have ih0:=Qbi.mono_l k
  ·intro y0 y1 y2 y3;unfold Qbi.l0
   repeat' first
   |(with_reducible exact ih0 _ _ _ _)
   |(with_reducible exact LeO.refl _)
   |(with_reducible exact LeO.none _)
   |(with_reducible refine LeO.ite ?_ ?_)
   |(with_reducible refine LeO.bind ?_ (fun _=>?_))
   | exact ih0 _ _ _ _
   | exact LeO.none _
   | refine LeO.ite ?_ ?_
   | refine LeO.bind ?_ (fun _=>?_)
theorem Qbi.mono:∀a0 a1 k,LeO (Qbi.f k a0 a1) (Qbi.f (k+1) a0 a1):=by
 intro a0 a1 k;have ih0:=Qbi.mono_l k;unfold Qbi.f
 repeat' first
   |(with_reducible exact ih0 _ _ _ _)
   |(with_reducible exact LeO.refl _)
   |(with_reducible exact LeO.none _)
   |(with_reducible refine LeO.ite ?_ ?_)
   |(with_reducible refine LeO.bind ?_ (fun _=>?_))
   | exact ih0 _ _ _ _
   | exact LeO.none _
   | refine LeO.ite ?_ ?_
   | refine LeO.bind ?_ (fun _=>?_)
theorem Qbi.calls(k:Nat)(a0:Int)(a1:Int)(r:Int)(w:World)(h:Qbi.f k a0 a1=some r) :
  Calls Tryz.prog 193 #[.int .u64 a0,.int .i64 a1] w fun e w'=>e=.returned (.int .u64 r)∧Drawn0 w w':=by
 have H:(Qbi.l0 k a0 a0 a1 0)=some r:=h;clear h;have H':=QA H;clear H
 go_enter Tryz.func193,Tryz.ntmps193
 go_wp2
 go_loopg [5,8] k (fun kq v5 v8 w'=>∃(b:Int) (a:Int),v5=.int .u64 b∧v8=.int .i64 a∧Aside0 (Qbi.l0 kq a0 b a1 a=some r)∧Aside0 (kq≤k)∧Drawn0 w w')
 case atStart=>exact⟨(a0),(0),qq_5,qq_5,H',⟨Nat.le_refl _⟩,by repeat(first|exact Drawn0.refl _|apply Drawn0.step)⟩
 case round =>
  clear H';obtain⟨b,a,rfl,rfl,HA,HK1,⟨m1,rfl⟩⟩:=hrel
  cases gk with
  | zero=>exact absurd HA.out (by simp[Qbi.l0])
  | succ k1 =>
   have H:=HA.out;clear HA;simp only[Qbi.l0]at H
   by_cases c3:a<a1
   ·rw[if_pos c3]at H;have c:=decide_eq_true c3;clear c3;have H':=QA H;clear H;go_wp2
    go_roundg k1
    case measure=>have:=HK1.out;omega
    case rel=>exact⟨(IntKind.u64.wrap (Int.tdiv b 2)),(wrap64 (a+1)),qq_5,qq_5,H',⟨by have:=HK1.out;omega⟩,by repeat(first|exact Drawn0.refl _|apply Drawn0.step)⟩
   ·rw[if_neg c3]at H;have c:=decide_eq_false c3;clear c3;obtain rfl:=Option.some.inj H;go_wp2;go_ret
    exact⟨by first|rfl |(simp;done) |(simp[*];done),by repeat(first|exact Drawn0.refl _|apply Drawn0.step)⟩
end Go.Proofs.YteaocbonofboeaaGreat.C
end
