/- Merged texts. -/
import Derived.Test.YteaocbonofboeaaGreatMC02
import Derived.Test.YteaocbonofboeaaGreatMC03
import Derived.Test.YteaocbonofboeaaGreatMC04
set_option linter.unusedVariables false
set_option linter.unusedSimpArgs false
set_option maxHeartbeats 8000000
set_option maxRecDepth 100000
section
namespace Go.Proofs.YteaocbonofboeaaGreat.C
open Go.RowKit Go.Proofs.YteaocbonofboeaaGreatW.PrintWords Go.Proofs.YteaocbonofboeaaGreatW.PrintLast Go.Proofs.YteaocbonofboeaaGreatW.PrintMore
attribute [local go_sem] Qhx Qhy Qhz Qia Qib Qic Qid Qie
def Qck.f(k:Nat)(a0_0:Int)(a0_1:Int)(a1_0:Int)(a1_1:Int):Option (Int):=(Qah.f a0_0 a1_0).bind fun t276=>((Qag.f a0_1 a1_1).bind fun t277=>((Qai.f k (([t276,t277]:List Int))).bind fun t281=>(some t281)))
def Qck.T1:Bool × List (List Nat × List Nat):=(true,[([],[]),([0],[0]),([],[]),([2],[2]),([1,3],[1,3]),([],[]),([5],[5]),([],[]),([7],[7]),([6,8,4],[6,8]),([4,9],[4,9]),([10,9],[10]),([11,11,0,1,2,3,4,5,6,7,8,9,10,11],[11])])
def Qck.B1:List Nat:=[0,1,0,4,15,0,32,0,128,511,1023,2047,4095]
theorem Qck.tab1:rtab .any (Qhq Tryz.f116 1)=Qck.T1:=by kernel_rfl
theorem Qck.bits1:Qhk Qck.T1.2 Qck.B1=true:=by kernel_rfl
theorem Qck.calls(k:Nat)(j:Int)(l:Int)(p:Int)(q:Int)(r:Int)(w:World)(h:Qck.f k j l p q=some r) :
  Calls Tryz.prog 116 #[.agg #[.int .u64 j,.int .u32 l],.agg #[.int .u64 p,.int .u32 q]] w fun e w'=>e=.returned (.int .i64 r)∧Below w.heap.size w w':=by
 have hu129:=Tryz.underlying129;have HB:=QA (Below.refl w.heap.size w);have H:((Qah.f j p).bind fun s=>((Qag.f l q).bind fun t=>((Qai.f k (([s,t]:List Int))).bind fun v=>(some v))))=some r:=h;clear h;replace H:=Option.bind_eq_some_iff.mp H;obtain⟨s,D,H⟩:=H;have A3:=QA D;clear D;replace H:=Option.bind_eq_some_iff.mp H;obtain⟨t,E,H⟩:=H;have A4:=QA E;clear E;obtain⟨z,u⟩:∃y_:List Int,y_=(([s,t]:List Int)):=⟨_,rfl⟩;replace H:((Qai.f k z).bind fun v=>(some v))=some r:=by first |(rw[u];with_reducible exact H) |(have B:=(Option.bind_some _ _).symm.trans H;rw[u];with_reducible exact B) |(have B:=(Option.bind_some _ _).symm.trans H;with_reducible exact B)|with_reducible exact H |(rw[u];exact H)|exact H
 have A:=QA u;clear u;replace H:=Option.bind_eq_some_iff.mp H;obtain⟨v,G,H⟩:=H;have A5:=QA G;clear G;obtain rfl:=Option.some.inj H
 go_enter Tryz.func116,Tryz.ntmps116
 try go_wp2_with (first |((with_reducible refine Qfn (N:=2) rfl ?_);refine qq_e 2 #[.int .u64 j,.int .u32 l] 129 ?_;intro c hg w6 hbox hb;have n_:=qn4 (Qfd qq_b hb) (hbox) (qq_s hg:w.heap.size≤c) (qq_s hg:w.heap.size≤c);clear HB;obtain⟨HB,a,L,O⟩:=n_;clear hb hbox hg) |((with_reducible refine Qfn (N:=3) rfl ?_);refine qq_e 3 #[.int .u64 p,.int .u32 q] 129 ?_;intro m hg w7 hbox hb;have n_:=qn7 (Qed (g:=c) (o:=.cells #[.int .u64 j,.int .u32 l] 129 (0,0)) qq_1 hb) (Qfd qq_b hb) (hbox) (qq_s hg:w.heap.size≤m) (qq_s hg:w.heap.size≤m) ((by rw[hg];exact Nat.ne_of_lt (Qdn (g:=c) (o:=.cells #[.int .u64 j,.int .u32 l] 129 (0,0)) qq_1):c≠m)) ((by rw[hg];exact Nat.ne_of_gt (Qdn (g:=c) (o:=.cells #[.int .u64 j,.int .u32 l] 129 (0,0)) qq_1):m≠c));clear a HB;obtain⟨a,HB,b,P,T,I,J⟩:=n_;clear hb hbox hg))
 have n_:=qn3 (Qeb a.out) (Qeb b.out) (Qfj HB.out);clear a b HB;obtain⟨a,b,HB⟩:=n_;refine Qfz (n:=13) (S:=fun w'=>w'.cell? ⟨c,0,none⟩=some (.int .u64 j)∧w'.cell? ⟨c,1,none⟩=some (.int .u32 l)∧w'.cell? ⟨m,0,none⟩=some (.int .u64 p)∧w'.cell? ⟨m,1,none⟩=some (.int .u32 q)) (ds:=[]) (bm 13 0) qq_2 rfl rfl ⟨(Qdo a.out 0).trans rfl,(Qdo a.out 1).trans rfl,(Qdo b.out 0).trans rfl,(Qdo b.out 1).trans rfl⟩ (fun d=>?_);refine Qho Qck.tab1 Qck.bits1 (fun HT_ HW_=>?_);generalize w7.drew=w8 at a b HB d ⊢;refine pz_ (i:=0) (N:=some 5) (bm 13 1) (Qhg HT_.out qq_2) ?_;refine pz_ (i:=2) (N:=some 7) (bm 13 5) (Qhg HT_.out qq_2) ?_;refine pz_ (i:=5) (N:=some 10) (bm 13 37) (Qhg HT_.out qq_2) ?_;refine pz_ (i:=7) (N:=some 12) (bm 13 165) (Qhg HT_.out qq_2) ?_;refine tz_ (i:=1) (N:=some 6) (bm 13 167) (Qhn HT_.out HW_.out qq_2) d ?_;refine tz_ (i:=3) (N:=some 8) (bm 13 175) (Qhn HT_.out HW_.out qq_2) d ?_;refine tz_ (i:=6) (N:=some 11) (bm 13 239) (Qhn HT_.out HW_.out qq_2) d ?_;refine tz_ (i:=8) (N:=some 13) (bm 13 495) (Qhn HT_.out HW_.out qq_2) d ?_;refine one_ (i:=4) (N:=some 9) (bm 13 511) rfl rfl (Qhh HT_.out qq_2) (by decide) (fun K hK=>?_);refine Qgh Tryz.func166 qq_2 rfl #[.int .u64 j,.int .u64 p] (by rfl) rfl rfl qq_0 ?_;with_reducible refine(Qah.calls j p s _ A3.out).mono ?_
 rintro e w' ⟨rfl,⟨nd,rfl⟩⟩;refine⟨_,rfl,?_⟩;refine hK.out _ _ ⟨(Qdo a.out 0).trans rfl,(Qdo a.out 1).trans rfl,(Qdo b.out 0).trans rfl,(Qdo b.out 1).trans rfl⟩ (fun d=>?_);clear hK K;refine nzp_ 9 ?_;refine one_ (i:=9) (N:=some 14) (bm 13 1023) rfl rfl (Qhh HT_.out qq_2) (by decide) (fun K hK=>?_);refine Qgh Tryz.func167 qq_2 rfl #[.int .u32 l,.int .u32 q] (by rfl) rfl rfl qq_0 ?_;with_reducible refine(Qag.calls l q t _ A4.out).mono ?_
 rintro e w' ⟨rfl,⟨nd,rfl⟩⟩;refine⟨_,rfl,?_⟩;refine hK.out _ _ ⟨(Qdo a.out 0).trans rfl,(Qdo a.out 1).trans rfl,(Qdo b.out 0).trans rfl,(Qdo b.out 1).trans rfl⟩ (fun d=>?_);clear hK K;refine nzp_ 14 ?_;refine one_ (i:=10) (N:=some 15) (bm 13 2047) rfl rfl (Qhh HT_.out qq_2) (by decide) (fun K hK=>?_);refine Kd.R_lit_step (Kd.int .i64) _ 3 ?hg (N:=15) ?hd (xs:=([s,t]:List Int)) (inner:=[.int .i64 s,.int .i64 t]) (ok:=fun _=>True) (okp:=fun _=>True) ?hr ?hp (fun _ hk=>hk) trivial (Below.refl _ _) (Nat.le_refl _) (by simp) ?_;(case hd=>rfl);(case hg=>rfl);(case hr=>exact qq_10);(case hp=>exact(Reps.one (show Kd.M (Kd.int .i64) _ _ _ s [.int .i64 s] from rfl) (Reps.one (show Kd.M (Kd.int .i64) _ _ _ t [.int .i64 t] from rfl) (Reps.none _ _))));intro U w9 x hb hg_ hnew_;clear hg_ hnew_
 (first|rw[← A.out]at x |(simp only[Int.reduceToNat]at x;rw[← A.out]at x))
 have n_:=qn4 (Kd.R_lower x (Qfc qq_b)) (Qed (g:=c) (o:=.cells #[.int .u64 j,.int .u32 l] 129 (0,0)) qq_1 hb) (Qed (g:=m) (o:=.cells #[.int .u64 p,.int .u32 q] 129 (0,0)) qq_1 hb) (Qfd qq_b hb);clear a b HB;obtain⟨y,a,b,HB⟩:=n_;clear hb x;obtain⟨Ao11,co11,eo11⟩:=Kd.R_slice y.out
 (first|subst eo11 |(injection eo11 with f1_ f2_ f3_;have f4_:=f1_.symm;have f5_:=f3_.symm;clear f1_ f2_ f3_;subst f4_;subst f5_))
 refine hK.out _ _ ⟨(Qdo a.out 0).trans rfl,(Qdo a.out 1).trans rfl,(Qdo b.out 0).trans rfl,(Qdo b.out 1).trans rfl⟩ (fun d=>?_);clear hK K;refine nzp_ 15 ?_;refine one_ (i:=11) (N:=some 16) (bm 13 4095) rfl rfl (Qhh HT_.out qq_2) (by decide) (fun K hK=>?_);refine Qgh Tryz.func165 qq_2 rfl #[.slice Ao11 z.length co11] (by rfl) rfl rfl qq_0 ?_;with_reducible refine(Qai.calls k _ _ z v _ ?side1 ?side2 A5.out).mono ?_
 (case side1=>repeat(first|exact(Kd.R_reads' y.out).2.2 |(with_reducible refine Kd.C_alloc ?_ _) |(with_reducible refine Kd.C_drewN ?_ _) |(with_reducible refine Kd.C_drew ?_)))
 (case side2=>exact(Kd.R_reads' y.out).2.1)
 rintro e w' ⟨rfl,⟨nd,rfl⟩⟩;refine⟨_,rfl,?_⟩;refine hK.out _ _ ⟨(Qdo a.out 0).trans rfl,(Qdo a.out 1).trans rfl,(Qdo b.out 0).trans rfl,(Qdo b.out 1).trans rfl⟩ (fun d=>?_);clear hK K;refine nzp_ 16 ?_;refine pz_ (i:=12) (N:=some 4) (bm 13 8191) (Qhg HT_.out qq_2) ?_;refine Qgd (Qhj HT_.out qq_2) ?_
 try go_wp2
 go_ret
 exact⟨qq_5,qq_b⟩
def Qcl.l0:Nat→List (S129)→Int→Option (Bool)
 | 0,_,_=>none
 | k+1,x0,x3=>if x3<(x0.length:Int)then(if 0≤(wrap64 (x3-1))then(if(wrap64 (x3-1))<(x0.length:Int)then(if 0≤x3 then((Qck.f k ((Qiy x0 (wrap64 (x3-1))).f0) ((Qiy x0 (wrap64 (x3-1))).f1) ((Qiy x0 x3).f0) ((Qiy x0 x3).f1)).bind fun t286=>(if t286≥0 then(some false)else(Qcl.l0 k x0 (wrap64 (x3+1)))))else(none))else(none))else(none))else(some true)
def Qcl.f(k:Nat)(l0:List (S129)):Option (Bool):=Qcl.l0 k l0 1
def Qcl.T4:Bool × List (List Nat × List Nat):=(true,[([],[]),([],[]),([1],[1]),([0,2],[0,2]),([3],[3]),([],[]),([],[]),([5,6],[5,6]),([7],[7]),([4,8],[4,8]),([9],[9])])
def Qcl.B4:List Nat:=[0,0,2,7,15,0,0,96,224,511,1023]
theorem Qcl.tab4:rtab .any (Qhq Tryz.f160 4)=Qcl.T4:=by kernel_rfl
theorem Qcl.bits4:Qhk Qcl.T4.2 Qcl.B4=true:=by kernel_rfl
theorem Qcl.calls (k:Nat) (A0:Option Addr) (c0:Nat) (l0:List (S129)) (r:Bool) (w:World) (hr0:Kd.C k129 w A0 l0.length l0) (hc0:l0.length≤c0) (h:Qcl.f k l0=some r) :
  Calls Tryz.prog 160 #[.slice A0 l0.length c0] w fun e w'=>e=.returned (.bool r)∧Below w.heap.size w w':=by
 have hu129:=Tryz.underlying129;have z:=QA hr0;have L:=QA hc0;clear hr0 hc0;have HB:=QA (Below.refl w.heap.size w);have H:(Qcl.l0 k l0 1)=some r:=h;clear h;have H':=QA H;clear H
 go_enter Tryz.func160,Tryz.ntmps160
 go_wp2
 go_loopg [3] k (fun kq v3 w'=>∃(a:Int),v3=.int .i64 a∧Aside0 (Qcl.l0 kq l0 a=some r)∧Aside0 (kq≤k)∧Aside0 (Below w.heap.size w w'))
 case atStart=>exact⟨(1),qq_4,H',⟨Nat.le_refl _⟩,⟨qq_b⟩⟩
 case round =>
  clear H';obtain⟨a,rfl,HA,HK1,HB⟩:=hrel
  cases gk with
  | zero=>exact absurd HA.out (by simp[Qcl.l0])
  | succ k1 =>
   have H:=HA.out;clear HA;simp only[Qcl.l0]at H
   by_cases c2:a<(l0.length:Int)
   ·rw [if_pos c2]at H;have B:=decide_eq_true c2;clear c2;obtain⟨b,u⟩:∃j_:Int,(wrap64 (a-1))=j_:=⟨_,rfl⟩;replace H:(if 0≤(b)then(if(b)<(l0.length:Int)then(if 0≤a then((Qck.f k1 ((Qiy l0 (b)).f0) ((Qiy l0 (b)).f1) ((Qiy l0 a).f0) ((Qiy l0 a).f1)).bind fun o=>(if o≥0 then(some false)else(Qcl.l0 k1 l0 (wrap64 (a+1)))))else(none))else(none))else(none))=some r:=by first |(rw[u]at H;exact H) |(simp only[u]at H ⊢;exact H)
    have E:(IntKind.i64.wrap (a-1))=b:=(Qgk _).trans u
    by_cases c4:0≤(b)
    ·rw [if_pos c4]at H;have G:=decide_eq_true c4;clear c4
     by_cases c5:(b)<(l0.length:Int)
     ·rw[if_pos c5]at H;have I:=decide_eq_true c5;clear c5
      by_cases c6:0≤a
      ·rw[if_pos c6]at H;have J:=decide_eq_true c6;clear c6;replace H:=Option.bind_eq_some_iff.mp H;obtain⟨o,A,H⟩:=H;have A7:=QA A;clear A
       by_cases c8:o≥0
       ·rw[if_pos c8]at H;have D:decide (0≤o)=true:=decide_eq_true c8;clear c8;obtain rfl:=Option.some.inj H
        try go_wp2
        have n_:=qn1 (Qfj HB.out);clear HB;have HB:=n_;clear n_;have p:0≤((b):Int):=of_decide_eq_true qq_6;have q:(b)<(l0.length:Int):=of_decide_eq_true qq_6;obtain⟨c,x,d,g⟩:=Qiz z.out (b) p q;have hw284_1:=g;have hw284_0:=d
        cases x
        replace d:=qq_h HB.out d;replace g:=qq_h HB.out g;replace p:=eq_true p;replace q:=eq_true q;have s:0≤(a:Int):=of_decide_eq_true qq_6;have t:a<(l0.length:Int):=of_decide_eq_true qq_6;obtain⟨v,y,j,l⟩:=Qiz z.out a s t;have hw285_1:=l;have hw285_0:=j;obtain rfl:c=v:=(by injection y);replace j:=qq_h HB.out j;replace l:=qq_h HB.out l;replace s:=eq_true s;replace t:=eq_true t;refine Qfz (n:=11) (S:=fun w'=>w'.cell? (c.add (((b)).toNat*2))=some (.int .u64 ((Qiy l0 (b)).f0))∧w'.cell? ⟨(c.add (((b)).toNat*2)).block,(c.add (((b)).toNat*2)).off+1,none⟩=some (.int .u32 ((Qiy l0 (b)).f1))∧w'.cell? (c.add ((a).toNat*2))=some (.int .u64 ((Qiy l0 a).f0))∧w'.cell? ⟨(c.add ((a).toNat*2)).block,(c.add ((a).toNat*2)).off+1,none⟩=some (.int .u32 ((Qiy l0 a).f1))) (ds:=[]) (bm 11 0) qq_2 rfl rfl ⟨((HB.out.cell (World.block_lt_of_cell? w _ hw284_0)).trans hw284_0),((HB.out.cell (World.block_lt_of_cell? w _ hw284_1)).trans hw284_1),((HB.out.cell (World.block_lt_of_cell? w _ hw285_0)).trans hw285_0),((HB.out.cell (World.block_lt_of_cell? w _ hw285_1)).trans hw285_1)⟩ (fun m=>?_);refine Qho Qcl.tab4 Qcl.bits4 (fun HT_ HW_=>?_);generalize wr.drew=w9 at HB d g j l m ⊢;refine pz_ (i:=0) (N:=some 10) (bm 11 1) (Qhg HT_.out qq_2) ?_;refine pz_ (i:=1) (N:=some 11) (bm 11 3) (Qhg HT_.out qq_2) ?_;refine pz_ (i:=2) (N:=some 12) (bm 11 7) (Qhg HT_.out qq_2) ?_;refine pz_ (i:=3) (N:=some 13) (bm 11 15) (Qhg HT_.out qq_2) ?_;refine pz_ (i:=5) (N:=some 15) (bm 11 47) (Qhg HT_.out qq_2) ?_;refine pz_ (i:=6) (N:=some 16) (bm 11 111) (Qhg HT_.out qq_2) ?_;refine pz_ (i:=7) (N:=some 17) (bm 11 239) (Qhg HT_.out qq_2) ?_;refine tz_ (i:=4) (N:=some 14) (bm 11 255) (Qhn HT_.out HW_.out qq_2) m ?_;refine tz_ (i:=8) (N:=some 18) (bm 11 511) (Qhn HT_.out HW_.out qq_2) m ?_;refine one_ (i:=9) (N:=some 19) (bm 11 1023) rfl rfl (Qhh HT_.out qq_2) (by decide) (fun K hK=>?_);refine Qgh Tryz.func116 qq_2 rfl #[.agg #[.int .u64 ((Qiy l0 (b)).f0),.int .u32 ((Qiy l0 (b)).f1)],.agg #[.int .u64 ((Qiy l0 a).f0),.int .u32 ((Qiy l0 a).f1)]] (by rfl) rfl rfl (by(try simp only[List.map_toArray,List.map_cons,List.map_nil]);first|done |(simp only[u];rfl)|rfl |(simp only[List.length_drop,List.length_take];rfl)) ?_;with_reducible refine(Qck.calls k1 ((Qiy l0 (b)).f0) ((Qiy l0 (b)).f1) ((Qiy l0 a).f0) ((Qiy l0 a).f1) o _ A7.out).mono ?_
        rintro e M ⟨rfl,hb⟩;refine⟨_,rfl,?_⟩;have n_:=qn1 (Qfd qq_b hb);clear HB;have HB:=n_;clear n_
        (try clear hb)
        (try clear hb2)
        (try clear hk)
        (try clear hi)
        refine hK.out _ _ ⟨((HB.out.cell (World.block_lt_of_cell? w _ hw284_0)).trans hw284_0),((HB.out.cell (World.block_lt_of_cell? w _ hw284_1)).trans hw284_1),((HB.out.cell (World.block_lt_of_cell? w _ hw285_0)).trans hw285_0),((HB.out.cell (World.block_lt_of_cell? w _ hw285_1)).trans hw285_1)⟩ (fun m=>?_);clear hK K;refine nzp_ 19 ?_;refine pz_ (i:=10) (N:=some 20) (bm 11 2047) (Qhg HT_.out qq_2) ?_;refine Qgd (Qhj HT_.out qq_2) ?_
        try go_wp2
        go_ret
        exact⟨by first|rfl |(simp[Qik,Qil]<;>rfl) |(simp only[← u];first|rfl |(simp[Qik,Qil]<;>rfl)) |(simp[*,Qik,Qil]<;>rfl),qq_b⟩
       ·rw[if_neg c8]at H;have D:decide (0≤o)=false:=decide_eq_false c8;clear c8;have H':=QA H;clear H
        try go_wp2
        have n_:=qn1 (Qfj HB.out);clear HB;have HB:=n_;clear n_;have p:0≤((b):Int):=of_decide_eq_true qq_6;have q:(b)<(l0.length:Int):=of_decide_eq_true qq_6;obtain⟨c,x,d,g⟩:=Qiz z.out (b) p q;have hw284_1:=g;have hw284_0:=d
        cases x
        replace d:=qq_h HB.out d;replace g:=qq_h HB.out g;replace p:=eq_true p;replace q:=eq_true q;have s:0≤(a:Int):=of_decide_eq_true qq_6;have t:a<(l0.length:Int):=of_decide_eq_true qq_6;obtain⟨v,y,j,l⟩:=Qiz z.out a s t;have hw285_1:=l;have hw285_0:=j;obtain rfl:c=v:=(by injection y);replace j:=qq_h HB.out j;replace l:=qq_h HB.out l;replace s:=eq_true s;replace t:=eq_true t;refine Qfz (n:=11) (S:=fun w'=>w'.cell? (c.add (((b)).toNat*2))=some (.int .u64 ((Qiy l0 (b)).f0))∧w'.cell? ⟨(c.add (((b)).toNat*2)).block,(c.add (((b)).toNat*2)).off+1,none⟩=some (.int .u32 ((Qiy l0 (b)).f1))∧w'.cell? (c.add ((a).toNat*2))=some (.int .u64 ((Qiy l0 a).f0))∧w'.cell? ⟨(c.add ((a).toNat*2)).block,(c.add ((a).toNat*2)).off+1,none⟩=some (.int .u32 ((Qiy l0 a).f1))) (ds:=[]) (bm 11 0) qq_2 rfl rfl ⟨((HB.out.cell (World.block_lt_of_cell? w _ hw284_0)).trans hw284_0),((HB.out.cell (World.block_lt_of_cell? w _ hw284_1)).trans hw284_1),((HB.out.cell (World.block_lt_of_cell? w _ hw285_0)).trans hw285_0),((HB.out.cell (World.block_lt_of_cell? w _ hw285_1)).trans hw285_1)⟩ (fun m=>?_);refine Qho Qcl.tab4 Qcl.bits4 (fun HT_ HW_=>?_);generalize wr.drew=w11 at HB d g j l m ⊢;refine pz_ (i:=0) (N:=some 10) (bm 11 1) (Qhg HT_.out qq_2) ?_;refine pz_ (i:=1) (N:=some 11) (bm 11 3) (Qhg HT_.out qq_2) ?_;refine pz_ (i:=2) (N:=some 12) (bm 11 7) (Qhg HT_.out qq_2) ?_;refine pz_ (i:=3) (N:=some 13) (bm 11 15) (Qhg HT_.out qq_2) ?_;refine pz_ (i:=5) (N:=some 15) (bm 11 47) (Qhg HT_.out qq_2) ?_;refine pz_ (i:=6) (N:=some 16) (bm 11 111) (Qhg HT_.out qq_2) ?_;refine pz_ (i:=7) (N:=some 17) (bm 11 239) (Qhg HT_.out qq_2) ?_;refine tz_ (i:=4) (N:=some 14) (bm 11 255) (Qhn HT_.out HW_.out qq_2) m ?_;refine tz_ (i:=8) (N:=some 18) (bm 11 511) (Qhn HT_.out HW_.out qq_2) m ?_;refine one_ (i:=9) (N:=some 19) (bm 11 1023) rfl rfl (Qhh HT_.out qq_2) (by decide) (fun K hK=>?_);refine Qgh Tryz.func116 qq_2 rfl #[.agg #[.int .u64 ((Qiy l0 (b)).f0),.int .u32 ((Qiy l0 (b)).f1)],.agg #[.int .u64 ((Qiy l0 a).f0),.int .u32 ((Qiy l0 a).f1)]] (by rfl) rfl rfl (by(try simp only[List.map_toArray,List.map_cons,List.map_nil]);first|done |(simp only[u];rfl)|rfl |(simp only[List.length_drop,List.length_take];rfl)) ?_;with_reducible refine(Qck.calls k1 ((Qiy l0 (b)).f0) ((Qiy l0 (b)).f1) ((Qiy l0 a).f0) ((Qiy l0 a).f1) o _ A7.out).mono ?_
        rintro e O ⟨rfl,hb⟩;refine⟨_,rfl,?_⟩;have n_:=qn1 (Qfd qq_b hb);clear HB;have HB:=n_;clear n_
        (try clear hb)
        (try clear hb2)
        (try clear hk)
        (try clear hi)
        refine hK.out _ _ ⟨((HB.out.cell (World.block_lt_of_cell? w _ hw284_0)).trans hw284_0),((HB.out.cell (World.block_lt_of_cell? w _ hw284_1)).trans hw284_1),((HB.out.cell (World.block_lt_of_cell? w _ hw285_0)).trans hw285_0),((HB.out.cell (World.block_lt_of_cell? w _ hw285_1)).trans hw285_1)⟩ (fun m=>?_);clear hK K;refine nzp_ 19 ?_;refine pz_ (i:=10) (N:=some 20) (bm 11 2047) (Qhg HT_.out qq_2) ?_;refine Qgd (Qhj HT_.out qq_2) ?_
        try go_wp2
        go_roundg k1
        case measure=>have:=HK1.out;omega
        case rel=>exact⟨(wrap64 (a+1)),qq_4,H',⟨by have:=HK1.out;omega⟩,⟨qq_b⟩⟩
      ·rw[if_neg c6]at H;exact absurd H (by simp)
     ·rw[if_neg c5]at H;exact absurd H (by simp)
    ·rw[if_neg c4]at H;exact absurd H (by simp)
   ·rw[if_neg c2]at H;have B:=decide_eq_false c2;clear c2;obtain rfl:=Option.some.inj H;go_wp2;go_ret
    exact⟨qq_5,qq_b⟩
theorem eqA129(d:Nat)(w:World)(x0 y0:Int)(x1 y1:Int) :
  (Op.equalIn (d+2) 129 (.agg #[.int .u64 x0,.int .u32 x1]) (.agg #[.int .u64 y0,.int .u32 y1])).run Tryz.prog w=.ok (x0 == y0 && (x1 == y1)) w:=by
 refine eqA_of Tryz.underlying129 qq_2 ?_;refine Qhv (by rfl) (by go_simp;rfl) (by go_simp;rfl) (by go_simp) ?_;exact Qhu (by rfl) (by go_simp;rfl) (by go_simp;rfl) (by go_simp)
def Qay.l0:Nat→List (S160)→List (S158)→Int→Int→Option ((List (S160)))
 | 0,_,_,_,_=>none
 | k+1,x3,x6,x7,x8=>if x8<x7 then(if 0≤x8 then(if x8<(x6.length:Int)then(if x3.length<8796093022208 then(Qay.l0 k (x3++[(⟨(Qjc x6 x8).f0,(Qjc x6 x8).f1⟩:S160)]) x6 x7 (wrap64 (x8+1)))else(none))else(none))else(none))else(some x3)
def Qay.f(k:Nat)(l0:List (S158)):Option ((List (S160))):=Qay.l0 k ([]:List (S160)) l0 (l0.length:Int) 0
theorem Qay.calls(k:Nat)(A0:Option Addr)(c0:Nat)(l0:List (S158))(r:List (S160))(w:World)(hr0:Kd.C k158 w A0 l0.length l0)(hc0:l0.length≤c0)(h:Qay.f k l0=some r) :
  Calls Tryz.prog 41 #[.slice A0 l0.length c0] w fun e w'=>∃z:Value,e=.returned (z)∧Kd.R k160 160 w' w.heap.size (fun _=>True) z r∧Below w.heap.size w w':=by
 have hu158:=Tryz.underlying158;have E:=QA hr0;have U:=QA hc0;clear hr0 hc0;have HB:=QA (Below.refl w.heap.size w);have H:(Qay.l0 k ([]:List (S160)) l0 (l0.length:Int) 0)=some r:=h;clear h;have H':=QA H;clear H
 go_enter Tryz.func41,Tryz.ntmps41
 go_wp2
 go_loopg [3,8] k (fun kq v3 v8 w'=>∃(l:List (S160)) (a:Int),v8=.int .i64 a∧Aside0 (Qay.l0 kq l l0 (l0.length:Int) a=some r)∧Aside0 (kq≤k)∧Aside0 (Kd.R k160 160 w' w.heap.size (fun _=>True) v3 l)∧Aside0 (Below w.heap.size w w'))
 case atStart=>exact⟨(([]:List (S160))),(0),qq_4,H',⟨Nat.le_refl _⟩,⟨by first|exact Kd.R_nil _ _ _ _ _|exact Kd.N_nil _ _ _ _ _|exact Kd.V_nil _ _ _ _ _|exact Kd.Q_nil _ _ _ _ _|exact Kd.S_nil _ _ _ _ _⟩,⟨qq_b⟩⟩
 case round =>
  clear H';obtain⟨l,a,rfl,HA,HK1,m,HB⟩:=hrel
  cases gk with
  | zero=>exact absurd HA.out (by simp[Qay.l0])
  | succ k1 =>
   have H:=HA.out;clear HA;simp only[Qay.l0]at H
   by_cases c2:a<(l0.length:Int)
   ·rw [if_pos c2]at H;have A:=decide_eq_true c2;clear c2
    by_cases c3:0≤a
    ·rw[if_pos c3]at H;have M:=decide_eq_true c3;clear c3
     by_cases c4:a<(l0.length:Int)
     ·rw[if_pos c4]at H;have O:=decide_eq_true c4;clear c4
      by_cases c5:l.length<8796093022208
      ·rw[if_pos c5]at H;have B:=QA c5;clear c5;obtain⟨u,d⟩:∃y_:List (S160),y_=(l++[(⟨(Qjc l0 a).f0,(Qjc l0 a).f1⟩:S160)]):=⟨_,rfl⟩;replace H:(Qay.l0 k1 u l0 (l0.length:Int) (wrap64 (a+1)))=some r:=by first |(rw[d];with_reducible exact H) |(have v:=(Option.bind_some _ _).symm.trans H;rw[d];with_reducible exact v) |(have v:=(Option.bind_some _ _).symm.trans H;with_reducible exact v)|with_reducible exact H |(rw[d];exact H)|exact H
       have x:=QA d;clear d;have H':=QA H;clear H;have s:0≤(a:Int):=of_decide_eq_true qq_6;have t:a<(l0.length:Int):=of_decide_eq_true qq_6;obtain⟨J,D,n,q⟩:=Qjd E.out a s t
       cases D
       replace n:=qq_h HB.out n;replace q:=qq_h HB.out q;replace s:=eq_true s;replace t:=eq_true t
       go_wp2_with (first |((with_reducible refine Qfn (N:=5) rfl ?_);refine qq_e 5 #[.int .u64 0,.int .u8 0] 158 ?_;intro j hg w6 hbox hb;have n_:=qn5 (Kd.R_below qq_7 hb) (Qfd qq_b hb) (hbox) (qq_s hg:w.heap.size≤j) (qq_s hg:w.heap.size≤j);clear m HB;obtain⟨m,HB,c,K,L⟩:=n_;clear hb hbox hg;obtain⟨G,I⟩:=qc2 c.out;have P:=Qdp c.out) |((with_reducible refine Qig (b:=.append) (xs:=#[.tmp 12,.tmp 14]) rfl ?_);at_builtin;refine Kd.R_append k160 (w0:=w) w.heap.size rfl (.tmp 12) (.tmp 14) 84 160 (.agg #[(.int .u64 0),(.int .u8 0)]) 16 rfl Tryz.underlying84 info160 rfl (by decide) (by omega) u3 l (⟨(Qjc l0 a).f0,(Qjc l0 a).f1⟩:S160) [.int .u64 ((Qjc l0 a).f0),.int .u8 ((Qjc l0 a).f1)] (fun _=>True) (fun _=>False) rfl qq_10 ?aP (fun _ hk=>hk.elim) ?aF ?aO ?aB ?aS ?aL ?_;(case aP=>exact Qjg _ _ _ (⟨(Qjc l0 a).f0,(Qjc l0 a).f1⟩:S160));(case aB=>exact qq_b);(case aF=>exact(fun _ _=>trivial));(case aO=>exact(by(with_reducible repeat(first|apply Kd.R_alloc|apply Kd.R_drewN|apply Kd.R_drew));exact Kd.R_mono (Kd.R_far (p:=⟨j,1,none⟩) (Kd.R_far (p:=⟨j,0,none⟩) (Kd.R_types m.out c.out (by decide)) (fun _ hk=>hk.2) (.int .u64 ((Qjc l0 a).f0))) (fun _ hk=>hk.2) (.int .u8 ((Qjc l0 a).f1))) (fun _ hk=>trivial)));(case aS=>exact(Qfc qq_b));(case aL=>have:=B.out;omega);intro T w8 ho hb hg hat;rw[← x.out]at ho;have n_:=qn3 (Qdq (g:=j) (o:=.cells #[.int .u64 ((Qjc l0 a).f0),.int .u8 ((Qjc l0 a).f1)] 158 (0,0)) qq_x hg (Kd.R_ne m.out c.out (by decide))) (hb) (ho);clear c HB m;obtain⟨c,HB,y⟩:=n_;clear ho hb hg hat))
       go_roundg k1
       case measure=>have:=HK1.out;omega
       case rel=>exact⟨(u),(wrap64 (a+1)),qq_4,H',⟨by have:=HK1.out;omega⟩,⟨by(with_reducible repeat(first|apply Kd.R_alloc|apply Kd.R_drewN|apply Kd.R_drew));exact y.out⟩,⟨qq_b⟩⟩
      ·rw[if_neg c5]at H;exact absurd H (by simp)
     ·rw[if_neg c4]at H;exact absurd H (by simp)
    ·rw[if_neg c3]at H;exact absurd H (by simp)
   ·rw[if_neg c2]at H;have A:=decide_eq_false c2;clear c2;obtain rfl:=Option.some.inj H;go_wp2;go_ret
    exact⟨_,by first|rfl |(simp[Qik,Qil]<;>rfl) |(simp[*,Qik,Qil]<;>rfl),by(with_reducible repeat(first|apply Kd.R_alloc|apply Kd.R_drewN|apply Kd.R_drew));exact m.out,qq_b⟩
mutual
def Qbm.l0:Nat→ByteArray→List (S160)→Int→ByteArray→Int→Option (ByteArray)
 | 0,_,_,_,_,_=>none
 | k+1,x0,x1,x2,x7,x8=>if x8<(x0.size:Int)then(if x2≥0 then(Qbm.j1 k x0 x1 x2 x7 x8 (decide (x8≥x2)))else(Qbm.j1 k x0 x1 x2 x7 x8 false))else(some x7)
def Qbm.j1:Nat→ByteArray→List (S160)→Int→ByteArray→Int→Bool→Option (ByteArray)
 | 0,_,_,_,_,_,_=>none
 | k+1,x0,x1,x2,x7,x8,x24=>if x24=true then(some x7)else(if 0≤x8 then(if x8≤(wrap64 (x8+1))then(if(wrap64 (x8+1))≤(x0.size:Int)then(Qbm.l1 k x0 x1 x2 x7 x8 (x0.extract (x8:Int).toNat ((wrap64 (x8+1)):Int).toNat) x1 (x1.length:Int) 0)else(none))else(none))else(none))
def Qbm.l1:Nat→ByteArray→List (S160)→Int→ByteArray→Int→ByteArray→List (S160)→Int→Int→Option (ByteArray)
 | 0,_,_,_,_,_,_,_,_,_=>none
 | k+1,x0,x1,x2,x7,x8,x9,x30,x31,x32=>if x32<x31 then(if 0≤x32 then(if x32<(x30.length:Int)then(if((Qjh x30 x32).f0)=(IntKind.u64.wrap (x8))then(Qbm.l1 k x0 x1 x2 x7 x8 (strOfNums (([(Qjh x30 x32).f1]:List Int))) x30 x31 (wrap64 (x32+1)))else(Qbm.l1 k x0 x1 x2 x7 x8 x9 x30 x31 (wrap64 (x32+1))))else(none))else(none))else(if x7.size+x9.size≤9223372036854775807 then(Qbm.l0 k x0 x1 x2 (x7++x9) (wrap64 (x8+1)))else(none))
end
def Qbm.f(k:Nat)(a0:ByteArray)(l1:List (S160))(a2:Int):Option (ByteArray):=Qbm.l0 k a0 l1 a2 (⟨#[]⟩:ByteArray) 0
theorem Qbm.calls (k:Nat) (a0:ByteArray) (A1:Option Addr) (c1:Nat) (l1:List (S160)) (a2:Int) (r:ByteArray) (w:World) (hr1:Kd.C k160 w A1 l1.length l1) (hc1:l1.length≤c1) (h:Qbm.f k a0 l1 a2=some r) :
  Calls Tryz.prog 40 #[.string a0,.slice A1 l1.length c1,.int .i64 a2] w fun e w'=>e=.returned (.string r)∧Below w.heap.size w w':=by
 have hu160:=Tryz.underlying160;have ab:=QA hr1;have ax:=QA hc1;clear hr1 hc1;have HB:=QA (Below.refl w.heap.size w);have H:(Qbm.l0 k a0 l1 a2 (⟨#[]⟩:ByteArray) 0)=some r:=h;clear h;have H':=QA H;clear H
 go_enter Tryz.func40,Tryz.ntmps40
 go_wp2
 go_loopg [7,8] k (fun kq v7 v8 w'=>∃(j:ByteArray) (b:Int),v7=.string j∧v8=.int .i64 b∧Aside0 (Qbm.l0 kq a0 l1 a2 j b=some r)∧Aside0 (kq≤k)∧Aside0 (Below w.heap.size w w'))
 case atStart=>exact⟨((⟨#[]⟩:ByteArray)),(0),qq_4,qq_4,H',⟨Nat.le_refl _⟩,⟨qq_b⟩⟩
 case round =>
  clear H'
  try clear c1
  obtain⟨j,b,rfl,rfl,HA,HK1,HB⟩:=hrel
  cases gk with
  | zero=>exact absurd HA.out (by simp[Qbm.l0])
  | succ k1 =>
   have H:=HA.out;clear HA;simp only[Qbm.l0]at H
   by_cases c4:b<(a0.size:Int)
   ·rw [if_pos c4]at H;have A:=decide_eq_true c4;clear c4;have I:=QA H;clear H
    go_upto_region 5 with(fail)
    go_cut [24] (fun ak wc=>∃(kq:Nat) (u:Bool),ak=.bool u∧Aside0 (Qbm.j1 kq a0 l1 a2 j b u=some r)∧Aside0 (kq≤k1)∧Aside0 (Below w.heap.size w wc))
    case first =>
     have H:=I.out;clear I
     by_cases c6:a2≥0
     ·rw[if_pos c6]at H;have n:decide (0≤a2)=true:=decide_eq_true c6;clear c6
      (first|rw[n] |(simp only[Qgk,Qgl];rw[n])|skip)
      have H':=QA H;clear H;go_wp2
      go_meet
      case rel=>exact⟨_,(decide (b≥a2)),qq_4,H',⟨by have:=HK1.out;first|omega|exact Nat.le_refl _⟩,⟨qq_b⟩⟩
     ·rw[if_neg c6]at H;have n:decide (0≤a2)=false:=decide_eq_false c6;clear c6
      (first|rw[n] |(simp only[Qgk,Qgl];rw[n])|skip)
      have H':=QA H;clear H;go_wp2
      go_meet
      case rel=>exact⟨_,(false),qq_4,H',⟨by have:=HK1.out;first|omega|exact Nat.le_refl _⟩,⟨qq_b⟩⟩
    case rest =>
     clear I
     try clear c1
     try clear c4
     try clear A
     try clear c6
     try clear n
     obtain⟨kq,u,rfl,HA,HJ4,HB⟩:=hcut
     cases kq with
     | zero=>exact absurd HA.out (by simp[Qbm.j1])
     | succ kj4 =>
      have H:=HA.out;clear HA;simp only[Qbm.j1]at H
      by_cases c7:u=true
      ·subst c7;rw[if_pos rfl]at H;obtain rfl:=Option.some.inj H;go_wp2;go_ret
       exact⟨qq_5,qq_b⟩
      ·replace c7:=Bool.eq_false_iff.mpr c7;subst c7;rw[if_neg (show ¬(false=true)by decide)]at H
       by_cases c8:0≤b
       ·rw [if_pos c8]at H;have ac:=eq_true c8;have ad:=decide_eq_true c8;clear c8
        by_cases c9:b≤(wrap64 (b+1))
        ·rw [if_pos c9]at H;have ae:=eq_true c9;have af:=decide_eq_true c9
         by_cases c10:(wrap64 (b+1))≤(a0.size:Int)
         ·rw [if_pos c10]at H;have L:=eq_true c10;have O:=decide_eq_true c10;have H':=QA H;clear H;go_wp2
          go_loopg [9,32] kj4 (fun kq v9 al w'=>∃(p:ByteArray) (a:Int),v9=.string p∧al=.int .i64 a∧Aside0 (Qbm.l1 kq a0 l1 a2 j b p l1 (l1.length:Int) a=some r)∧Aside0 (kq≤kj4)∧Aside0 (Below w.heap.size w w'))
          case atStart=>exact⟨(a0.extract (b:Int).toNat ((wrap64 (b+1)):Int).toNat),(0),qq_4,qq_4,H',⟨Nat.le_refl _⟩,⟨qq_b⟩⟩
          case round =>
           clear H'
           try clear c1
           try clear c4
           try clear A
           try clear c6
           try clear n
           try clear c7
           try clear c8
           try clear ac
           try clear ad
           try clear c9
           try clear ae
           try clear af
           try clear c10
           try clear L
           try clear O
           obtain⟨p,a,rfl,rfl,HA,HK3,HB⟩:=hrel
           cases gk with
           | zero=>exact absurd HA.out (by simp[Qbm.l1])
           | succ k3 =>
            have H:=HA.out;clear HA;simp only[Qbm.l1]at H
            by_cases y:a<(l1.length:Int)
            ·rw [if_pos y]at H;have T:=decide_eq_true y;clear y
             by_cases D:0≤a
             ·rw[if_pos D]at H;have am:=decide_eq_true D;clear D
              by_cases E:a<(l1.length:Int)
              ·rw[if_pos E]at H;have an:=decide_eq_true E;clear E
               by_cases v:((Qjh l1 a).f0)=(IntKind.u64.wrap (b))
               ·rw[if_pos v]at H;have U:(((Qjh l1 a).f0) == (IntKind.u64.wrap (b)))=true:=beq_iff_eq.mpr v;have W:(((Qjh l1 a).f0) != (IntKind.u64.wrap (b)))=false:=bne_eq_false_iff_eq.mpr v;clear v;obtain⟨J,t⟩:∃y_:List Int,y_=(([(Qjh l1 a).f1]:List Int)):=⟨_,rfl⟩;replace H:(Qbm.l1 k3 a0 l1 a2 j b (strOfNums J) l1 (l1.length:Int) (wrap64 (a+1)))=some r:=by first |(rw[t];with_reducible exact H) |(have K:=(Option.bind_some _ _).symm.trans H;rw[t];with_reducible exact K) |(have K:=(Option.bind_some _ _).symm.trans H;with_reducible exact K)|with_reducible exact H |(rw[t];exact H)|exact H
                have G:=QA t;clear t;have H':=QA H;clear H;have q:0≤(a:Int):=of_decide_eq_true qq_6;have s:a<(l1.length:Int):=of_decide_eq_true qq_6;obtain⟨X,B,c,d⟩:=Qji ab.out a q s
                cases B
                replace c:=qq_h HB.out c;replace d:=qq_h HB.out d;replace q:=eq_true q;replace s:=eq_true s
                go_wp2_with (first |((with_reducible refine Qfn (N:=11) rfl ?_);refine qq_e 11 #[.int .u64 0,.int .u8 0] 160 ?_;intro m hg ay hbox hb;have n_:=qn4 (Qfd qq_b hb) (hbox) (qq_s hg:w.heap.size≤m) (qq_s hg:w.heap.size≤m);clear HB;obtain⟨HB,l,Y,Z⟩:=n_;clear hb hbox hg;obtain⟨ag,ah⟩:=qc2 l.out;have ao:=Qdp l.out) |((with_reducible refine Qfn (N:=43) rfl ?_);refine Kd.R_lit (Kd.int .u8) _ 5 ?hg (N:=43) ?hd (xs:=([(Qjh l1 a).f1]:List Int)) (inner:=[.int .u8 ((Qjh l1 a).f1)]) (ok:=fun _=>True) (okp:=fun _=>True) ?hr ?hp (fun _ hk=>hk) trivial (Below.refl _ _) (Nat.le_refl _) (by simp) ?_;(case hd=>rfl);(case hg=>rfl);(case hr=>exact qq_10);(case hp=>exact(Reps.one (show Kd.M (Kd.int .u8) _ _ _ ((Qjh l1 a).f1) [.int .u8 ((Qjh l1 a).f1)] from rfl) (Reps.none _ _)));intro aw az x hb hg_ hnew_;clear hg_ hnew_;(first|rw[← G.out]at x |(simp only[Int.reduceToNat]at x;rw[← G.out]at x));have n_:=qn3 (Kd.R_lower x (Qfc qq_b)) (Qed (g:=m) (o:=.cells #[.int .u64 ((Qjh l1 a).f0),.int .u8 ((Qjh l1 a).f1)] 160 (0,0)) qq_x hb) (Qfd qq_b hb);clear l HB;obtain⟨aa,l,HB⟩:=n_;clear hb x;have ap:=Qcz (P:=Tryz.prog) Tryz.underlying40 Tryz.underlying5 Tryz.underlying9 (Kd.own_of_R aa.out)))
                go_roundg k3
                case measure=>have:=HK1.out;have:=HJ4.out;have:=HK3.out;omega
                case rel=>exact⟨(strOfNums J),(wrap64 (a+1)),qq_4,qq_4,H',⟨by have:=HK1.out;have:=HJ4.out;have:=HK3.out;omega⟩,⟨qq_b⟩⟩
               ·rw[if_neg v]at H;have U:(((Qjh l1 a).f0) == (IntKind.u64.wrap (b)))=false:=beq_eq_false_iff_ne.mpr v;have W:(((Qjh l1 a).f0) != (IntKind.u64.wrap (b)))=true:=bne_iff_ne.mpr v;have H':=QA H;clear H;have q:0≤(a:Int):=of_decide_eq_true qq_6;have s:a<(l1.length:Int):=of_decide_eq_true qq_6;obtain⟨X,B,c,d⟩:=Qji ab.out a q s
                cases B
                replace c:=qq_h HB.out c;replace d:=qq_h HB.out d;replace q:=eq_true q;replace s:=eq_true s
                go_wp2_with (first |((with_reducible refine Qfn (N:=11) rfl ?_);refine qq_e 11 #[.int .u64 0,.int .u8 0] 160 ?_;intro m hg aA hbox hb;have n_:=qn4 (Qfd qq_b hb) (hbox) (qq_s hg:w.heap.size≤m) (qq_s hg:w.heap.size≤m);clear HB;obtain⟨HB,l,Y,Z⟩:=n_;clear hb hbox hg;obtain⟨ai,aj⟩:=qc2 l.out;have aq:=Qdp l.out))
                go_roundg k3
                case measure=>have:=HK1.out;have:=HJ4.out;have:=HK3.out;omega
                case rel=>exact⟨(p),(wrap64 (a+1)),qq_4,qq_4,H',⟨by have:=HK1.out;have:=HJ4.out;have:=HK3.out;omega⟩,⟨qq_b⟩⟩
              ·rw[if_neg E]at H;exact absurd H (by simp)
             ·rw[if_neg D]at H;exact absurd H (by simp)
            ·rw[if_neg y]at H;have T:=decide_eq_false y;clear y
             by_cases z:j.size+p.size≤9223372036854775807
             ·rw[if_pos z]at H;have ar:=eq_true z;have au:=decide_eq_true z
              try have av:(9223372036854775807<j.size+p.size)=False:=eq_false (Nat.not_lt.2 z)
              have H':=QA H;clear H;go_wp2
              go_roundg k3
              case measure=>have:=HK1.out;have:=HJ4.out;have:=HK3.out;omega
              case rel=>exact⟨(j++p),(wrap64 (b+1)),qq_4,qq_4,H',⟨by have:=HK1.out;have:=HJ4.out;have:=HK3.out;omega⟩,⟨qq_b⟩⟩
             ·rw[if_neg z]at H;exact absurd H (by simp)
         ·rw[if_neg c10]at H;exact absurd H (by simp)
        ·rw[if_neg c9]at H;exact absurd H (by simp)
       ·rw[if_neg c8]at H;exact absurd H (by simp)
   ·rw[if_neg c4]at H;have A:=decide_eq_false c4;clear c4;obtain rfl:=Option.some.inj H;go_wp2;go_ret
    exact⟨qq_5,qq_b⟩
end Go.Proofs.YteaocbonofboeaaGreat.C
end
