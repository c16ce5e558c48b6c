/- Merged texts. -/
import Derived.Test.YtepkfjmjidjedaaGreatMB02
import Derived.Test.YtepkfjmjidjedaaGreatMB03
set_option linter.unusedVariables false
set_option linter.unusedSimpArgs false
set_option maxHeartbeats 8000000
set_option maxRecDepth 100000
section
namespace Go.Proofs.YtepkfjmjidjedaaGreat.C
open Go.RowKit Go.Proofs.YtepkfjmjidjedaaGreatW.PrintWords Go.Proofs.YtepkfjmjidjedaaGreatW.PrintLast Go.Proofs.YtepkfjmjidjedaaGreatW.PrintMore
attribute [local go_sem] Qhj Qhk Qhl Qhm Qhn Qho Qhp Qhq
def Qcf.f(k:Nat)(a0_0:Int)(a0_1:Int)(a1_0:Int)(a1_1:Int):Option (Int):=(Qag.f a0_0 a1_0).bind fun t213=>((Qaf.f a0_1 a1_1).bind fun t214=>((Qah.f k (([t213,t214]:List Int))).bind fun t218=>(some t218)))
def Qcf.T1:Bool × List (List Nat × List Nat):=(true,[([],[]),([0],[0]),([],[]),([2],[2]),([1,3],[1,3]),([],[]),([5],[5]),([],[]),([7],[7]),([6,8,4],[6,8]),([4,9],[4,9]),([10,9],[10]),([11,11,0,1,2,3,4,5,6,7,8,9,10,11],[11])])
def Qcf.B1:List Nat:=[0,1,0,4,15,0,32,0,128,511,1023,2047,4095]
theorem Qcf.tab1:rtab .any (Qhf Tryz.f148 1)=Qcf.T1:=by kernel_rfl
theorem Qcf.bits1:Qgz Qcf.T1.2 Qcf.B1=true:=by kernel_rfl
theorem Qcf.calls(k:Nat)(j:Int)(l:Int)(p:Int)(q:Int)(r:Int)(w:World)(h:Qcf.f k j l p q=some r) :
  Calls Tryz.prog 148 #[.agg #[.int .u64 j,.int .u32 l],.agg #[.int .u64 p,.int .u32 q]] w fun e w'=>e=.returned (.int .i64 r)∧Below w.heap.size w w':=by
 have hu177:=Tryz.underlying177;have HB:=QA (Below.refl w.heap.size w);have H:((Qag.f j p).bind fun s=>((Qaf.f l q).bind fun t=>((Qah.f k (([s,t]:List Int))).bind fun v=>(some v))))=some r:=h;clear h;replace H:=Option.bind_eq_some_iff.mp H;obtain⟨s,D,H⟩:=H;have A3:=QA D;clear D;replace H:=Option.bind_eq_some_iff.mp H;obtain⟨t,E,H⟩:=H;have A4:=QA E;clear E;obtain⟨z,u⟩:∃y_:List Int,y_=(([s,t]:List Int)):=⟨_,rfl⟩;replace H:((Qah.f k z).bind fun v=>(some v))=some r:=by first |(rw[u];with_reducible exact H) |(have B:=(Option.bind_some _ _).symm.trans H;rw[u];with_reducible exact B) |(have B:=(Option.bind_some _ _).symm.trans H;with_reducible exact B)|with_reducible exact H |(rw[u];exact H)|exact H
 have A:=QA u;clear u;replace H:=Option.bind_eq_some_iff.mp H;obtain⟨v,G,H⟩:=H;have A5:=QA G;clear G;obtain rfl:=Option.some.inj H
 go_enter Tryz.func148,Tryz.ntmps148
 try go_wp2_with (first |((with_reducible refine Qfe (N:=2) rfl ?_);refine qq_e 2 #[.int .u64 j,.int .u32 l] 177 ?_;intro c hg w6 hbox hb;have n_:=qn4 (Qeu qq_b hb) (hbox) (qq_s hg:w.heap.size≤c) (qq_s hg:w.heap.size≤c);clear HB;obtain⟨HB,a,L,O⟩:=n_;clear hb hbox hg) |((with_reducible refine Qfe (N:=3) rfl ?_);refine qq_e 3 #[.int .u64 p,.int .u32 q] 177 ?_;intro m hg w7 hbox hb;have n_:=qn7 (Qdy (g:=c) (o:=.cells #[.int .u64 j,.int .u32 l] 177 (0,0)) qq_0 hb) (Qeu qq_b hb) (hbox) (qq_s hg:w.heap.size≤m) (qq_s hg:w.heap.size≤m) ((by rw[hg];exact Nat.ne_of_lt (Qdk (g:=c) (o:=.cells #[.int .u64 j,.int .u32 l] 177 (0,0)) qq_0):c≠m)) ((by rw[hg];exact Nat.ne_of_gt (Qdk (g:=c) (o:=.cells #[.int .u64 j,.int .u32 l] 177 (0,0)) qq_0):m≠c));clear a HB;obtain⟨a,HB,b,P,T,I,J⟩:=n_;clear hb hbox hg))
 have n_:=qn3 (Qdw a.out) (Qdw b.out) (Qfb HB.out);clear a b HB;obtain⟨a,b,HB⟩:=n_;refine Qfp (n:=13) (S:=fun w'=>w'.cell? ⟨c,0,none⟩=some (.int .u64 j)∧w'.cell? ⟨c,1,none⟩=some (.int .u32 l)∧w'.cell? ⟨m,0,none⟩=some (.int .u64 p)∧w'.cell? ⟨m,1,none⟩=some (.int .u32 q)) (ds:=[]) (bm 13 0) qq_6 rfl rfl ⟨(Qdl a.out 0).trans rfl,(Qdl a.out 1).trans rfl,(Qdl b.out 0).trans rfl,(Qdl b.out 1).trans rfl⟩ (fun d=>?_);refine Qhd Qcf.tab1 Qcf.bits1 (fun HT_ HW_=>?_);generalize w7.drew=w8 at a b HB d ⊢;refine pz_ (i:=0) (N:=some 5) (bm 13 1) (Qgw HT_.out qq_6) ?_;refine pz_ (i:=2) (N:=some 7) (bm 13 5) (Qgw HT_.out qq_6) ?_;refine pz_ (i:=5) (N:=some 10) (bm 13 37) (Qgw HT_.out qq_6) ?_;refine pz_ (i:=7) (N:=some 12) (bm 13 165) (Qgw HT_.out qq_6) ?_;refine tz_ (i:=1) (N:=some 6) (bm 13 167) (Qhc HT_.out HW_.out qq_6) d ?_;refine tz_ (i:=3) (N:=some 8) (bm 13 175) (Qhc HT_.out HW_.out qq_6) d ?_;refine tz_ (i:=6) (N:=some 11) (bm 13 239) (Qhc HT_.out HW_.out qq_6) d ?_;refine tz_ (i:=8) (N:=some 13) (bm 13 495) (Qhc HT_.out HW_.out qq_6) d ?_;refine one_ (i:=4) (N:=some 9) (bm 13 511) rfl rfl (Qgx HT_.out qq_6) (by decide) (fun K hK=>?_);refine Qfy Tryz.func74 qq_6 rfl #[.int .u64 j,.int .u64 p] (by rfl) rfl rfl qq_2 ?_;with_reducible refine(Qag.calls j p s _ A3.out).mono ?_
 rintro e w' ⟨rfl,⟨nd,rfl⟩⟩;refine⟨_,rfl,?_⟩;refine hK.out _ _ ⟨(Qdl a.out 0).trans rfl,(Qdl a.out 1).trans rfl,(Qdl b.out 0).trans rfl,(Qdl b.out 1).trans rfl⟩ (fun d=>?_);clear hK K;refine nzp_ 9 ?_;refine one_ (i:=9) (N:=some 14) (bm 13 1023) rfl rfl (Qgx HT_.out qq_6) (by decide) (fun K hK=>?_);refine Qfy Tryz.func207 qq_6 rfl #[.int .u32 l,.int .u32 q] (by rfl) rfl rfl qq_2 ?_;with_reducible refine(Qaf.calls l q t _ A4.out).mono ?_
 rintro e w' ⟨rfl,⟨nd,rfl⟩⟩;refine⟨_,rfl,?_⟩;refine hK.out _ _ ⟨(Qdl a.out 0).trans rfl,(Qdl a.out 1).trans rfl,(Qdl b.out 0).trans rfl,(Qdl b.out 1).trans rfl⟩ (fun d=>?_);clear hK K;refine nzp_ 14 ?_;refine one_ (i:=10) (N:=some 15) (bm 13 2047) rfl rfl (Qgx HT_.out qq_6) (by decide) (fun K hK=>?_);refine Kd.R_lit_step (Kd.int .i64) _ 3 ?hg (N:=15) ?hd (xs:=([s,t]:List Int)) (inner:=[.int .i64 s,.int .i64 t]) (ok:=fun _=>True) (okp:=fun _=>True) ?hr ?hp (fun _ hk=>hk) trivial (Below.refl _ _) (Nat.le_refl _) (by simp) ?_;(case hd=>rfl);(case hg=>rfl);(case hr=>exact qq_19);(case hp=>exact(Reps.one (show Kd.M (Kd.int .i64) _ _ _ s [.int .i64 s] from rfl) (Reps.one (show Kd.M (Kd.int .i64) _ _ _ t [.int .i64 t] from rfl) (Reps.none _ _))));intro U w9 x hb hg_ hnew_;clear hg_ hnew_
 (first|rw[← A.out]at x |(simp only[Int.reduceToNat]at x;rw[← A.out]at x))
 have n_:=qn4 (Kd.R_lower x (Qet qq_b)) (Qdy (g:=c) (o:=.cells #[.int .u64 j,.int .u32 l] 177 (0,0)) qq_0 hb) (Qdy (g:=m) (o:=.cells #[.int .u64 p,.int .u32 q] 177 (0,0)) qq_0 hb) (Qeu qq_b hb);clear a b HB;obtain⟨y,a,b,HB⟩:=n_;clear hb x;obtain⟨Ao11,co11,eo11⟩:=Kd.R_slice y.out
 (first|subst eo11 |(injection eo11 with f1_ f2_ f3_;have f4_:=f1_.symm;have f5_:=f3_.symm;clear f1_ f2_ f3_;subst f4_;subst f5_))
 refine hK.out _ _ ⟨(Qdl a.out 0).trans rfl,(Qdl a.out 1).trans rfl,(Qdl b.out 0).trans rfl,(Qdl b.out 1).trans rfl⟩ (fun d=>?_);clear hK K;refine nzp_ 15 ?_;refine one_ (i:=11) (N:=some 16) (bm 13 4095) rfl rfl (Qgx HT_.out qq_6) (by decide) (fun K hK=>?_);refine Qfy Tryz.func206 qq_6 rfl #[.slice Ao11 z.length co11] (by rfl) rfl rfl qq_2 ?_;with_reducible refine(Qah.calls k _ _ z v _ ?side1 ?side2 A5.out).mono ?_
 (case side1=>repeat(first|exact(Kd.R_reads' y.out).2.2 |(with_reducible refine Kd.C_alloc ?_ _) |(with_reducible refine Kd.C_drewN ?_ _) |(with_reducible refine Kd.C_drew ?_)))
 (case side2=>exact(Kd.R_reads' y.out).2.1)
 rintro e w' ⟨rfl,⟨nd,rfl⟩⟩;refine⟨_,rfl,?_⟩;refine hK.out _ _ ⟨(Qdl a.out 0).trans rfl,(Qdl a.out 1).trans rfl,(Qdl b.out 0).trans rfl,(Qdl b.out 1).trans rfl⟩ (fun d=>?_);clear hK K;refine nzp_ 16 ?_;refine pz_ (i:=12) (N:=some 4) (bm 13 8191) (Qgw HT_.out qq_6) ?_;refine Qfs (Qgy HT_.out qq_6) ?_
 try go_wp2
 go_ret
 exact⟨qq_5,qq_b⟩
def Qcg.l0:Nat→List (S177)→Int→Option (Bool)
 | 0,_,_=>none
 | k+1,x0,x3=>if x3<(x0.length:Int)then(if 0≤(wrap64 (x3-1))then(if(wrap64 (x3-1))<(x0.length:Int)then(if 0≤x3 then((Qcf.f k ((Qih x0 (wrap64 (x3-1))).f0) ((Qih x0 (wrap64 (x3-1))).f1) ((Qih x0 x3).f0) ((Qih x0 x3).f1)).bind fun t223=>(if t223≥0 then(some false)else(Qcg.l0 k x0 (wrap64 (x3+1)))))else(none))else(none))else(none))else(some true)
def Qcg.f(k:Nat)(l0:List (S177)):Option (Bool):=Qcg.l0 k l0 1
def Qcg.T4:Bool × List (List Nat × List Nat):=(true,[([],[]),([],[]),([1],[1]),([0,2],[0,2]),([3],[3]),([],[]),([],[]),([5,6],[5,6]),([7],[7]),([4,8],[4,8]),([9],[9])])
def Qcg.B4:List Nat:=[0,0,2,7,15,0,0,96,224,511,1023]
theorem Qcg.tab4:rtab .any (Qhf Tryz.f200 4)=Qcg.T4:=by kernel_rfl
theorem Qcg.bits4:Qgz Qcg.T4.2 Qcg.B4=true:=by kernel_rfl
theorem Qcg.calls (k:Nat) (A0:Option Addr) (c0:Nat) (l0:List (S177)) (r:Bool) (w:World) (hr0:Kd.C k177 w A0 l0.length l0) (hc0:l0.length≤c0) (h:Qcg.f k l0=some r) :
  Calls Tryz.prog 200 #[.slice A0 l0.length c0] w fun e w'=>e=.returned (.bool r)∧Below w.heap.size w w':=by
 have hu177:=Tryz.underlying177;have y:=QA hr0;have J:=QA hc0;clear hr0 hc0;have HB:=QA (Below.refl w.heap.size w);have H:(Qcg.l0 k l0 1)=some r:=h;clear h;have H':=QA H;clear H
 go_enter Tryz.func200,Tryz.ntmps200
 go_wp2
 go_loopg [3] k (fun kq v3 w'=>∃(x3_1:Int),v3=.int .i64 x3_1∧Aside0 (Qcg.l0 kq l0 x3_1=some r)∧Aside0 (kq≤k)∧Aside0 (Below w.heap.size w w'))
 case atStart=>exact⟨(1),qq_7,H',⟨Nat.le_refl _⟩,⟨qq_b⟩⟩
 case round =>
  clear H';obtain⟨x3_1,rfl,HA,HK1,HB⟩:=hrel
  cases gk with
  | zero=>exact absurd HA.out (by simp[Qcg.l0])
  | succ k1 =>
   have H:=HA.out;clear HA;simp only[Qcg.l0]at H
   by_cases c2:x3_1<(l0.length:Int)
   ·rw [if_pos c2]at H;have A:=decide_eq_true c2;clear c2;obtain⟨a,t⟩:∃j_:Int,(wrap64 (x3_1-1))=j_:=⟨_,rfl⟩;replace H:(if 0≤(a)then(if(a)<(l0.length:Int)then(if 0≤x3_1 then((Qcf.f k1 ((Qih l0 (a)).f0) ((Qih l0 (a)).f1) ((Qih l0 x3_1).f0) ((Qih l0 x3_1).f1)).bind fun m=>(if m≥0 then(some false)else(Qcg.l0 k1 l0 (wrap64 (x3_1+1)))))else(none))else(none))else(none))=some r:=by first |(rw[t]at H;exact H) |(simp only[t]at H ⊢;exact H)
    have D:(IntKind.i64.wrap (x3_1-1))=a:=(Qgb _).trans t
    by_cases c4:0≤(a)
    ·rw [if_pos c4]at H;have E:=decide_eq_true c4;clear c4
     by_cases c5:(a)<(l0.length:Int)
     ·rw[if_pos c5]at H;have G:=decide_eq_true c5;clear c5
      by_cases c6:0≤x3_1
      ·rw[if_pos c6]at H;have I:=decide_eq_true c6;clear c6;replace H:=Option.bind_eq_some_iff.mp H;obtain⟨m,z,H⟩:=H;have A7:=QA z;clear z
       by_cases c8:m≥0
       ·rw[if_pos c8]at H;have B:decide (0≤m)=true:=decide_eq_true c8;clear c8;obtain rfl:=Option.some.inj H
        try go_wp2
        have n_:=qn1 (Qfb HB.out);clear HB;have HB:=n_;clear n_;have o:0≤((a):Int):=of_decide_eq_true qq_4;have p:(a)<(l0.length:Int):=of_decide_eq_true qq_4;obtain⟨b,v,c,d⟩:=Qii y.out (a) o p;have hw221_1:=d;have hw221_0:=c
        cases v
        replace c:=qq_h HB.out c;replace d:=qq_h HB.out d;replace o:=eq_true o;replace p:=eq_true p;have q:0≤(x3_1:Int):=of_decide_eq_true qq_4;have s:x3_1<(l0.length:Int):=of_decide_eq_true qq_4;obtain⟨u,x,g,j⟩:=Qii y.out x3_1 q s;have hw222_1:=j;have hw222_0:=g;obtain rfl:b=u:=(by injection x);replace g:=qq_h HB.out g;replace j:=qq_h HB.out j;replace q:=eq_true q;replace s:=eq_true s;refine Qfp (n:=11) (S:=fun w'=>w'.cell? (b.add (((a)).toNat*2))=some (.int .u64 ((Qih l0 (a)).f0))∧w'.cell? ⟨(b.add (((a)).toNat*2)).block,(b.add (((a)).toNat*2)).off+1,none⟩=some (.int .u32 ((Qih l0 (a)).f1))∧w'.cell? (b.add ((x3_1).toNat*2))=some (.int .u64 ((Qih l0 x3_1).f0))∧w'.cell? ⟨(b.add ((x3_1).toNat*2)).block,(b.add ((x3_1).toNat*2)).off+1,none⟩=some (.int .u32 ((Qih l0 x3_1).f1))) (ds:=[]) (bm 11 0) qq_6 rfl rfl ⟨((HB.out.cell (World.block_lt_of_cell? w _ hw221_0)).trans hw221_0),((HB.out.cell (World.block_lt_of_cell? w _ hw221_1)).trans hw221_1),((HB.out.cell (World.block_lt_of_cell? w _ hw222_0)).trans hw222_0),((HB.out.cell (World.block_lt_of_cell? w _ hw222_1)).trans hw222_1)⟩ (fun l=>?_);refine Qhd Qcg.tab4 Qcg.bits4 (fun HT_ HW_=>?_);generalize wr.drew=w9 at HB c d g j l ⊢;refine pz_ (i:=0) (N:=some 10) (bm 11 1) (Qgw HT_.out qq_6) ?_;refine pz_ (i:=1) (N:=some 11) (bm 11 3) (Qgw HT_.out qq_6) ?_;refine pz_ (i:=2) (N:=some 12) (bm 11 7) (Qgw HT_.out qq_6) ?_;refine pz_ (i:=3) (N:=some 13) (bm 11 15) (Qgw HT_.out qq_6) ?_;refine pz_ (i:=5) (N:=some 15) (bm 11 47) (Qgw HT_.out qq_6) ?_;refine pz_ (i:=6) (N:=some 16) (bm 11 111) (Qgw HT_.out qq_6) ?_;refine pz_ (i:=7) (N:=some 17) (bm 11 239) (Qgw HT_.out qq_6) ?_;refine tz_ (i:=4) (N:=some 14) (bm 11 255) (Qhc HT_.out HW_.out qq_6) l ?_;refine tz_ (i:=8) (N:=some 18) (bm 11 511) (Qhc HT_.out HW_.out qq_6) l ?_;refine one_ (i:=9) (N:=some 19) (bm 11 1023) rfl rfl (Qgx HT_.out qq_6) (by decide) (fun K hK=>?_);refine Qfy Tryz.func148 qq_6 rfl #[.agg #[.int .u64 ((Qih l0 (a)).f0),.int .u32 ((Qih l0 (a)).f1)],.agg #[.int .u64 ((Qih l0 x3_1).f0),.int .u32 ((Qih l0 x3_1).f1)]] (by rfl) rfl rfl (by(try simp only[List.map_toArray,List.map_cons,List.map_nil]);first|done |(simp only[t];rfl)|rfl |(simp only[List.length_drop,List.length_take];rfl)) ?_;with_reducible refine(Qcf.calls k1 ((Qih l0 (a)).f0) ((Qih l0 (a)).f1) ((Qih l0 x3_1).f0) ((Qih l0 x3_1).f1) m _ A7.out).mono ?_
        rintro e L ⟨rfl,hb⟩;refine⟨_,rfl,?_⟩;have n_:=qn1 (Qeu qq_b hb);clear HB;have HB:=n_;clear n_
        (try clear hb)
        (try clear hb2)
        (try clear hk)
        (try clear hi)
        refine hK.out _ _ ⟨((HB.out.cell (World.block_lt_of_cell? w _ hw221_0)).trans hw221_0),((HB.out.cell (World.block_lt_of_cell? w _ hw221_1)).trans hw221_1),((HB.out.cell (World.block_lt_of_cell? w _ hw222_0)).trans hw222_0),((HB.out.cell (World.block_lt_of_cell? w _ hw222_1)).trans hw222_1)⟩ (fun l=>?_);clear hK K;refine nzp_ 19 ?_;refine pz_ (i:=10) (N:=some 20) (bm 11 2047) (Qgw HT_.out qq_6) ?_;refine Qfs (Qgy HT_.out qq_6) ?_
        try go_wp2
        go_ret
        exact⟨by first|rfl |(simp[Qhv,Qhw]<;>rfl) |(simp only[← t];first|rfl |(simp[Qhv,Qhw]<;>rfl)) |(simp[*,Qhv,Qhw]<;>rfl),qq_b⟩
       ·rw[if_neg c8]at H;have B:decide (0≤m)=false:=decide_eq_false c8;clear c8;have H':=QA H;clear H
        try go_wp2
        have n_:=qn1 (Qfb HB.out);clear HB;have HB:=n_;clear n_;have o:0≤((a):Int):=of_decide_eq_true qq_4;have p:(a)<(l0.length:Int):=of_decide_eq_true qq_4;obtain⟨b,v,c,d⟩:=Qii y.out (a) o p;have hw221_1:=d;have hw221_0:=c
        cases v
        replace c:=qq_h HB.out c;replace d:=qq_h HB.out d;replace o:=eq_true o;replace p:=eq_true p;have q:0≤(x3_1:Int):=of_decide_eq_true qq_4;have s:x3_1<(l0.length:Int):=of_decide_eq_true qq_4;obtain⟨u,x,g,j⟩:=Qii y.out x3_1 q s;have hw222_1:=j;have hw222_0:=g;obtain rfl:b=u:=(by injection x);replace g:=qq_h HB.out g;replace j:=qq_h HB.out j;replace q:=eq_true q;replace s:=eq_true s;refine Qfp (n:=11) (S:=fun w'=>w'.cell? (b.add (((a)).toNat*2))=some (.int .u64 ((Qih l0 (a)).f0))∧w'.cell? ⟨(b.add (((a)).toNat*2)).block,(b.add (((a)).toNat*2)).off+1,none⟩=some (.int .u32 ((Qih l0 (a)).f1))∧w'.cell? (b.add ((x3_1).toNat*2))=some (.int .u64 ((Qih l0 x3_1).f0))∧w'.cell? ⟨(b.add ((x3_1).toNat*2)).block,(b.add ((x3_1).toNat*2)).off+1,none⟩=some (.int .u32 ((Qih l0 x3_1).f1))) (ds:=[]) (bm 11 0) qq_6 rfl rfl ⟨((HB.out.cell (World.block_lt_of_cell? w _ hw221_0)).trans hw221_0),((HB.out.cell (World.block_lt_of_cell? w _ hw221_1)).trans hw221_1),((HB.out.cell (World.block_lt_of_cell? w _ hw222_0)).trans hw222_0),((HB.out.cell (World.block_lt_of_cell? w _ hw222_1)).trans hw222_1)⟩ (fun l=>?_);refine Qhd Qcg.tab4 Qcg.bits4 (fun HT_ HW_=>?_);generalize wr.drew=w11 at HB c d g j l ⊢;refine pz_ (i:=0) (N:=some 10) (bm 11 1) (Qgw HT_.out qq_6) ?_;refine pz_ (i:=1) (N:=some 11) (bm 11 3) (Qgw HT_.out qq_6) ?_;refine pz_ (i:=2) (N:=some 12) (bm 11 7) (Qgw HT_.out qq_6) ?_;refine pz_ (i:=3) (N:=some 13) (bm 11 15) (Qgw HT_.out qq_6) ?_;refine pz_ (i:=5) (N:=some 15) (bm 11 47) (Qgw HT_.out qq_6) ?_;refine pz_ (i:=6) (N:=some 16) (bm 11 111) (Qgw HT_.out qq_6) ?_;refine pz_ (i:=7) (N:=some 17) (bm 11 239) (Qgw HT_.out qq_6) ?_;refine tz_ (i:=4) (N:=some 14) (bm 11 255) (Qhc HT_.out HW_.out qq_6) l ?_;refine tz_ (i:=8) (N:=some 18) (bm 11 511) (Qhc HT_.out HW_.out qq_6) l ?_;refine one_ (i:=9) (N:=some 19) (bm 11 1023) rfl rfl (Qgx HT_.out qq_6) (by decide) (fun K hK=>?_);refine Qfy Tryz.func148 qq_6 rfl #[.agg #[.int .u64 ((Qih l0 (a)).f0),.int .u32 ((Qih l0 (a)).f1)],.agg #[.int .u64 ((Qih l0 x3_1).f0),.int .u32 ((Qih l0 x3_1).f1)]] (by rfl) rfl rfl (by(try simp only[List.map_toArray,List.map_cons,List.map_nil]);first|done |(simp only[t];rfl)|rfl |(simp only[List.length_drop,List.length_take];rfl)) ?_;with_reducible refine(Qcf.calls k1 ((Qih l0 (a)).f0) ((Qih l0 (a)).f1) ((Qih l0 x3_1).f0) ((Qih l0 x3_1).f1) m _ A7.out).mono ?_
        rintro e M ⟨rfl,hb⟩;refine⟨_,rfl,?_⟩;have n_:=qn1 (Qeu qq_b hb);clear HB;have HB:=n_;clear n_
        (try clear hb)
        (try clear hb2)
        (try clear hk)
        (try clear hi)
        refine hK.out _ _ ⟨((HB.out.cell (World.block_lt_of_cell? w _ hw221_0)).trans hw221_0),((HB.out.cell (World.block_lt_of_cell? w _ hw221_1)).trans hw221_1),((HB.out.cell (World.block_lt_of_cell? w _ hw222_0)).trans hw222_0),((HB.out.cell (World.block_lt_of_cell? w _ hw222_1)).trans hw222_1)⟩ (fun l=>?_);clear hK K;refine nzp_ 19 ?_;refine pz_ (i:=10) (N:=some 20) (bm 11 2047) (Qgw HT_.out qq_6) ?_;refine Qfs (Qgy HT_.out qq_6) ?_
        try go_wp2
        go_roundg k1
        case measure=>have:=HK1.out;omega
        case rel=>exact⟨(wrap64 (x3_1+1)),qq_7,H',⟨by have:=HK1.out;omega⟩,⟨qq_b⟩⟩
      ·rw[if_neg c6]at H;exact absurd H (by simp)
     ·rw[if_neg c5]at H;exact absurd H (by simp)
    ·rw[if_neg c4]at H;exact absurd H (by simp)
   ·rw[if_neg c2]at H;have A:=decide_eq_false c2;clear c2;obtain rfl:=Option.some.inj H;go_wp2;go_ret
    exact⟨qq_5,qq_b⟩
theorem eqA177(d:Nat)(w:World)(x0 y0:Int)(x1 y1:Int) :
  (Op.equalIn (d+2) 177 (.agg #[.int .u64 x0,.int .u32 x1]) (.agg #[.int .u64 y0,.int .u32 y1])).run Tryz.prog w=.ok (x0 == y0 && (x1 == y1)) w:=by
 refine eqA_of Tryz.underlying177 qq_6 ?_;refine Qhh (by rfl) (by go_simp;rfl) (by go_simp;rfl) (by go_simp) ?_;exact Qhg (by rfl) (by go_simp;rfl) (by go_simp;rfl) (by go_simp)
def Qbc.f(a0_0:ByteArray)(a0_1:ByteArray):Option (Int):=if a0_0.toList=([]:List UInt8)then(some 4)else(if(a0_0.size:Int) > 4096 then(some 3)else(if(a0_1.size:Int) > 1048576 then(some 3)else(some 0)))
theorem Qbc.calls(a:ByteArray)(d:ByteArray)(r:Int)(w:World)(h:Qbc.f a d=some r) :
  Calls Tryz.prog 64 #[.agg #[.string a,.string d]] w fun e w'=>e=.returned (.int .i64 r)∧Below w.heap.size w w':=by
 have hu134:=Tryz.underlying134;have HB:=QA (Below.refl w.heap.size w);have H:(if a.toList=([]:List UInt8)then(some 4)else(if(a.size:Int) > 4096 then(some 3)else(if(d.size:Int) > 1048576 then(some 3)else(some 0))))=some r:=h;clear h
 by_cases c2:a.toList=([]:List UInt8)
 ·rw[if_pos c2]at H;have k:(a.toList == ([]:List UInt8))=true:=beq_iff_eq.mpr c2;have l:(a.toList != ([]:List UInt8))=false:=bne_eq_false_iff_eq.mpr c2;clear c2;obtain rfl:=Option.some.inj H
  go_enter Tryz.func64,Tryz.ntmps64
  go_wp2_with (first |((with_reducible refine Qfe (N:=1) rfl ?_);(try(refine Qhi (by rfl) ?_;dsimp only));refine qq_e 1 #[.string a,.string d] 134 ?_;intro b hg w3 hbox hb;have n_:=qn4 (Qeu qq_b hb) (hbox) (qq_s hg:w.heap.size≤b) (qq_s hg:w.heap.size≤b);clear HB;obtain⟨HB,c,g,j⟩:=n_;clear hb hbox hg;obtain⟨v,x⟩:=qc2 c.out;have D:=Qdm c.out))
  go_ret
  exact⟨qq_5,qq_b⟩
 ·rw[if_neg c2]at H;have k:(a.toList == ([]:List UInt8))=false:=beq_eq_false_iff_ne.mpr c2;have l:(a.toList != ([]:List UInt8))=true:=bne_iff_ne.mpr c2
  by_cases c5:(a.size:Int) > 4096
  ·rw[if_pos c5]at H;have m:decide (4096<(a.size:Int))=true:=decide_eq_true c5;have n:decide (4096<a.size)=true:=decide_eq_true (by omega);clear c5;obtain rfl:=Option.some.inj H
   go_enter Tryz.func64,Tryz.ntmps64
   go_wp2_with (first |((with_reducible refine Qfe (N:=1) rfl ?_);(try(refine Qhi (by rfl) ?_;dsimp only));refine qq_e 1 #[.string a,.string d] 134 ?_;intro b hg w6 hbox hb;have n_:=qn4 (Qeu qq_b hb) (hbox) (qq_s hg:w.heap.size≤b) (qq_s hg:w.heap.size≤b);clear HB;obtain⟨HB,c,g,j⟩:=n_;clear hb hbox hg;obtain⟨y,z⟩:=qc2 c.out;have E:=Qdm c.out))
   go_ret
   exact⟨qq_5,qq_b⟩
  ·rw[if_neg c5]at H;have m:decide (4096<(a.size:Int))=false:=decide_eq_false c5;have n:decide (4096<a.size)=false:=decide_eq_false (by omega);clear c5
   by_cases c8:(d.size:Int) > 1048576
   ·rw[if_pos c8]at H;have o:decide (1048576<(d.size:Int))=true:=decide_eq_true c8;have p:decide (1048576<d.size)=true:=decide_eq_true (by omega);clear c8;obtain rfl:=Option.some.inj H
    go_enter Tryz.func64,Tryz.ntmps64
    go_wp2_with (first |((with_reducible refine Qfe (N:=1) rfl ?_);(try(refine Qhi (by rfl) ?_;dsimp only));refine qq_e 1 #[.string a,.string d] 134 ?_;intro b hg w9 hbox hb;have n_:=qn4 (Qeu qq_b hb) (hbox) (qq_s hg:w.heap.size≤b) (qq_s hg:w.heap.size≤b);clear HB;obtain⟨HB,c,g,j⟩:=n_;clear hb hbox hg;obtain⟨q,s⟩:=qc2 c.out;have A:=Qdm c.out))
    go_ret
    exact⟨qq_5,qq_b⟩
   ·rw[if_neg c8]at H;have o:decide (1048576<(d.size:Int))=false:=decide_eq_false c8;have p:decide (1048576<d.size)=false:=decide_eq_false (by omega);clear c8;obtain rfl:=Option.some.inj H
    go_enter Tryz.func64,Tryz.ntmps64
    go_wp2_with (first |((with_reducible refine Qfe (N:=1) rfl ?_);(try(refine Qhi (by rfl) ?_;dsimp only));refine qq_e 1 #[.string a,.string d] 134 ?_;intro b hg G hbox hb;have n_:=qn4 (Qeu qq_b hb) (hbox) (qq_s hg:w.heap.size≤b) (qq_s hg:w.heap.size≤b);clear HB;obtain⟨HB,c,g,j⟩:=n_;clear hb hbox hg;obtain⟨t,u⟩:=qc2 c.out;have B:=Qdm c.out))
    go_ret
    exact⟨qq_5,qq_b⟩
def Qaw.l0:Nat→Int→ByteArray→Int→Int→Option (ByteArray)
 | 0,_,_,_,_=>none
 | k+1,x0,x5,x6,x7=>if x7<x6 then((some (([(Int.tmod x0 256)%256]:List Int):List Int)).bind fun y314=>(if x5.size+(strOfNums y314).size≤9223372036854775807 then(Qaw.l0 k (IntKind.u64.wrap (Int.tdiv x0 256)) (x5++(strOfNums y314)) x6 (wrap64 (x7+1)))else(none)))else(some x5)
def Qaw.f(k:Nat)(a0:Int)(a1:Int):Option (ByteArray):=Qaw.l0 k a0 (⟨#[]⟩:ByteArray) a1 0
theorem Qaw.calls(k:Nat)(a0:Int)(a1:Int)(r:ByteArray)(w:World)(h:Qaw.f k a0 a1=some r) :
  Calls Tryz.prog 119 #[.int .u64 a0,.int .i64 a1] w fun e w'=>e=.returned (.string r)∧Below w.heap.size w w':=by
 have HB:=QA (Below.refl w.heap.size w);have H:(Qaw.l0 k a0 (⟨#[]⟩:ByteArray) a1 0)=some r:=h;clear h;have H':=QA H;clear H
 go_enter Tryz.func119,Tryz.ntmps119
 go_wp2
 go_loopg [0,5,7] k (fun kq v0 v5 v7 w'=>∃(a:Int) (b:ByteArray) (d:Int),v0=.int .u64 a∧v5=.string b∧v7=.int .i64 d∧Aside0 (Qaw.l0 kq a b a1 d=some r)∧Aside0 (kq≤k)∧Aside0 (Below w.heap.size w w'))
 case atStart=>exact⟨(a0),((⟨#[]⟩:ByteArray)),(0),qq_7,qq_7,qq_7,H',⟨Nat.le_refl _⟩,⟨qq_b⟩⟩
 case round =>
  clear H';obtain⟨a,b,d,rfl,rfl,rfl,HA,HK1,HB⟩:=hrel
  cases gk with
  | zero=>exact absurd HA.out (by simp[Qaw.l0])
  | succ k1 =>
   have H:=HA.out;clear HA;simp only[Qaw.l0]at H
   by_cases c3:d<a1
   ·rw[if_pos c3]at H;have o:=decide_eq_true c3;clear c3;obtain⟨g,c⟩:∃y_:List Int,y_=(([(Int.tmod a 256)%256]:List Int)):=⟨_,rfl⟩;replace H:(if b.size+(strOfNums g).size≤9223372036854775807 then(Qaw.l0 k1 (IntKind.u64.wrap (Int.tdiv a 256)) (b++(strOfNums g)) a1 (wrap64 (d+1)))else(none))=some r:=by first |(rw[c];with_reducible exact H) |(have m:=(Option.bind_some _ _).symm.trans H;rw[c];with_reducible exact m) |(have m:=(Option.bind_some _ _).symm.trans H;with_reducible exact m)|with_reducible exact H |(rw[c];exact H)|exact H
    have l:=QA c;clear c
    by_cases c4:b.size+(strOfNums g).size≤9223372036854775807
    ·rw[if_pos c4]at H;have p:=eq_true c4;have q:=decide_eq_true c4
     try have s:(9223372036854775807<b.size+(strOfNums g).size)=False:=eq_false (Nat.not_lt.2 c4)
     have H':=QA H;clear H
     go_wp2_with (first |((with_reducible refine Qfe (N:=13) rfl ?_);refine Kd.R_lit (Kd.int .u8) _ 5 ?hg (N:=13) ?hd (xs:=([(Int.tmod a 256)%256]:List Int)) (inner:=[.int .u8 ((Int.tmod a 256)%256)]) (ok:=fun _=>True) (okp:=fun _=>True) ?hr ?hp (fun _ hk=>hk) trivial (Below.refl _ _) (Nat.le_refl _) (by simp) ?_;(case hd=>rfl);(case hg=>rfl);(case hr=>exact qq_19);(case hp=>exact(Reps.one (show Kd.M (Kd.int .u8) _ _ _ ((Int.tmod a 256)%256) [.int .u8 ((Int.tmod a 256)%256)] from rfl) (Reps.none _ _)));intro t w5 j hb hg_ hnew_;clear hg_ hnew_;(first|rw[← l.out]at j |(simp only[Int.reduceToNat]at j;rw[← l.out]at j));have n_:=qn2 (Kd.R_lower j (Qet qq_b)) (Qeu qq_b hb);clear HB;obtain⟨n,HB⟩:=n_;clear hb j;have u:=Qcw (P:=Tryz.prog) Tryz.underlying47 Tryz.underlying5 Tryz.underlying9 (Kd.own_of_R n.out)))
     go_roundg k1
     case measure=>have:=HK1.out;omega
     case rel=>exact⟨(IntKind.u64.wrap (Int.tdiv a 256)),(b++(strOfNums g)),(wrap64 (d+1)),qq_7,qq_7,qq_7,H',⟨by have:=HK1.out;omega⟩,⟨qq_b⟩⟩
    ·rw[if_neg c4]at H;exact absurd H (by simp)
   ·rw[if_neg c3]at H;have o:=decide_eq_false c3;clear c3;obtain rfl:=Option.some.inj H;go_wp2;go_ret
    exact⟨qq_5,qq_b⟩
def Qbb.l0:Nat→Int→Int→Int→Option (Int)
 | 0,_,_,_=>none
 | k+1,x0,x5,x6=>if x6<x5 then(Qbb.l0 k (IntKind.u64.wrap ((Int.tmod (IntKind.u64.wrap (2*x0)) 4294967296)+(IntKind.u64.wrap (Int.tdiv x0 2147483648)))) x5 (wrap64 (x6+1)))else(some x0)
def Qbb.f(k:Nat)(a0:Int)(a1:Int):Option (Int):=Qbb.l0 k a0 a1 0
theorem Qbb.calls(k:Nat)(a0:Int)(a1:Int)(r:Int)(w:World)(h:Qbb.f k a0 a1=some r) :
  Calls Tryz.prog 178 #[.int .u64 a0,.int .i64 a1] w fun e w'=>e=.returned (.int .u64 r)∧Drawn0 w w':=by
 have H:(Qbb.l0 k a0 a1 0)=some r:=h;clear h;have H':=QA H;clear H
 go_enter Tryz.func178,Tryz.ntmps178
 go_wp2
 go_loopg [0,6] k (fun kq v0 v6 w'=>∃(a:Int) (b:Int),v0=.int .u64 a∧v6=.int .i64 b∧Aside0 (Qbb.l0 kq a a1 b=some r)∧Aside0 (kq≤k)∧Drawn0 w w')
 case atStart=>exact⟨(a0),(0),qq_7,qq_7,H',⟨Nat.le_refl _⟩,by repeat(first|exact Drawn0.refl _|apply Drawn0.step)⟩
 case round =>
  clear H';obtain⟨a,b,rfl,rfl,HA,HK1,⟨m1,rfl⟩⟩:=hrel
  cases gk with
  | zero=>exact absurd HA.out (by simp[Qbb.l0])
  | succ k1 =>
   have H:=HA.out;clear HA;simp only[Qbb.l0]at H
   by_cases c3:b<a1
   ·rw[if_pos c3]at H;have c:=decide_eq_true c3;clear c3;have H':=QA H;clear H;go_wp2
    go_roundg k1
    case measure=>have:=HK1.out;omega
    case rel=>exact⟨(IntKind.u64.wrap ((Int.tmod (IntKind.u64.wrap (2*a)) 4294967296)+(IntKind.u64.wrap (Int.tdiv a 2147483648)))),(wrap64 (b+1)),qq_7,qq_7,H',⟨by have:=HK1.out;omega⟩,by repeat(first|exact Drawn0.refl _|apply Drawn0.step)⟩
   ·rw[if_neg c3]at H;have c:=decide_eq_false c3;clear c3;obtain rfl:=Option.some.inj H;go_wp2;go_ret
    exact⟨by first|rfl |(simp;done) |(simp[*];done),by repeat(first|exact Drawn0.refl _|apply Drawn0.step)⟩
def Qaz.f(k:Nat)(a0:Int)(a1:Int):Option (Int):=(Qbb.f k (Int.tmod (IntKind.u64.wrap (a0+(IntKind.u64.wrap (a1*2246822519)))) 4294967296) 13).bind fun t317=>(some (Int.tmod (IntKind.u64.wrap (t317*2654435761)) 4294967296))
theorem Qaz.calls(k:Nat)(a0:Int)(a1:Int)(r:Int)(w:World)(h:Qaz.f k a0 a1=some r) :
  Calls Tryz.prog 177 #[.int .u64 a0,.int .u64 a1] w fun e w'=>e=.returned (.int .u64 r)∧Drawn0 w w':=by
 have H:((Qbb.f k (Int.tmod (IntKind.u64.wrap (a0+(IntKind.u64.wrap (a1*2246822519)))) 4294967296) 13).bind fun t317=>(some (Int.tmod (IntKind.u64.wrap (t317*2654435761)) 4294967296)))=some r:=h;clear h;replace H:=Option.bind_eq_some_iff.mp H;obtain⟨t317,A30,H⟩:=H;have A3:=QA A30;clear A30;obtain rfl:=Option.some.inj H
 go_enter Tryz.func177,Tryz.ntmps177
 go_wp2_with (first |((with_reducible refine Qhr (f:=178) rfl ?_);refine Qfz (some 10) rfl rfl Tryz.func178 qq_6 rfl #[.int .u64 (Int.tmod (IntKind.u64.wrap (a0+(IntKind.u64.wrap (a1*2246822519)))) 4294967296),.int .i64 13] rfl qq_2 ?_;(with_reducible refine(Qbb.calls k (Int.tmod (IntKind.u64.wrap (a0+(IntKind.u64.wrap (a1*2246822519)))) 4294967296) 13 t317 _ A3.out).mono ?_);rintro e w' ⟨rfl,⟨nd,rfl⟩⟩;refine⟨_,rfl,?_⟩))
 go_ret
 exact⟨by first|rfl |(simp;done) |(simp[*];done),by repeat(first|exact Drawn0.refl _|apply Drawn0.step)⟩
def Qba.l0:Nat→Int→Int→Int→Int→Option (Int)
 | 0,_,_,_,_=>none
 | k+1,x0,x5,x7,x8=>if x8<x7 then(Qba.l0 k x0 (IntKind.u64.wrap (Int.tdiv x5 2)) x7 (wrap64 (x8+1)))else(some (Go.bits .xor .u64 x0 x5))
def Qba.f(k:Nat)(a0:Int)(a1:Int):Option (Int):=Qba.l0 k a0 a0 a1 0
theorem Qba.calls(k:Nat)(a0:Int)(a1:Int)(r:Int)(w:World)(h:Qba.f k a0 a1=some r) :
  Calls Tryz.prog 179 #[.int .u64 a0,.int .i64 a1] w fun e w'=>e=.returned (.int .u64 r)∧Drawn0 w w':=by
 have H:(Qba.l0 k a0 a0 a1 0)=some r:=h;clear h;have H':=QA H;clear H
 go_enter Tryz.func179,Tryz.ntmps179
 go_wp2
 go_loopg [5,8] k (fun kq v5 v8 w'=>∃(b:Int) (a:Int),v5=.int .u64 b∧v8=.int .i64 a∧Aside0 (Qba.l0 kq a0 b a1 a=some r)∧Aside0 (kq≤k)∧Drawn0 w w')
 case atStart=>exact⟨(a0),(0),qq_7,qq_7,H',⟨Nat.le_refl _⟩,by repeat(first|exact Drawn0.refl _|apply Drawn0.step)⟩
 case round =>
  clear H';obtain⟨b,a,rfl,rfl,HA,HK1,⟨m1,rfl⟩⟩:=hrel
  cases gk with
  | zero=>exact absurd HA.out (by simp[Qba.l0])
  | succ k1 =>
   have H:=HA.out;clear HA;simp only[Qba.l0]at H
   by_cases c3:a<a1
   ·rw[if_pos c3]at H;have c:=decide_eq_true c3;clear c3;have H':=QA H;clear H;go_wp2
    go_roundg k1
    case measure=>have:=HK1.out;omega
    case rel=>exact⟨(IntKind.u64.wrap (Int.tdiv b 2)),(wrap64 (a+1)),qq_7,qq_7,H',⟨by have:=HK1.out;omega⟩,by repeat(first|exact Drawn0.refl _|apply Drawn0.step)⟩
   ·rw[if_neg c3]at H;have c:=decide_eq_false c3;clear c3;obtain rfl:=Option.some.inj H;go_wp2;go_ret
    exact⟨by first|rfl |(simp;done) |(simp[*];done),by repeat(first|exact Drawn0.refl _|apply Drawn0.step)⟩
def Qbh.l0:Nat→List (S36)→Int→List (S36)→Int→Int→Option (Bool)
 | 0,_,_,_,_,_=>none
 | k+1,x0,x1,x10,x11,x12=>if x12<x11 then(if 0≤x12 then(if x12<(x10.length:Int)then(if 0≤x1 then(if x1<(x0.length:Int)then(if((Qic x10 x12).f2).toList=((Qic x0 x1).f2).toList then(some true)else(Qbh.l0 k x0 x1 x10 x11 (wrap64 (x12+1))))else(none))else(none))else(none))else(none))else(some false)
def Qbh.f(k:Nat)(l0:List (S36))(a1:Int):Option (Bool):=if 0≤(wrap64 (a1+1))then(if(wrap64 (a1+1))≤(l0.length:Int)then((some (l0.drop ((wrap64 (a1+1)):Int).toNat:List (S36))).bind fun y270=>(Qbh.l0 k l0 a1 y270 (y270.length:Int) 0))else(none))else(none)
theorem Qbh.calls (k:Nat) (A0:Option Addr) (c0:Nat) (l0:List (S36)) (a1:Int) (r:Bool) (w:World) (hr0:Kd.C k36 w A0 l0.length l0) (hc0:l0.length≤c0) (h:Qbh.f k l0 a1=some r) :
  Calls Tryz.prog 129 #[.slice A0 l0.length c0,.int .i64 a1] w fun e w'=>e=.returned (.bool r)∧Below w.heap.size w w':=by
 have hu36:=Tryz.underlying36;have Z:=QA hr0;have aD:=QA hc0;clear hr0 hc0;have HB:=QA (Below.refl w.heap.size w);have H:(if 0≤(wrap64 (a1+1))then(if(wrap64 (a1+1))≤(l0.length:Int)then((some (l0.drop ((wrap64 (a1+1)):Int).toNat:List (S36))).bind fun d=>(Qbh.l0 k l0 a1 d (d.length:Int) 0))else(none))else(none))=some r:=h;clear h;obtain⟨z,aa⟩:∃j_:Int,(wrap64 (a1+1))=j_:=⟨_,rfl⟩;replace H:(if 0≤(z)then(if(z)≤(l0.length:Int)then((some (l0.drop ((z):Int).toNat:List (S36))).bind fun d=>(Qbh.l0 k l0 a1 d (d.length:Int) 0))else(none))else(none))=some r:=by first |(rw[aa]at H;exact H) |(simp only[aa]at H ⊢;exact H)
 have aF:(IntKind.i64.wrap (a1+1))=z:=(Qgb _).trans aa
 by_cases c4:0≤(z)
 ·rw [if_pos c4]at H;have ay:=eq_true c4;have az:=decide_eq_true c4;clear c4
  by_cases c5:(z)≤(l0.length:Int)
  ·rw [if_pos c5]at H;have aA:=eq_true c5;have aB:=decide_eq_true c5;clear c5;obtain⟨d,X⟩:∃y_:List (S36),y_=(l0.drop ((z):Int).toNat):=⟨_,rfl⟩;replace H:(Qbh.l0 k l0 a1 d (d.length:Int) 0)=some r:=by first |(rw[X];with_reducible exact H) |(have ar:=(Option.bind_some _ _).symm.trans H;rw[X];with_reducible exact ar) |(have ar:=(Option.bind_some _ _).symm.trans H;with_reducible exact ar)|with_reducible exact H |(rw[X];exact H)|exact H
   have al:=QA X;clear X;have H':=QA H;clear H;have q6:((z):Int)≤((l0.length:Int):Int):=of_decide_eq_true qq_4;obtain⟨aL,hi06,_,hsz6,_⟩:=info_parts Qhy;have hroom6:l0.length≤c0:=aD.out;have hC6:Kd.C k36 _ A0 l0.length l0:=Z.out;have ax:(0:Int)≤((z):Int):=of_decide_eq_true qq_4;have hcut6:=Qej (P:=Tryz.prog) 22 36 .i64 Tryz.underlying22 hi06 4 hsz6 A0 l0.length c0 (z) ax q6;have hr6:=Kd.C_drop (m:=((z):Int).toNat) (c:=c0) hC6 (by omega) hroom6;obtain⟨A6,hA6⟩:∃A1,A1=(if c0=((z):Int).toNat then A0 else(A0:Option Addr).map (·.add (((z):Int).toNat*4))):=⟨_,rfl⟩;obtain⟨c6,hc6⟩:∃c1,c1=c0-((z):Int).toNat:=⟨_,rfl⟩;have am:d.length=l0.length-((z):Int).toNat:=(by rw[al.out,List.length_drop]<;>omega);rw[show(l0).drop ((z):Int).toNat=d from al.out.symm]at hr6;replace hr6:Kd.C k36 _ A6 d.length d:=(by rw[hA6];exact hr6);rw[← am,← hA6,← hc6]at hcut6;have an:=QA hr6;have aG:=QA (show d.length≤c6 from by rw[am,hc6];exact Nat.sub_le_sub_right hroom6 _);clear hr6 hC6 hroom6 hi06 hsz6 hc6;have KY6:=QA am;have KA6:=QA hA6;clear am hA6;replace q6:=eq_true q6
   go_enter Tryz.func129,Tryz.ntmps129
   go_wp2
   repeat(go_quiet (fail);try go_wp2)
   go_loopg [12] k (fun kq aE w'=>∃(b:Int),aE=.int .i64 b∧Aside0 (Qbh.l0 kq l0 a1 d (d.length:Int) b=some r)∧Aside0 (kq≤k)∧Aside0 (Below w.heap.size w w'))
   case atStart=>exact⟨(0),qq_7,H',⟨Nat.le_refl _⟩,⟨qq_b⟩⟩
   case round =>
    clear H'
    try clear c1
    try clear c4
    try clear ay
    try clear az
    try clear c5
    try clear aA
    try clear aB
    try clear c6
    try clear q6
    try clear ax
    try clear q6
    obtain⟨b,rfl,HA,HK1,HB⟩:=hrel
    cases gk with
    | zero=>exact absurd HA.out (by simp[Qbh.l0])
    | succ k1 =>
     have H:=HA.out;clear HA;simp only[Qbh.l0]at H
     by_cases c7:b<(d.length:Int)
     ·rw [if_pos c7]at H;have aC:=decide_eq_true c7;clear c7
      by_cases c8:0≤b
      ·rw [if_pos c8]at H;have aJ:=decide_eq_true c8;clear c8
       by_cases c9:b<(d.length:Int)
       ·rw [if_pos c9]at H;have aK:=decide_eq_true c9;clear c9
        by_cases c10:0≤a1
        ·rw[if_pos c10]at H;have aH:=decide_eq_true c10;clear c10
         by_cases ao:a1<(l0.length:Int)
         ·rw[if_pos ao]at H;have aI:=decide_eq_true ao;clear ao
          by_cases ab:((Qic d b).f2).toList=((Qic l0 a1).f2).toList
          ·rw[if_pos ab]at H;have au:(((Qic d b).f2).toList == ((Qic l0 a1).f2).toList)=true:=beq_iff_eq.mpr ab;have av:(((Qic d b).f2).toList != ((Qic l0 a1).f2).toList)=false:=bne_eq_false_iff_eq.mpr ab;clear ab;obtain rfl:=Option.some.inj H;have U:0≤(b:Int):=of_decide_eq_true qq_4;have W:b<(d.length:Int):=of_decide_eq_true qq_4;obtain⟨aw,ak,E,G,I,J⟩:=Qid an.out b U W
           cases ak
           replace E:=qq_h HB.out E;replace G:=qq_h HB.out G;replace I:=qq_h HB.out I;replace J:=qq_h HB.out J;replace U:=eq_true U;replace W:=eq_true W
           go_wp2_with (first |((with_reducible refine Qfe (N:=6) rfl ?_);refine qq_e 6 #[.bool false,.int .u64 0,.string (⟨#[]⟩:ByteArray),.string (⟨#[]⟩:ByteArray)] 36 ?_;intro a hg B hbox hb;have n_:=qn4 (Qeu qq_b hb) (hbox) (qq_s hg:w.heap.size≤a) (qq_s hg:w.heap.size≤a);clear HB;obtain⟨HB,t,n,Y⟩:=n_;clear hb hbox hg;obtain⟨ac,ad,ae,af⟩:=qc4 t.out;have ap:=Qdm t.out;have q:0≤(a1:Int):=of_decide_eq_true qq_4;have s:a1<(l0.length:Int):=of_decide_eq_true qq_4;obtain⟨o,A,hx276_0,g,j,l⟩:=Qid Z.out a1 q s;cases A;have u:o.block≠a:=Nat.ne_of_lt (Nat.lt_of_lt_of_le qq_10 n.out);have v:o.block≠a:=Nat.ne_of_lt (Nat.lt_of_lt_of_le qq_10 n.out);have x:o.block≠a:=Nat.ne_of_lt (Nat.lt_of_lt_of_le qq_10 n.out);have y:o.block≠a:=Nat.ne_of_lt (Nat.lt_of_lt_of_le qq_10 n.out);replace hx276_0:=qq_h HB.out hx276_0;replace g:=qq_h HB.out g;replace j:=qq_h HB.out j;replace l:=qq_h HB.out l;replace hx276_0:=(Qez (p:=⟨a,0,none⟩) qq_3 (.bool ((Qic d b).f0))).trans hx276_0;replace g:=(Qez (p:=⟨a,0,none⟩) qq_3 (.bool ((Qic d b).f0))).trans g;replace j:=(Qez (p:=⟨a,0,none⟩) qq_3 (.bool ((Qic d b).f0))).trans j;replace l:=(Qez (p:=⟨a,0,none⟩) qq_3 (.bool ((Qic d b).f0))).trans l;replace hx276_0:=(Qez (p:=⟨a,1,none⟩) qq_3 (.int .u64 ((Qic d b).f1))).trans hx276_0;replace g:=(Qez (p:=⟨a,1,none⟩) qq_3 (.int .u64 ((Qic d b).f1))).trans g;replace j:=(Qez (p:=⟨a,1,none⟩) qq_3 (.int .u64 ((Qic d b).f1))).trans j;replace l:=(Qez (p:=⟨a,1,none⟩) qq_3 (.int .u64 ((Qic d b).f1))).trans l;replace hx276_0:=(Qez (p:=⟨a,2,none⟩) qq_3 (.string ((Qic d b).f2))).trans hx276_0;replace g:=(Qez (p:=⟨a,2,none⟩) qq_3 (.string ((Qic d b).f2))).trans g;replace j:=(Qez (p:=⟨a,2,none⟩) qq_3 (.string ((Qic d b).f2))).trans j;replace l:=(Qez (p:=⟨a,2,none⟩) qq_3 (.string ((Qic d b).f2))).trans l;replace hx276_0:=(Qez (p:=⟨a,3,none⟩) qq_3 (.string ((Qic d b).f3))).trans hx276_0;replace g:=(Qez (p:=⟨a,3,none⟩) qq_3 (.string ((Qic d b).f3))).trans g;replace j:=(Qez (p:=⟨a,3,none⟩) qq_3 (.string ((Qic d b).f3))).trans j;replace l:=(Qez (p:=⟨a,3,none⟩) qq_3 (.string ((Qic d b).f3))).trans l;(try have L:=fun (n_:Nat)=>(show((((((B.drewN n_).setCell ⟨a,0,none⟩ (.bool ((Qic d b).f0))).setCell ⟨a,1,none⟩ (.int .u64 ((Qic d b).f1))).setCell ⟨a,2,none⟩ (.string ((Qic d b).f2))).setCell ⟨a,3,none⟩ (.string ((Qic d b).f3)))).cell? _=some _ from hx276_0));(try have M:=fun (n_:Nat)=>(show((((((B.drewN n_).setCell ⟨a,0,none⟩ (.bool ((Qic d b).f0))).setCell ⟨a,1,none⟩ (.int .u64 ((Qic d b).f1))).setCell ⟨a,2,none⟩ (.string ((Qic d b).f2))).setCell ⟨a,3,none⟩ (.string ((Qic d b).f3)))).cell? _=some _ from g));(try have O:=fun (n_:Nat)=>(show((((((B.drewN n_).setCell ⟨a,0,none⟩ (.bool ((Qic d b).f0))).setCell ⟨a,1,none⟩ (.int .u64 ((Qic d b).f1))).setCell ⟨a,2,none⟩ (.string ((Qic d b).f2))).setCell ⟨a,3,none⟩ (.string ((Qic d b).f3)))).cell? _=some _ from j));(try have T:=fun (n_:Nat)=>(show((((((B.drewN n_).setCell ⟨a,0,none⟩ (.bool ((Qic d b).f0))).setCell ⟨a,1,none⟩ (.int .u64 ((Qic d b).f1))).setCell ⟨a,2,none⟩ (.string ((Qic d b).f2))).setCell ⟨a,3,none⟩ (.string ((Qic d b).f3)))).cell? _=some _ from l));clear u v x y;replace q:=eq_true q;replace s:=eq_true s))
           repeat(go_quiet (first |((with_reducible refine Qfe (N:=6) rfl ?_);refine qq_e 6 #[.bool false,.int .u64 0,.string (⟨#[]⟩:ByteArray),.string (⟨#[]⟩:ByteArray)] 36 ?_;intro a hg B hbox hb;have n_:=qn4 (Qeu qq_b hb) (hbox) (qq_s hg:w.heap.size≤a) (qq_s hg:w.heap.size≤a);clear HB;obtain⟨HB,t,n,Y⟩:=n_;clear hb hbox hg;obtain⟨ac,ad,ae,af⟩:=qc4 t.out;have ap:=Qdm t.out;have q:0≤(a1:Int):=of_decide_eq_true qq_4;have s:a1<(l0.length:Int):=of_decide_eq_true qq_4;obtain⟨o,A,hx276_0,g,j,l⟩:=Qid Z.out a1 q s;cases A;have u:o.block≠a:=Nat.ne_of_lt (Nat.lt_of_lt_of_le qq_10 n.out);have v:o.block≠a:=Nat.ne_of_lt (Nat.lt_of_lt_of_le qq_10 n.out);have x:o.block≠a:=Nat.ne_of_lt (Nat.lt_of_lt_of_le qq_10 n.out);have y:o.block≠a:=Nat.ne_of_lt (Nat.lt_of_lt_of_le qq_10 n.out);replace hx276_0:=qq_h HB.out hx276_0;replace g:=qq_h HB.out g;replace j:=qq_h HB.out j;replace l:=qq_h HB.out l;replace hx276_0:=(Qez (p:=⟨a,0,none⟩) qq_3 (.bool ((Qic d b).f0))).trans hx276_0;replace g:=(Qez (p:=⟨a,0,none⟩) qq_3 (.bool ((Qic d b).f0))).trans g;replace j:=(Qez (p:=⟨a,0,none⟩) qq_3 (.bool ((Qic d b).f0))).trans j;replace l:=(Qez (p:=⟨a,0,none⟩) qq_3 (.bool ((Qic d b).f0))).trans l;replace hx276_0:=(Qez (p:=⟨a,1,none⟩) qq_3 (.int .u64 ((Qic d b).f1))).trans hx276_0;replace g:=(Qez (p:=⟨a,1,none⟩) qq_3 (.int .u64 ((Qic d b).f1))).trans g;replace j:=(Qez (p:=⟨a,1,none⟩) qq_3 (.int .u64 ((Qic d b).f1))).trans j;replace l:=(Qez (p:=⟨a,1,none⟩) qq_3 (.int .u64 ((Qic d b).f1))).trans l;replace hx276_0:=(Qez (p:=⟨a,2,none⟩) qq_3 (.string ((Qic d b).f2))).trans hx276_0;replace g:=(Qez (p:=⟨a,2,none⟩) qq_3 (.string ((Qic d b).f2))).trans g;replace j:=(Qez (p:=⟨a,2,none⟩) qq_3 (.string ((Qic d b).f2))).trans j;replace l:=(Qez (p:=⟨a,2,none⟩) qq_3 (.string ((Qic d b).f2))).trans l;replace hx276_0:=(Qez (p:=⟨a,3,none⟩) qq_3 (.string ((Qic d b).f3))).trans hx276_0;replace g:=(Qez (p:=⟨a,3,none⟩) qq_3 (.string ((Qic d b).f3))).trans g;replace j:=(Qez (p:=⟨a,3,none⟩) qq_3 (.string ((Qic d b).f3))).trans j;replace l:=(Qez (p:=⟨a,3,none⟩) qq_3 (.string ((Qic d b).f3))).trans l;(try have L:=fun (n_:Nat)=>(show((((((B.drewN n_).setCell ⟨a,0,none⟩ (.bool ((Qic d b).f0))).setCell ⟨a,1,none⟩ (.int .u64 ((Qic d b).f1))).setCell ⟨a,2,none⟩ (.string ((Qic d b).f2))).setCell ⟨a,3,none⟩ (.string ((Qic d b).f3)))).cell? _=some _ from hx276_0));(try have M:=fun (n_:Nat)=>(show((((((B.drewN n_).setCell ⟨a,0,none⟩ (.bool ((Qic d b).f0))).setCell ⟨a,1,none⟩ (.int .u64 ((Qic d b).f1))).setCell ⟨a,2,none⟩ (.string ((Qic d b).f2))).setCell ⟨a,3,none⟩ (.string ((Qic d b).f3)))).cell? _=some _ from g));(try have O:=fun (n_:Nat)=>(show((((((B.drewN n_).setCell ⟨a,0,none⟩ (.bool ((Qic d b).f0))).setCell ⟨a,1,none⟩ (.int .u64 ((Qic d b).f1))).setCell ⟨a,2,none⟩ (.string ((Qic d b).f2))).setCell ⟨a,3,none⟩ (.string ((Qic d b).f3)))).cell? _=some _ from j));(try have T:=fun (n_:Nat)=>(show((((((B.drewN n_).setCell ⟨a,0,none⟩ (.bool ((Qic d b).f0))).setCell ⟨a,1,none⟩ (.int .u64 ((Qic d b).f1))).setCell ⟨a,2,none⟩ (.string ((Qic d b).f2))).setCell ⟨a,3,none⟩ (.string ((Qic d b).f3)))).cell? _=some _ from l));clear u v x y;replace q:=eq_true q;replace s:=eq_true s));try go_wp2_with (first |((with_reducible refine Qfe (N:=6) rfl ?_);refine qq_e 6 #[.bool false,.int .u64 0,.string (⟨#[]⟩:ByteArray),.string (⟨#[]⟩:ByteArray)] 36 ?_;intro a hg B hbox hb;have n_:=qn4 (Qeu qq_b hb) (hbox) (qq_s hg:w.heap.size≤a) (qq_s hg:w.heap.size≤a);clear HB;obtain⟨HB,t,n,Y⟩:=n_;clear hb hbox hg;obtain⟨ac,ad,ae,af⟩:=qc4 t.out;have ap:=Qdm t.out;have q:0≤(a1:Int):=of_decide_eq_true qq_4;have s:a1<(l0.length:Int):=of_decide_eq_true qq_4;obtain⟨o,A,hx276_0,g,j,l⟩:=Qid Z.out a1 q s;cases A;have u:o.block≠a:=Nat.ne_of_lt (Nat.lt_of_lt_of_le qq_10 n.out);have v:o.block≠a:=Nat.ne_of_lt (Nat.lt_of_lt_of_le qq_10 n.out);have x:o.block≠a:=Nat.ne_of_lt (Nat.lt_of_lt_of_le qq_10 n.out);have y:o.block≠a:=Nat.ne_of_lt (Nat.lt_of_lt_of_le qq_10 n.out);replace hx276_0:=qq_h HB.out hx276_0;replace g:=qq_h HB.out g;replace j:=qq_h HB.out j;replace l:=qq_h HB.out l;replace hx276_0:=(Qez (p:=⟨a,0,none⟩) qq_3 (.bool ((Qic d b).f0))).trans hx276_0;replace g:=(Qez (p:=⟨a,0,none⟩) qq_3 (.bool ((Qic d b).f0))).trans g;replace j:=(Qez (p:=⟨a,0,none⟩) qq_3 (.bool ((Qic d b).f0))).trans j;replace l:=(Qez (p:=⟨a,0,none⟩) qq_3 (.bool ((Qic d b).f0))).trans l;replace hx276_0:=(Qez (p:=⟨a,1,none⟩) qq_3 (.int .u64 ((Qic d b).f1))).trans hx276_0;replace g:=(Qez (p:=⟨a,1,none⟩) qq_3 (.int .u64 ((Qic d b).f1))).trans g;replace j:=(Qez (p:=⟨a,1,none⟩) qq_3 (.int .u64 ((Qic d b).f1))).trans j;replace l:=(Qez (p:=⟨a,1,none⟩) qq_3 (.int .u64 ((Qic d b).f1))).trans l;replace hx276_0:=(Qez (p:=⟨a,2,none⟩) qq_3 (.string ((Qic d b).f2))).trans hx276_0;replace g:=(Qez (p:=⟨a,2,none⟩) qq_3 (.string ((Qic d b).f2))).trans g;replace j:=(Qez (p:=⟨a,2,none⟩) qq_3 (.string ((Qic d b).f2))).trans j;replace l:=(Qez (p:=⟨a,2,none⟩) qq_3 (.string ((Qic d b).f2))).trans l;replace hx276_0:=(Qez (p:=⟨a,3,none⟩) qq_3 (.string ((Qic d b).f3))).trans hx276_0;replace g:=(Qez (p:=⟨a,3,none⟩) qq_3 (.string ((Qic d b).f3))).trans g;replace j:=(Qez (p:=⟨a,3,none⟩) qq_3 (.string ((Qic d b).f3))).trans j;replace l:=(Qez (p:=⟨a,3,none⟩) qq_3 (.string ((Qic d b).f3))).trans l;(try have L:=fun (n_:Nat)=>(show((((((B.drewN n_).setCell ⟨a,0,none⟩ (.bool ((Qic d b).f0))).setCell ⟨a,1,none⟩ (.int .u64 ((Qic d b).f1))).setCell ⟨a,2,none⟩ (.string ((Qic d b).f2))).setCell ⟨a,3,none⟩ (.string ((Qic d b).f3)))).cell? _=some _ from hx276_0));(try have M:=fun (n_:Nat)=>(show((((((B.drewN n_).setCell ⟨a,0,none⟩ (.bool ((Qic d b).f0))).setCell ⟨a,1,none⟩ (.int .u64 ((Qic d b).f1))).setCell ⟨a,2,none⟩ (.string ((Qic d b).f2))).setCell ⟨a,3,none⟩ (.string ((Qic d b).f3)))).cell? _=some _ from g));(try have O:=fun (n_:Nat)=>(show((((((B.drewN n_).setCell ⟨a,0,none⟩ (.bool ((Qic d b).f0))).setCell ⟨a,1,none⟩ (.int .u64 ((Qic d b).f1))).setCell ⟨a,2,none⟩ (.string ((Qic d b).f2))).setCell ⟨a,3,none⟩ (.string ((Qic d b).f3)))).cell? _=some _ from j));(try have T:=fun (n_:Nat)=>(show((((((B.drewN n_).setCell ⟨a,0,none⟩ (.bool ((Qic d b).f0))).setCell ⟨a,1,none⟩ (.int .u64 ((Qic d b).f1))).setCell ⟨a,2,none⟩ (.string ((Qic d b).f2))).setCell ⟨a,3,none⟩ (.string ((Qic d b).f3)))).cell? _=some _ from l));clear u v x y;replace q:=eq_true q;replace s:=eq_true s)))
           go_ret
           exact⟨by first|rfl |(simp[Qhv,Qhw]<;>rfl) |(simp only[← aa];first|rfl |(simp[Qhv,Qhw]<;>rfl)) |(simp[*,Qhv,Qhw]<;>rfl),qq_b⟩
          ·rw[if_neg ab]at H;have au:(((Qic d b).f2).toList == ((Qic l0 a1).f2).toList)=false:=beq_eq_false_iff_ne.mpr ab;have av:(((Qic d b).f2).toList != ((Qic l0 a1).f2).toList)=true:=bne_iff_ne.mpr ab;have H':=QA H;clear H;have U:0≤(b:Int):=of_decide_eq_true qq_4;have W:b<(d.length:Int):=of_decide_eq_true qq_4;obtain⟨aw,ak,E,G,I,J⟩:=Qid an.out b U W
           cases ak
           replace E:=qq_h HB.out E;replace G:=qq_h HB.out G;replace I:=qq_h HB.out I;replace J:=qq_h HB.out J;replace U:=eq_true U;replace W:=eq_true W
           go_wp2_with (first |((with_reducible refine Qfe (N:=6) rfl ?_);refine qq_e 6 #[.bool false,.int .u64 0,.string (⟨#[]⟩:ByteArray),.string (⟨#[]⟩:ByteArray)] 36 ?_;intro a hg D hbox hb;have n_:=qn4 (Qeu qq_b hb) (hbox) (qq_s hg:w.heap.size≤a) (qq_s hg:w.heap.size≤a);clear HB;obtain⟨HB,t,n,Y⟩:=n_;clear hb hbox hg;obtain⟨ag,ah,ai,aj⟩:=qc4 t.out;have aq:=Qdm t.out;have q:0≤(a1:Int):=of_decide_eq_true qq_4;have s:a1<(l0.length:Int):=of_decide_eq_true qq_4;obtain⟨o,A,hx276_0,g,j,l⟩:=Qid Z.out a1 q s;cases A;have u:o.block≠a:=Nat.ne_of_lt (Nat.lt_of_lt_of_le qq_10 n.out);have v:o.block≠a:=Nat.ne_of_lt (Nat.lt_of_lt_of_le qq_10 n.out);have x:o.block≠a:=Nat.ne_of_lt (Nat.lt_of_lt_of_le qq_10 n.out);have y:o.block≠a:=Nat.ne_of_lt (Nat.lt_of_lt_of_le qq_10 n.out);replace hx276_0:=qq_h HB.out hx276_0;replace g:=qq_h HB.out g;replace j:=qq_h HB.out j;replace l:=qq_h HB.out l;replace hx276_0:=(Qez (p:=⟨a,0,none⟩) qq_3 (.bool ((Qic d b).f0))).trans hx276_0;replace g:=(Qez (p:=⟨a,0,none⟩) qq_3 (.bool ((Qic d b).f0))).trans g;replace j:=(Qez (p:=⟨a,0,none⟩) qq_3 (.bool ((Qic d b).f0))).trans j;replace l:=(Qez (p:=⟨a,0,none⟩) qq_3 (.bool ((Qic d b).f0))).trans l;replace hx276_0:=(Qez (p:=⟨a,1,none⟩) qq_3 (.int .u64 ((Qic d b).f1))).trans hx276_0;replace g:=(Qez (p:=⟨a,1,none⟩) qq_3 (.int .u64 ((Qic d b).f1))).trans g;replace j:=(Qez (p:=⟨a,1,none⟩) qq_3 (.int .u64 ((Qic d b).f1))).trans j;replace l:=(Qez (p:=⟨a,1,none⟩) qq_3 (.int .u64 ((Qic d b).f1))).trans l;replace hx276_0:=(Qez (p:=⟨a,2,none⟩) qq_3 (.string ((Qic d b).f2))).trans hx276_0;replace g:=(Qez (p:=⟨a,2,none⟩) qq_3 (.string ((Qic d b).f2))).trans g;replace j:=(Qez (p:=⟨a,2,none⟩) qq_3 (.string ((Qic d b).f2))).trans j;replace l:=(Qez (p:=⟨a,2,none⟩) qq_3 (.string ((Qic d b).f2))).trans l;replace hx276_0:=(Qez (p:=⟨a,3,none⟩) qq_3 (.string ((Qic d b).f3))).trans hx276_0;replace g:=(Qez (p:=⟨a,3,none⟩) qq_3 (.string ((Qic d b).f3))).trans g;replace j:=(Qez (p:=⟨a,3,none⟩) qq_3 (.string ((Qic d b).f3))).trans j;replace l:=(Qez (p:=⟨a,3,none⟩) qq_3 (.string ((Qic d b).f3))).trans l;(try have L:=fun (n_:Nat)=>(show((((((D.drewN n_).setCell ⟨a,0,none⟩ (.bool ((Qic d b).f0))).setCell ⟨a,1,none⟩ (.int .u64 ((Qic d b).f1))).setCell ⟨a,2,none⟩ (.string ((Qic d b).f2))).setCell ⟨a,3,none⟩ (.string ((Qic d b).f3)))).cell? _=some _ from hx276_0));(try have M:=fun (n_:Nat)=>(show((((((D.drewN n_).setCell ⟨a,0,none⟩ (.bool ((Qic d b).f0))).setCell ⟨a,1,none⟩ (.int .u64 ((Qic d b).f1))).setCell ⟨a,2,none⟩ (.string ((Qic d b).f2))).setCell ⟨a,3,none⟩ (.string ((Qic d b).f3)))).cell? _=some _ from g));(try have O:=fun (n_:Nat)=>(show((((((D.drewN n_).setCell ⟨a,0,none⟩ (.bool ((Qic d b).f0))).setCell ⟨a,1,none⟩ (.int .u64 ((Qic d b).f1))).setCell ⟨a,2,none⟩ (.string ((Qic d b).f2))).setCell ⟨a,3,none⟩ (.string ((Qic d b).f3)))).cell? _=some _ from j));(try have T:=fun (n_:Nat)=>(show((((((D.drewN n_).setCell ⟨a,0,none⟩ (.bool ((Qic d b).f0))).setCell ⟨a,1,none⟩ (.int .u64 ((Qic d b).f1))).setCell ⟨a,2,none⟩ (.string ((Qic d b).f2))).setCell ⟨a,3,none⟩ (.string ((Qic d b).f3)))).cell? _=some _ from l));clear u v x y;replace q:=eq_true q;replace s:=eq_true s))
           repeat(go_quiet (first |((with_reducible refine Qfe (N:=6) rfl ?_);refine qq_e 6 #[.bool false,.int .u64 0,.string (⟨#[]⟩:ByteArray),.string (⟨#[]⟩:ByteArray)] 36 ?_;intro a hg D hbox hb;have n_:=qn4 (Qeu qq_b hb) (hbox) (qq_s hg:w.heap.size≤a) (qq_s hg:w.heap.size≤a);clear HB;obtain⟨HB,t,n,Y⟩:=n_;clear hb hbox hg;obtain⟨ag,ah,ai,aj⟩:=qc4 t.out;have aq:=Qdm t.out;have q:0≤(a1:Int):=of_decide_eq_true qq_4;have s:a1<(l0.length:Int):=of_decide_eq_true qq_4;obtain⟨o,A,hx276_0,g,j,l⟩:=Qid Z.out a1 q s;cases A;have u:o.block≠a:=Nat.ne_of_lt (Nat.lt_of_lt_of_le qq_10 n.out);have v:o.block≠a:=Nat.ne_of_lt (Nat.lt_of_lt_of_le qq_10 n.out);have x:o.block≠a:=Nat.ne_of_lt (Nat.lt_of_lt_of_le qq_10 n.out);have y:o.block≠a:=Nat.ne_of_lt (Nat.lt_of_lt_of_le qq_10 n.out);replace hx276_0:=qq_h HB.out hx276_0;replace g:=qq_h HB.out g;replace j:=qq_h HB.out j;replace l:=qq_h HB.out l;replace hx276_0:=(Qez (p:=⟨a,0,none⟩) qq_3 (.bool ((Qic d b).f0))).trans hx276_0;replace g:=(Qez (p:=⟨a,0,none⟩) qq_3 (.bool ((Qic d b).f0))).trans g;replace j:=(Qez (p:=⟨a,0,none⟩) qq_3 (.bool ((Qic d b).f0))).trans j;replace l:=(Qez (p:=⟨a,0,none⟩) qq_3 (.bool ((Qic d b).f0))).trans l;replace hx276_0:=(Qez (p:=⟨a,1,none⟩) qq_3 (.int .u64 ((Qic d b).f1))).trans hx276_0;replace g:=(Qez (p:=⟨a,1,none⟩) qq_3 (.int .u64 ((Qic d b).f1))).trans g;replace j:=(Qez (p:=⟨a,1,none⟩) qq_3 (.int .u64 ((Qic d b).f1))).trans j;replace l:=(Qez (p:=⟨a,1,none⟩) qq_3 (.int .u64 ((Qic d b).f1))).trans l;replace hx276_0:=(Qez (p:=⟨a,2,none⟩) qq_3 (.string ((Qic d b).f2))).trans hx276_0;replace g:=(Qez (p:=⟨a,2,none⟩) qq_3 (.string ((Qic d b).f2))).trans g;replace j:=(Qez (p:=⟨a,2,none⟩) qq_3 (.string ((Qic d b).f2))).trans j;replace l:=(Qez (p:=⟨a,2,none⟩) qq_3 (.string ((Qic d b).f2))).trans l;replace hx276_0:=(Qez (p:=⟨a,3,none⟩) qq_3 (.string ((Qic d b).f3))).trans hx276_0;replace g:=(Qez (p:=⟨a,3,none⟩) qq_3 (.string ((Qic d b).f3))).trans g;replace j:=(Qez (p:=⟨a,3,none⟩) qq_3 (.string ((Qic d b).f3))).trans j;replace l:=(Qez (p:=⟨a,3,none⟩) qq_3 (.string ((Qic d b).f3))).trans l;(try have L:=fun (n_:Nat)=>(show((((((D.drewN n_).setCell ⟨a,0,none⟩ (.bool ((Qic d b).f0))).setCell ⟨a,1,none⟩ (.int .u64 ((Qic d b).f1))).setCell ⟨a,2,none⟩ (.string ((Qic d b).f2))).setCell ⟨a,3,none⟩ (.string ((Qic d b).f3)))).cell? _=some _ from hx276_0));(try have M:=fun (n_:Nat)=>(show((((((D.drewN n_).setCell ⟨a,0,none⟩ (.bool ((Qic d b).f0))).setCell ⟨a,1,none⟩ (.int .u64 ((Qic d b).f1))).setCell ⟨a,2,none⟩ (.string ((Qic d b).f2))).setCell ⟨a,3,none⟩ (.string ((Qic d b).f3)))).cell? _=some _ from g));(try have O:=fun (n_:Nat)=>(show((((((D.drewN n_).setCell ⟨a,0,none⟩ (.bool ((Qic d b).f0))).setCell ⟨a,1,none⟩ (.int .u64 ((Qic d b).f1))).setCell ⟨a,2,none⟩ (.string ((Qic d b).f2))).setCell ⟨a,3,none⟩ (.string ((Qic d b).f3)))).cell? _=some _ from j));(try have T:=fun (n_:Nat)=>(show((((((D.drewN n_).setCell ⟨a,0,none⟩ (.bool ((Qic d b).f0))).setCell ⟨a,1,none⟩ (.int .u64 ((Qic d b).f1))).setCell ⟨a,2,none⟩ (.string ((Qic d b).f2))).setCell ⟨a,3,none⟩ (.string ((Qic d b).f3)))).cell? _=some _ from l));clear u v x y;replace q:=eq_true q;replace s:=eq_true s));try go_wp2_with (first |((with_reducible refine Qfe (N:=6) rfl ?_);refine qq_e 6 #[.bool false,.int .u64 0,.string (⟨#[]⟩:ByteArray),.string (⟨#[]⟩:ByteArray)] 36 ?_;intro a hg D hbox hb;have n_:=qn4 (Qeu qq_b hb) (hbox) (qq_s hg:w.heap.size≤a) (qq_s hg:w.heap.size≤a);clear HB;obtain⟨HB,t,n,Y⟩:=n_;clear hb hbox hg;obtain⟨ag,ah,ai,aj⟩:=qc4 t.out;have aq:=Qdm t.out;have q:0≤(a1:Int):=of_decide_eq_true qq_4;have s:a1<(l0.length:Int):=of_decide_eq_true qq_4;obtain⟨o,A,hx276_0,g,j,l⟩:=Qid Z.out a1 q s;cases A;have u:o.block≠a:=Nat.ne_of_lt (Nat.lt_of_lt_of_le qq_10 n.out);have v:o.block≠a:=Nat.ne_of_lt (Nat.lt_of_lt_of_le qq_10 n.out);have x:o.block≠a:=Nat.ne_of_lt (Nat.lt_of_lt_of_le qq_10 n.out);have y:o.block≠a:=Nat.ne_of_lt (Nat.lt_of_lt_of_le qq_10 n.out);replace hx276_0:=qq_h HB.out hx276_0;replace g:=qq_h HB.out g;replace j:=qq_h HB.out j;replace l:=qq_h HB.out l;replace hx276_0:=(Qez (p:=⟨a,0,none⟩) qq_3 (.bool ((Qic d b).f0))).trans hx276_0;replace g:=(Qez (p:=⟨a,0,none⟩) qq_3 (.bool ((Qic d b).f0))).trans g;replace j:=(Qez (p:=⟨a,0,none⟩) qq_3 (.bool ((Qic d b).f0))).trans j;replace l:=(Qez (p:=⟨a,0,none⟩) qq_3 (.bool ((Qic d b).f0))).trans l;replace hx276_0:=(Qez (p:=⟨a,1,none⟩) qq_3 (.int .u64 ((Qic d b).f1))).trans hx276_0;replace g:=(Qez (p:=⟨a,1,none⟩) qq_3 (.int .u64 ((Qic d b).f1))).trans g;replace j:=(Qez (p:=⟨a,1,none⟩) qq_3 (.int .u64 ((Qic d b).f1))).trans j;replace l:=(Qez (p:=⟨a,1,none⟩) qq_3 (.int .u64 ((Qic d b).f1))).trans l;replace hx276_0:=(Qez (p:=⟨a,2,none⟩) qq_3 (.string ((Qic d b).f2))).trans hx276_0;replace g:=(Qez (p:=⟨a,2,none⟩) qq_3 (.string ((Qic d b).f2))).trans g;replace j:=(Qez (p:=⟨a,2,none⟩) qq_3 (.string ((Qic d b).f2))).trans j;replace l:=(Qez (p:=⟨a,2,none⟩) qq_3 (.string ((Qic d b).f2))).trans l;replace hx276_0:=(Qez (p:=⟨a,3,none⟩) qq_3 (.string ((Qic d b).f3))).trans hx276_0;replace g:=(Qez (p:=⟨a,3,none⟩) qq_3 (.string ((Qic d b).f3))).trans g;replace j:=(Qez (p:=⟨a,3,none⟩) qq_3 (.string ((Qic d b).f3))).trans j;replace l:=(Qez (p:=⟨a,3,none⟩) qq_3 (.string ((Qic d b).f3))).trans l;(try have L:=fun (n_:Nat)=>(show((((((D.drewN n_).setCell ⟨a,0,none⟩ (.bool ((Qic d b).f0))).setCell ⟨a,1,none⟩ (.int .u64 ((Qic d b).f1))).setCell ⟨a,2,none⟩ (.string ((Qic d b).f2))).setCell ⟨a,3,none⟩ (.string ((Qic d b).f3)))).cell? _=some _ from hx276_0));(try have M:=fun (n_:Nat)=>(show((((((D.drewN n_).setCell ⟨a,0,none⟩ (.bool ((Qic d b).f0))).setCell ⟨a,1,none⟩ (.int .u64 ((Qic d b).f1))).setCell ⟨a,2,none⟩ (.string ((Qic d b).f2))).setCell ⟨a,3,none⟩ (.string ((Qic d b).f3)))).cell? _=some _ from g));(try have O:=fun (n_:Nat)=>(show((((((D.drewN n_).setCell ⟨a,0,none⟩ (.bool ((Qic d b).f0))).setCell ⟨a,1,none⟩ (.int .u64 ((Qic d b).f1))).setCell ⟨a,2,none⟩ (.string ((Qic d b).f2))).setCell ⟨a,3,none⟩ (.string ((Qic d b).f3)))).cell? _=some _ from j));(try have T:=fun (n_:Nat)=>(show((((((D.drewN n_).setCell ⟨a,0,none⟩ (.bool ((Qic d b).f0))).setCell ⟨a,1,none⟩ (.int .u64 ((Qic d b).f1))).setCell ⟨a,2,none⟩ (.string ((Qic d b).f2))).setCell ⟨a,3,none⟩ (.string ((Qic d b).f3)))).cell? _=some _ from l));clear u v x y;replace q:=eq_true q;replace s:=eq_true s)))
           go_roundg k1
           case measure=>have:=HK1.out;omega
           case rel=>exact⟨(wrap64 (b+1)),qq_7,H',⟨by have:=HK1.out;omega⟩,⟨qq_b⟩⟩
         ·rw[if_neg ao]at H;exact absurd H (by simp)
        ·rw[if_neg c10]at H;exact absurd H (by simp)
       ·rw[if_neg c9]at H;exact absurd H (by simp)
      ·rw[if_neg c8]at H;exact absurd H (by simp)
     ·rw[if_neg c7]at H;have aC:=decide_eq_false c7;clear c7;obtain rfl:=Option.some.inj H;go_wp2
      repeat(go_quiet (fail);try go_wp2)
      go_ret
      exact⟨by first|rfl |(simp[Qhv,Qhw]<;>rfl) |(simp only[← aa];first|rfl |(simp[Qhv,Qhw]<;>rfl)) |(simp[*,Qhv,Qhw]<;>rfl),qq_b⟩
  ·rw[if_neg c5]at H;exact absurd H (by simp)
 ·rw[if_neg c4]at H;exact absurd H (by simp)
end Go.Proofs.YtepkfjmjidjedaaGreat.C
end
