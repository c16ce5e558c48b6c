/- Merged texts. -/
import Derived.Test.YteaocbonofboeaaGreatMA02
import Derived.Test.YteaocbonofboeaaGreatMA03
set_option linter.unusedVariables false
set_option linter.unusedSimpArgs false
set_option maxHeartbeats 8000000
set_option maxRecDepth 100000
section
namespace Go.Proofs.YteaocbonofboeaaGreat.C
open Go.RowKit Go.Proofs.YteaocbonofboeaaGreatW.PrintWords Go.Proofs.YteaocbonofboeaaGreatW.PrintLast Go.Proofs.YteaocbonofboeaaGreatW.PrintMore
attribute [local go_sem] Qiz Qja Qjb Qjc Qjd Qje Qjf Qjg
def Qbt.l0:Nat→Int→Int→Int→Option (Int)
 | 0,_,_,_=>none
 | k+1,x3,x5,x6=>if x6<x5 then(Qbt.l0 k (IntKind.u64.wrap (2*x3)) x5 ((x6+1)%256))else(some x3)
def Qbt.f(k:Nat)(a0_0:Int)(a0_1:Int):Option (Int):=Qbt.l0 k 1 a0_0 0
theorem Qbt.calls(k:Nat)(a:Int)(d:Int)(r:Int)(w:World)(h:Qbt.f k a d=some r) :
  Calls Tryz.prog 94 #[.agg #[.int .u8 a,.int .u32 d]] w fun e w'=>e=.returned (.int .u64 r)∧Below w.heap.size w w':=by
 have hu28:=Tryz.underlying28;have HB:=QA (Below.refl w.heap.size w);have H:(Qbt.l0 k 1 a 0)=some r:=h;clear h;have H':=QA H;clear H
 go_enter Tryz.func94,Tryz.ntmps94
 go_wp2_with (first |((with_reducible refine Qgj (N:=1) rfl ?_);refine qq_e 1 #[.int .u8 a,.int .u32 d] 28 ?_;intro g hg w2 hbox hb;have n_:=qn4 (Qfy qq_b hb) (hbox) (qq_s hg:w.heap.size≤g) (qq_s hg:w.heap.size≤g);clear HB;obtain⟨HB,b,p,q⟩:=n_;clear hb hbox hg;obtain⟨l,m⟩:=qc2 b.out;have n:=Qej b.out))
 go_loopg [3,6] k (fun kq v3 v6 w'=>∃(j:Int) (c:Int),v3=.int .u64 j∧v6=.int .u8 c∧Aside0 (Qbt.l0 kq j a c=some r)∧Aside0 (kq≤k)∧Aside0 (w'.heap[g]? = some (.cells #[.int .u8 a,.int .u32 d] 28 (0,0)))∧Aside0 (Below w.heap.size w w'))
 case atStart=>exact⟨(1),(0),qq_7,qq_7,H',⟨Nat.le_refl _⟩,⟨by(with_reducible repeat(first|apply Qew|apply Qev|apply Qeu));exact b.out⟩,⟨qq_b⟩⟩
 case round =>
  clear H'
  try clear l
  try clear m
  try clear n
  obtain⟨j,c,rfl,rfl,HA,HK1,b,HB⟩:=hrel
  cases gk with
  | zero=>exact absurd HA.out (by simp[Qbt.l0])
  | succ k1 =>
   have H:=HA.out;clear HA;simp only[Qbt.l0]at H
   by_cases c4:c<a
   ·rw[if_pos c4]at H;have o:=decide_eq_true c4;clear c4;have H':=QA H;clear H;go_wp2
    go_roundg k1
    case measure=>have:=HK1.out;omega
    case rel=>exact⟨(IntKind.u64.wrap (2*j)),((c+1)%256),qq_7,qq_7,H',⟨by have:=HK1.out;omega⟩,⟨by(with_reducible repeat(first|apply Qew|apply Qev|apply Qeu));exact b.out⟩,⟨qq_b⟩⟩
   ·rw[if_neg c4]at H;have o:=decide_eq_false c4;clear c4;obtain rfl:=Option.some.inj H;go_wp2;go_ret
    exact⟨qq_5,qq_b⟩
def Qbx.f(a0:Int):Option (Int):=some (wrap64 ((wrap64 ((wrap64 ((wrap64 ((wrap64 ((wrap64 (9+(wrap64 (12*a0))))+(wrap64 (8*(wrap64 (Int.tdiv (wrap64 (a0+15)) 16))))))+8))+1))+(wrap64 (Int.tdiv (wrap64 ((wrap64 ((wrap64 ((wrap64 (9+(wrap64 (12*a0))))+(wrap64 (8*(wrap64 (Int.tdiv (wrap64 (a0+15)) 16))))))+8))-1)) 254))))+1))
theorem Qbx.calls(a0:Int)(r:Int)(w:World)(h:Qbx.f a0=some r) :
  Calls Tryz.prog 194 #[.int .i64 a0] w fun e w'=>e=.returned (.int .i64 r)∧Drawn0 w w':=by
 have H:(some (wrap64 ((wrap64 ((wrap64 ((wrap64 ((wrap64 ((wrap64 (9+(wrap64 (12*a0))))+(wrap64 (8*(wrap64 (Int.tdiv (wrap64 (a0+15)) 16))))))+8))+1))+(wrap64 (Int.tdiv (wrap64 ((wrap64 ((wrap64 ((wrap64 (9+(wrap64 (12*a0))))+(wrap64 (8*(wrap64 (Int.tdiv (wrap64 (a0+15)) 16))))))+8))-1)) 254))))+1)))=some r:=h;clear h;obtain rfl:=Option.some.inj H
 go_enter Tryz.func194,Tryz.ntmps194
 go_wp2;go_ret
 exact⟨by first|rfl |(simp;done) |(simp[*];done),by repeat(first|exact Drawn0.refl _|apply Drawn0.step)⟩
def Qbz.j0:Nat→Int→Bool→Int→Int→Int→Int→Int→Option (Bool)
 | 0,_,_,_,_,_,_,_=>none
 | k+1,x1,x14,x425000,x425001,x425002,x425003,x425004=>if x14=true then(some false)else((Qbx.f (wrap64 (x425004+1))).bind fun t426=>((Qbt.f k x425000 x425001).bind fun t427=>(some (decide ((IntKind.u64.wrap (wrap64 ((wrap64 (x425003+x1))+t426)))≤t427)))))
def Qbz.f(k:Nat)(a0_0:Int)(a0_1:Int)(a0_2:Int)(a0_3:Int)(a0_4:Int)(a1:Int):Option (Bool):=if a1<1 then(Qbz.j0 k a1 true a0_0 a0_1 a0_2 a0_3 a0_4)else((Qbt.f k a0_0 a0_1).bind fun t425=>(Qbz.j0 k a1 (decide ((IntKind.u64.wrap (a1)) > t425)) a0_0 a0_1 a0_2 a0_3 a0_4))
def Qbz.T3:Bool × List (List Nat × List Nat):=(true,[([],[]),([0],[0]),([],[]),([1,2],[1,2]),([],[]),([4],[4]),([5],[5]),([6],[6]),([3,7],[3,7]),([8],[8]),([],[]),([10],[10]),([11,7],[11]),([9,12],[9,12]),([13,12,0,1,2,3,4,5,6,7,8,9,10,11,12,13],[13])])
def Qbz.B3:List Nat:=[0,1,0,7,0,16,48,112,255,511,0,1024,3312,8191,16383]
theorem Qbz.tab3:rtab .any (Qin Tryz.f140 3)=Qbz.T3:=by kernel_rfl
theorem Qbz.bits3:Qih Qbz.T3.2 Qbz.B3=true:=by kernel_rfl
theorem Qbz.calls(k:Nat)(b:Int)(c:Int)(l:Int)(m:Int)(j:Int)(a1:Int)(r:Bool)(w:World)(h:Qbz.f k b c l m j a1=some r) :
  Calls Tryz.prog 140 #[.agg #[.int .u8 b,.int .u32 c,.int .u64 l,.int .i64 m,.int .i64 j],.int .i64 a1] w fun e w'=>e=.returned (.bool r)∧Below w.heap.size w w':=by
 have hu219:=Tryz.underlying219;have hu28:=Tryz.underlying28;have HB:=QA (Below.refl w.heap.size w);have H:(if a1<1 then(Qbz.j0 k a1 true b c l m j)else((Qbt.f k b c).bind fun t=>(Qbz.j0 k a1 (decide ((IntKind.u64.wrap (a1)) > t)) b c l m j)))=some r:=h;clear h;have u:=QA H;clear H
 go_enter Tryz.func140,Tryz.ntmps140
 go_upto_region 1 with(first |((with_reducible refine Qgj (N:=2) rfl ?_);refine qq_e 2 #[.int .u8 b,.int .u32 c,.int .u64 l,.int .i64 m,.int .i64 j] 219 ?_;intro d hg w4 hbox hb;have n_:=qn4 (Qfy qq_b hb) (hbox) (qq_s hg:w.heap.size≤d) (qq_s hg:w.heap.size≤d);clear HB;obtain⟨HB,a,P,T⟩:=n_;clear hb hbox hg))
 (try simp only[Act.put,List.setIfInBounds_toArray,List.set_cons_zero,List.set_cons_succ])
 go_cut [14] (fun L wc=>∃(kq:Nat) (s:Bool),L=.bool s∧Aside0 (Qbz.j0 kq a1 s b c l m j=some r)∧Aside0 (kq≤k)∧Aside0 (wc.heap[d]? = some (.cells #[.int .u8 b,.int .u32 c,.int .u64 l,.int .i64 m,.int .i64 j] 219 (0,0)))∧Aside0 (Below w.heap.size w wc))
 case first =>
  have H:=u.out;clear u
  by_cases c5:a1<1
  ·rw[if_pos c5]at H;have q:=decide_eq_true c5;clear c5
   (first|rw[q] |(simp only[Qhh,Qhi];rw[q])|skip)
   have H':=QA H;clear H;go_wp2
   go_meet
   case rel=>exact⟨_,(true),qq_7,H',⟨by first|omega|exact Nat.le_refl _⟩,⟨by(with_reducible repeat(first|apply Qew|apply Qev|apply Qeu));exact a.out⟩,⟨qq_b⟩⟩
  ·rw[if_neg c5]at H;have q:=decide_eq_false c5;clear c5
   (first|rw[q] |(simp only[Qhh,Qhi];rw[q])|skip)
   replace H:=Option.bind_eq_some_iff.mp H;obtain⟨t,E,H⟩:=H;have A6:=QA E;clear E;have H':=QA H;clear H;obtain⟨v,x,y,z,A⟩:=qc5 a.out;have G:=Qej a.out
   go_wp2_with (first |(go_at_call 94;(with_reducible refine(Qbt.calls k b c t _ A6.out).mono ?_);rintro e w8 ⟨rfl,hb⟩;have n_:=qn2 (Qex (g:=d) (o:=.cells #[.int .u8 b,.int .u32 c,.int .u64 l,.int .i64 m,.int .i64 j] 219 (0,0)) qq_0 hb) (Qfy qq_b hb);clear a HB;obtain⟨a,HB⟩:=n_;(try clear hb);(try clear hb2);(try clear hk);(try clear hi)))
   go_meet
   case rel=>exact⟨_,(decide ((IntKind.u64.wrap (a1)) > t)),qq_7,H',⟨by first|omega|exact Nat.le_refl _⟩,⟨by(with_reducible repeat(first|apply Qew|apply Qev|apply Qeu));exact a.out⟩,⟨qq_b⟩⟩
 case rest =>
  clear u
  try clear c5
  try clear q
  try clear v
  try clear x
  try clear y
  try clear z
  try clear A
  try clear G
  obtain⟨kq,s,rfl,HA,HJ2,a,HB⟩:=hcut
  cases kq with
  | zero=>exact absurd HA.out (by simp[Qbz.j0])
  | succ kj2 =>
   have H:=HA.out;clear HA;simp only[Qbz.j0]at H
   by_cases c9:s=true
   ·subst c9;rw[if_pos rfl]at H;obtain rfl:=Option.some.inj H;go_wp2;go_ret
    exact⟨qq_5,qq_b⟩
   ·replace c9:=Bool.eq_false_iff.mpr c9;subst c9;rw[if_neg (show ¬(false=true)by decide)]at H;replace H:=Option.bind_eq_some_iff.mp H;obtain⟨I,B,H⟩:=H;have M:=QA B;clear B;replace H:=Option.bind_eq_some_iff.mp H;obtain⟨J,D,H⟩:=H;have O:=QA D;clear D;obtain rfl:=Option.some.inj H
    try go_wp2
    have n_:=qn2 (Qev a.out) (Qgf HB.out);clear a HB;obtain⟨a,HB⟩:=n_;refine Qgv (n:=15) (S:=fun w'=>w'.cell? ⟨d,0,none⟩=some (.int .u8 b)∧w'.cell? ⟨d,1,none⟩=some (.int .u32 c)∧w'.cell? ⟨d,2,none⟩=some (.int .u64 l)∧w'.cell? ⟨d,3,none⟩=some (.int .i64 m)∧w'.cell? ⟨d,4,none⟩=some (.int .i64 j)) (ds:=[]) (bm 15 0) qq_6 rfl rfl ⟨(Qei a.out 0).trans rfl,(Qei a.out 1).trans rfl,(Qei a.out 2).trans rfl,(Qei a.out 3).trans rfl,(Qei a.out 4).trans rfl⟩ (fun p=>?_);refine Qil Qbz.tab3 Qbz.bits3 (fun HT_ HW_=>?_);generalize wc.drew=w12 at a HB p ⊢;refine pz_ (i:=0) (N:=some 15) (bm 15 1) (Qid HT_.out qq_6) ?_;refine pz_ (i:=2) (N:=some 17) (bm 15 5) (Qid HT_.out qq_6) ?_;refine pz_ (i:=4) (N:=some 19) (bm 15 21) (Qid HT_.out qq_6) ?_;refine pz_ (i:=10) (N:=some 25) (bm 15 1045) (Qid HT_.out qq_6) ?_;refine tz_ (i:=1) (N:=some 16) (bm 15 1047) (Qik HT_.out HW_.out qq_6) p ?_;refine pz_ (i:=3) (N:=some 18) (bm 15 1055) (Qid HT_.out qq_6) ?_;refine tz_ (i:=5) (N:=some 20) (bm 15 1087) (Qik HT_.out HW_.out qq_6) p ?_;refine pz_ (i:=6) (N:=some 21) (bm 15 1151) (Qid HT_.out qq_6) ?_;refine tz_ (i:=11) (N:=some 26) (bm 15 3199) (Qik HT_.out HW_.out qq_6) p ?_;refine one_ (i:=7) (N:=some 22) (bm 15 3327) rfl rfl (Qie HT_.out qq_6) (by decide) (fun K hK=>?_);refine Qhe Tryz.func194 qq_6 rfl #[.int .i64 (wrap64 (j+1))] (by rfl) rfl rfl qq_1 ?_;with_reducible refine(Qbx.calls (wrap64 (j+1)) I _ M.out).mono ?_
    rintro e w' ⟨rfl,⟨nd,rfl⟩⟩;refine⟨_,rfl,?_⟩;refine hK.out _ _ ⟨(Qei a.out 0).trans rfl,(Qei a.out 1).trans rfl,(Qei a.out 2).trans rfl,(Qei a.out 3).trans rfl,(Qei a.out 4).trans rfl⟩ (fun p=>?_);clear hK K;refine nzp_ 22 ?_;refine pz_ (i:=8) (N:=some 23) (bm 15 3583) (Qid HT_.out qq_6) ?_;refine pz_ (i:=9) (N:=some 24) (bm 15 4095) (Qid HT_.out qq_6) ?_;refine one_ (i:=12) (N:=some 27) (bm 15 8191) rfl rfl (Qie HT_.out qq_6) (by decide) (fun K hK=>?_);refine Qhe Tryz.func94 qq_6 rfl #[.agg #[.int .u8 b,.int .u32 c]] (by rfl) rfl rfl qq_1 ?_;with_reducible refine(Qbt.calls kj2 b c J _ O.out).mono ?_
    rintro e U ⟨rfl,hb⟩;refine⟨_,rfl,?_⟩;have n_:=qn2 (Qex (g:=d) (o:=.cells #[.int .u8 b,.int .u32 c,.int .u64 l,.int .i64 m,.int .i64 j] 219 (0,0)) qq_0 hb) (Qfy qq_b hb);clear a HB;obtain⟨a,HB⟩:=n_
    (try clear hb)
    (try clear hb2)
    (try clear hk)
    (try clear hi)
    refine hK.out _ _ ⟨(Qei a.out 0).trans rfl,(Qei a.out 1).trans rfl,(Qei a.out 2).trans rfl,(Qei a.out 3).trans rfl,(Qei a.out 4).trans rfl⟩ (fun p=>?_);clear hK K;refine nzp_ 27 ?_;refine pz_ (i:=13) (N:=some 28) (bm 15 16383) (Qid HT_.out qq_6) ?_;refine pz_ (i:=14) (N:=some 4) (bm 15 32767) (Qid HT_.out qq_6) ?_;refine Qgz (Qig HT_.out qq_6) ?_
    try go_wp2
    go_ret
    exact⟨qq_5,qq_b⟩
def Qcb.f(a0_0:Int)(a0_1:Int)(a0_2:Int)(a0_3:Int)(a0_4:Int)(a1:Int):Option (Int × Int × Int × Int × Int):=some (a0_0,a0_1,a0_2,wrap64 (a0_3+a1),wrap64 (a0_4+1))
theorem Qcb.calls(a:Int)(b:Int)(c:Int)(d:Int)(k:Int)(a1:Int)(r1:Int)(r2:Int)(r3:Int)(r4:Int)(r5:Int)(w:World)(h:Qcb.f a b c d k a1=some (r1,r2,r3,r4,r5)) :
  Calls Tryz.prog 141 #[.agg #[.int .u8 a,.int .u32 b,.int .u64 c,.int .i64 d,.int .i64 k],.int .i64 a1] w fun e w'=>e=.returned (.agg #[.int .u8 r1,.int .u32 r2,.int .u64 r3,.int .i64 r4,.int .i64 r5])∧Below w.heap.size w w':=by
 have hu219:=Tryz.underlying219;have HB:=QA (Below.refl w.heap.size w);have H:(some (a,b,c,wrap64 (d+a1),wrap64 (k+1)))=some (r1,r2,r3,r4,r5):=h;clear h;simp only[Option.some.injEq,Prod.mk.injEq]at H;obtain⟨rfl,rfl,rfl,rfl,rfl⟩:=H
 go_enter Tryz.func141,Tryz.ntmps141
 go_wp2_with (first |((with_reducible refine Qgj (N:=2) rfl ?_);refine qq_e 2 #[.int .u8 a,.int .u32 b,.int .u64 c,.int .i64 d,.int .i64 k] 219 ?_;intro j hg w3 hbox hb;have n_:=qn4 (Qfy qq_b hb) (hbox) (qq_s hg:w.heap.size≤j) (qq_s hg:w.heap.size≤j);clear HB;obtain⟨HB,n,D,E⟩:=n_;clear hb hbox hg) |((with_reducible refine Qgj (N:=4) rfl ?_);refine qq_e 4 #[.int .u8 0,.int .u32 0,.int .u64 0,.int .i64 0,.int .i64 0] 219 ?_;intro m hg w4 hbox hb;have n_:=qn7 (Qex (g:=j) (o:=.cells #[.int .u8 a,.int .u32 b,.int .u64 c,.int .i64 d,.int .i64 k] 219 (0,0)) qq_0 hb) (Qfy qq_b hb) (hbox) (qq_s hg:w.heap.size≤m) (qq_s hg:w.heap.size≤m) ((by rw[hg];exact Nat.ne_of_lt (Qeh (g:=j) (o:=.cells #[.int .u8 a,.int .u32 b,.int .u64 c,.int .i64 d,.int .i64 k] 219 (0,0)) qq_0):j≠m)) ((by rw[hg];exact Nat.ne_of_gt (Qeh (g:=j) (o:=.cells #[.int .u8 a,.int .u32 b,.int .u64 c,.int .i64 d,.int .i64 k] 219 (0,0)) qq_0):m≠j));clear n HB;obtain⟨n,HB,p,G,I,q,l⟩:=n_;clear hb hbox hg;have J:=q.out;have K:=l.out;obtain⟨r,s,t,u,v⟩:=qc5 n.out;have L:=Qej n.out;obtain⟨x,y,z,A,B⟩:=qc5 p.out;have M:=Qej p.out))
 refine bodyPost_ret (results_cell_row rfl _ _ m 219 #[.int .u8 a,.int .u32 b,.int .u64 c,.int .i64 (wrap64 (d+a1)),.int .i64 (wrap64 (k+1))] (0,0) _ rfl (by(with_reducible repeat(first|apply Qew|apply Qev|apply Qeu));refine Qge (cs:=#[.int .u8 a,.int .u32 b,.int .u64 c,.int .i64 (wrap64 (d+a1)),.int .i64 0]) ?_ 4 _ rfl;(with_reducible repeat(first|apply Qew|apply Qev|apply Qeu));refine Qge (cs:=#[.int .u8 a,.int .u32 b,.int .u64 c,.int .i64 0,.int .i64 0]) ?_ 3 _ rfl;(with_reducible repeat(first|apply Qew|apply Qev|apply Qeu));refine Qge (cs:=#[.int .u8 a,.int .u32 b,.int .u64 0,.int .i64 0,.int .i64 0]) ?_ 2 _ rfl;(with_reducible repeat(first|apply Qew|apply Qev|apply Qeu));refine Qge (cs:=#[.int .u8 a,.int .u32 0,.int .u64 0,.int .i64 0,.int .i64 0]) ?_ 1 _ rfl;(with_reducible repeat(first|apply Qew|apply Qev|apply Qeu));refine Qge (cs:=#[.int .u8 0,.int .u32 0,.int .u64 0,.int .i64 0,.int .i64 0]) ?_ 0 _ rfl;(with_reducible repeat(first|apply Qew|apply Qev|apply Qeu));refine Qeg ?_ l.out _;(with_reducible repeat(first|apply Qew|apply Qev|apply Qeu));refine Qeg ?_ l.out _;(with_reducible repeat(first|apply Qew|apply Qev|apply Qeu));exact p.out) Tryz.underlying219 rfl qq_6) rfl ?_;exact⟨qq_5,qq_b⟩
def Qbq.j0:Nat→Bool→Bool→Int→ByteArray→ByteArray→Option (Int)
 | 0,_,_,_,_,_=>none
 | k+1,x18,x407000,x407001,x407002,x407003=>if x18=true then(some 4)else(if(x407003.size:Int) > 1048576 then(some 3)else(some 0))
def Qbq.f(k:Nat)(a0_0:Bool)(a0_1:Int)(a0_2:ByteArray)(a0_3:ByteArray):Option (Int):=if(a0_2.size:Int)=0 then(some 4)else(if(a0_2.size:Int) > 4096 then(some 3)else(if a0_0=true then(Qbq.j0 k (decide ((a0_3.size:Int) > 0)) a0_0 a0_1 a0_2 a0_3)else(Qbq.j0 k false a0_0 a0_1 a0_2 a0_3)))
theorem Qbq.calls(k:Nat)(g:Bool)(j:Int)(b:ByteArray)(c:ByteArray)(r:Int)(w:World)(h:Qbq.f k g j b c=some r) :
  Calls Tryz.prog 138 #[.agg #[.bool g,.int .u64 j,.string b,.string c]] w fun e w'=>e=.returned (.int .i64 r)∧Below w.heap.size w w':=by
 have hu37:=Tryz.underlying37;have HB:=QA (Below.refl w.heap.size w);have H:(if(b.size:Int)=0 then(some 4)else(if(b.size:Int) > 4096 then(some 3)else(if g=true then(Qbq.j0 k (decide ((c.size:Int) > 0)) g j b c)else(Qbq.j0 k false g j b c))))=some r:=h;clear h
 by_cases c2:(b.size:Int)=0
 ·rw[if_pos c2]at H;have I:((b.size:Int) == 0)=true:=beq_iff_eq.mpr c2;have J:((b.size:Int) != 0)=false:=bne_eq_false_iff_eq.mpr c2;clear c2;obtain rfl:=Option.some.inj H
  go_enter Tryz.func138,Tryz.ntmps138
  go_wp2_with (first |((with_reducible refine Qgj (N:=1) rfl ?_);(try(refine Qiy (by rfl) ?_;dsimp only));refine qq_e 1 #[.bool g,.int .u64 j,.string b,.string c] 37 ?_;intro d hg w3 hbox hb;have n_:=qn4 (Qfy qq_b hb) (hbox) (qq_s hg:w.heap.size≤d) (qq_s hg:w.heap.size≤d);clear HB;obtain⟨HB,a,o,p⟩:=n_;clear hb hbox hg;obtain⟨K,L,M,O⟩:=qc4 a.out;have af:=Qej a.out))
  go_ret
  exact⟨qq_5,qq_b⟩
 ·rw [if_neg c2]at H;have I:((b.size:Int) == 0)=false:=beq_eq_false_iff_ne.mpr c2;have J:((b.size:Int) != 0)=true:=bne_iff_ne.mpr c2
  by_cases c5:(b.size:Int) > 4096
  ·rw[if_pos c5]at H;have P:decide (4096<(b.size:Int))=true:=decide_eq_true c5;have T:decide (4096<b.size)=true:=decide_eq_true (by omega);clear c5;obtain rfl:=Option.some.inj H
   go_enter Tryz.func138,Tryz.ntmps138
   go_wp2_with (first |((with_reducible refine Qgj (N:=1) rfl ?_);(try(refine Qiy (by rfl) ?_;dsimp only));refine qq_e 1 #[.bool g,.int .u64 j,.string b,.string c] 37 ?_;intro d hg w6 hbox hb;have n_:=qn4 (Qfy qq_b hb) (hbox) (qq_s hg:w.heap.size≤d) (qq_s hg:w.heap.size≤d);clear HB;obtain⟨HB,a,o,p⟩:=n_;clear hb hbox hg;obtain⟨U,W,X,Y⟩:=qc4 a.out;have ag:=Qej a.out))
   go_ret
   exact⟨qq_5,qq_b⟩
  ·rw [if_neg c5]at H;have P:decide (4096<(b.size:Int))=false:=decide_eq_false c5;have T:decide (4096<b.size)=false:=decide_eq_false (by omega);clear c5;have Z:=QA H;clear H
   go_enter Tryz.func138,Tryz.ntmps138
   go_upto_region 5 with(first |((with_reducible refine Qgj (N:=1) rfl ?_);(try(refine Qiy (by rfl) ?_;dsimp only));refine qq_e 1 #[.bool g,.int .u64 j,.string b,.string c] 37 ?_;intro d hg w9 hbox hb;have n_:=qn4 (Qfy qq_b hb) (hbox) (qq_s hg:w.heap.size≤d) (qq_s hg:w.heap.size≤d);clear HB;obtain⟨HB,a,o,p⟩:=n_;clear hb hbox hg;obtain⟨s,t,u,v⟩:=qc4 a.out;have aa:=Qej a.out))
   (try simp only[Act.put,List.setIfInBounds_toArray,List.set_cons_zero,List.set_cons_succ])
   go_cut [18] (fun ap wc=>∃(kq:Nat) (l:Bool),ap=.bool l∧Aside0 (Qbq.j0 kq l g j b c=some r)∧Aside0 (kq≤k)∧Aside0 (wc.heap[d]? = some (.cells #[.bool g,.int .u64 j,.string b,.string c] 37 (0,0)))∧Aside0 (Below w.heap.size w wc))
   case first =>
    have H:=Z.out;clear Z
    by_cases n:g=true
    ·subst n;rw[if_pos rfl]at H;have H':=QA H;clear H;obtain⟨x,y,z,A⟩:=qc4 a.out;have ab:=Qej a.out;go_wp2
     go_meet
     case rel=>exact⟨_,(decide ((c.size:Int) > 0)),qq_7,H',⟨by first|omega|exact Nat.le_refl _⟩,⟨by(with_reducible repeat(first|apply Qew|apply Qev|apply Qeu));exact a.out⟩,⟨qq_b⟩⟩
    ·replace n:=Bool.eq_false_iff.mpr n;subst n;rw[if_neg (show ¬(false=true)by decide)]at H;have H':=QA H;clear H;obtain⟨B,D,E,G⟩:=qc4 a.out;have ac:=Qej a.out;go_wp2
     go_meet
     case rel=>exact⟨_,(false),qq_7,H',⟨by first|omega|exact Nat.le_refl _⟩,⟨by(with_reducible repeat(first|apply Qew|apply Qev|apply Qeu));exact a.out⟩,⟨qq_b⟩⟩
   case rest =>
    clear Z
    try clear c2
    try clear I
    try clear J
    try clear c5
    try clear P
    try clear T
    try clear n
    try clear s
    try clear t
    try clear u
    try clear v
    try clear x
    try clear y
    try clear z
    try clear A
    try clear B
    try clear D
    try clear E
    try clear G
    try clear K
    try clear L
    try clear M
    try clear O
    try clear U
    try clear W
    try clear X
    try clear Y
    try clear aa
    try clear ab
    try clear ac
    try clear af
    try clear ag
    obtain⟨kq,l,rfl,HA,HJ7,a,HB⟩:=hcut
    cases kq with
    | zero=>exact absurd HA.out (by simp[Qbq.j0])
    | succ kj7 =>
     have H:=HA.out;clear HA;simp only[Qbq.j0]at H
     by_cases q:l=true
     ·subst q;rw[if_pos rfl]at H;obtain rfl:=Option.some.inj H;go_wp2;go_ret
      exact⟨qq_5,qq_b⟩
     ·replace q:=Bool.eq_false_iff.mpr q;subst q;rw[if_neg (show ¬(false=true)by decide)]at H
      by_cases m:(c.size:Int) > 1048576
      ·rw[if_pos m]at H;have ad:decide (1048576<(c.size:Int))=true:=decide_eq_true m;have ae:decide (1048576<c.size)=true:=decide_eq_true (by omega);clear m;obtain rfl:=Option.some.inj H;obtain⟨ah,ai,aj,ak⟩:=qc4 a.out;have aq:=Qej a.out;go_wp2;go_ret
       exact⟨qq_5,qq_b⟩
      ·rw[if_neg m]at H;have ad:decide (1048576<(c.size:Int))=false:=decide_eq_false m;have ae:decide (1048576<c.size)=false:=decide_eq_false (by omega);clear m;obtain rfl:=Option.some.inj H;obtain⟨al,am,an,ao⟩:=qc4 a.out;have ar:=Qej a.out;go_wp2;go_ret
       exact⟨qq_5,qq_b⟩
mutual
def Qbr.l0:Nat→List (S37)→List (S37)→Int→Int→Option (Int)
 | 0,_,_,_,_=>none
 | k+1,x0,x8,x9,x10=>if x10<x9 then(if 0≤x10 then(if x10<(x8.length:Int)then((Qbq.f k ((Qjw x8 x10).f0) ((Qjw x8 x10).f1) ((Qjw x8 x10).f2) ((Qjw x8 x10).f3)).bind fun t409=>(if t409=0 then(Qbr.l0 k x0 x8 x9 (wrap64 (x10+1)))else(some t409)))else(none))else(none))else(Qbr.l1 k x0 x0 (x0.length:Int) 0)
def Qbr.l1:Nat→List (S37)→List (S37)→Int→Int→Option (Int)
 | 0,_,_,_,_=>none
 | k+1,x0,x20,x21,x22=>if x22<x21 then(if 0≤x22 then(if x22<(x20.length:Int)then(if x22 > 0 then(if 0≤(wrap64 (x22-1))then(if(wrap64 (x22-1))<(x0.length:Int)then(if((Qjw x20 x22).f1)≤((Qjw x0 (wrap64 (x22-1))).f1)then(some 8)else(Qbr.l1 k x0 x20 x21 (wrap64 (x22+1))))else(none))else(none))else(Qbr.l1 k x0 x20 x21 (wrap64 (x22+1))))else(none))else(none))else(some 0)
end
def Qbr.f(k:Nat)(l0:List (S37)):Option (Int):=Qbr.l0 k l0 l0 (l0.length:Int) 0
theorem Qbr.calls (k:Nat) (A0:Option Addr) (c0:Nat) (l0:List (S37)) (r:Int) (w:World) (hr0:Kd.C k37 w A0 l0.length l0) (hc0:l0.length≤c0) (h:Qbr.f k l0=some r) :
  Calls Tryz.prog 88 #[.slice A0 l0.length c0] w fun e w'=>e=.returned (.int .i64 r)∧Below w.heap.size w w':=by
 have hu37:=Tryz.underlying37;have ac:=QA hr0;have bl:=QA hc0;clear hr0 hc0;have HB:=QA (Below.refl w.heap.size w);have H:(Qbr.l0 k l0 l0 (l0.length:Int) 0)=some r:=h;clear h;have H':=QA H;clear H
 go_enter Tryz.func88,Tryz.ntmps88
 go_wp2
 repeat(go_quiet (fail);try go_wp2)
 go_loopg [10] k (fun kq be w'=>∃(x10_1:Int),be=.int .i64 x10_1∧Aside0 (Qbr.l0 kq l0 l0 (l0.length:Int) x10_1=some r)∧Aside0 (kq≤k)∧Aside0 (Below w.heap.size w w'))
 case atStart=>exact⟨(0),qq_7,H',⟨Nat.le_refl _⟩,⟨qq_b⟩⟩
 case round =>
  clear H';obtain⟨x10_1,rfl,HA,HK1,HB⟩:=hrel
  cases gk with
  | zero=>exact absurd HA.out (by simp[Qbr.l0])
  | succ k1 =>
   have H:=HA.out;clear HA;simp only[Qbr.l0]at H
   by_cases c2:x10_1<(l0.length:Int)
   ·rw [if_pos c2]at H;have aL:=decide_eq_true c2;clear c2
    by_cases c3:0≤x10_1
    ·rw[if_pos c3]at H;have bb:=decide_eq_true c3;clear c3
     by_cases c4:x10_1<(l0.length:Int)
     ·rw[if_pos c4]at H;have bc:=decide_eq_true c4;clear c4;replace H:=Option.bind_eq_some_iff.mp H;obtain⟨af,aZ,H⟩:=H;have A5:=QA aZ;clear aZ
      by_cases c6:af=0
      ·rw[if_pos c6]at H;have aM:(af == 0)=true:=beq_iff_eq.mpr c6;have aN:(af != 0)=false:=bne_eq_false_iff_eq.mpr c6;clear c6;have H':=QA H;clear H;have ad:0≤(x10_1:Int):=of_decide_eq_true qq_3;have ae:x10_1<(l0.length:Int):=of_decide_eq_true qq_3;obtain⟨aS,az,I,J,K,L⟩:=Qjx ac.out x10_1 ad ae
       cases az
       replace I:=qq_h HB.out I;replace J:=qq_h HB.out J;replace K:=qq_h HB.out K;replace L:=qq_h HB.out L;replace ad:=eq_true ad;replace ae:=eq_true ae
       go_wp2_with (first |((with_reducible refine Qgj (N:=4) rfl ?_);refine qq_e 4 #[.bool false,.int .u64 0,.string (⟨#[]⟩:ByteArray),.string (⟨#[]⟩:ByteArray)] 37 ?_;intro ab hg w7 hbox hb;have n_:=qn4 (Qfy qq_b hb) (hbox) (qq_s hg:w.heap.size≤ab) (qq_s hg:w.heap.size≤ab);clear HB;obtain⟨HB,G,aT,aU⟩:=n_;clear hb hbox hg;obtain⟨aO,aP,aQ,aR⟩:=qc4 G.out;have bd:=Qej G.out) |(go_at_call 138;(with_reducible refine(Qbq.calls k1 ((Qjw l0 x10_1).f0) ((Qjw l0 x10_1).f1) ((Qjw l0 x10_1).f2) ((Qjw l0 x10_1).f3) af _ A5.out).mono ?_);rintro e w9 ⟨rfl,hb⟩;have n_:=qn2 (Qex (g:=ab) (o:=.cells #[.bool ((Qjw l0 x10_1).f0),.int .u64 ((Qjw l0 x10_1).f1),.string ((Qjw l0 x10_1).f2),.string ((Qjw l0 x10_1).f3)] 37 (0,0)) qq_x hb) (Qfy qq_b hb);clear G HB;obtain⟨G,HB⟩:=n_;(try clear hb);(try clear hb2);(try clear hk);(try clear hi)))
       go_roundg k1
       case measure=>have:=HK1.out;omega
       case rel=>exact⟨(wrap64 (x10_1+1)),qq_7,H',⟨by have:=HK1.out;omega⟩,⟨qq_b⟩⟩
      ·rw[if_neg c6]at H;have aM:(af == 0)=false:=beq_eq_false_iff_ne.mpr c6;have aN:(af != 0)=true:=bne_iff_ne.mpr c6;obtain rfl:=Option.some.inj H;have ad:0≤(x10_1:Int):=of_decide_eq_true qq_3;have ae:x10_1<(l0.length:Int):=of_decide_eq_true qq_3;obtain⟨aS,az,I,J,K,L⟩:=Qjx ac.out x10_1 ad ae
       cases az
       replace I:=qq_h HB.out I;replace J:=qq_h HB.out J;replace K:=qq_h HB.out K;replace L:=qq_h HB.out L;replace ad:=eq_true ad;replace ae:=eq_true ae
       go_wp2_with (first |((with_reducible refine Qgj (N:=4) rfl ?_);refine qq_e 4 #[.bool false,.int .u64 0,.string (⟨#[]⟩:ByteArray),.string (⟨#[]⟩:ByteArray)] 37 ?_;intro ab hg bn hbox hb;have n_:=qn4 (Qfy qq_b hb) (hbox) (qq_s hg:w.heap.size≤ab) (qq_s hg:w.heap.size≤ab);clear HB;obtain⟨HB,G,aT,aU⟩:=n_;clear hb hbox hg;obtain⟨aH,aI,aJ,aK⟩:=qc4 G.out;have aV:=Qej G.out) |(go_at_call 138;(with_reducible refine(Qbq.calls k1 ((Qjw l0 x10_1).f0) ((Qjw l0 x10_1).f1) ((Qjw l0 x10_1).f2) ((Qjw l0 x10_1).f3) af _ A5.out).mono ?_);rintro e bo ⟨rfl,hb⟩;have n_:=qn2 (Qex (g:=ab) (o:=.cells #[.bool ((Qjw l0 x10_1).f0),.int .u64 ((Qjw l0 x10_1).f1),.string ((Qjw l0 x10_1).f2),.string ((Qjw l0 x10_1).f3)] 37 (0,0)) qq_x hb) (Qfy qq_b hb);clear G HB;obtain⟨G,HB⟩:=n_;(try clear hb);(try clear hb2);(try clear hk);(try clear hi)))
       go_ret
       exact⟨qq_5,qq_b⟩
     ·rw[if_neg c4]at H;exact absurd H (by simp)
    ·rw[if_neg c3]at H;exact absurd H (by simp)
   ·rw [if_neg c2]at H;have aL:=decide_eq_false c2;clear c2;have H':=QA H;clear H;go_wp2
    repeat(go_quiet (fail);try go_wp2)
    go_loopg [22] k1 (fun kq bf w'=>∃(b:Int),bf=.int .i64 b∧Aside0 (Qbr.l1 kq l0 l0 (l0.length:Int) b=some r)∧Aside0 (kq≤k1)∧Aside0 (Below w.heap.size w w'))
    case atStart=>exact⟨(0),qq_7,H',⟨Nat.le_refl _⟩,⟨qq_b⟩⟩
    case round =>
     clear H'
     try clear c2
     try clear aL
     try clear c3
     try clear bb
     try clear c4
     try clear bc
     try clear c6
     try clear aM
     try clear aN
     try clear aH
     try clear aI
     try clear aJ
     try clear aK
     try clear aO
     try clear aP
     try clear aQ
     try clear aR
     try clear aV
     try clear bd
     try clear I
     try clear J
     try clear K
     try clear L
     try clear ad
     try clear ae
     obtain⟨b,rfl,HA,HK2,HB⟩:=hrel
     cases gk with
     | zero=>exact absurd HA.out (by simp[Qbr.l1])
     | succ k2 =>
      have H:=HA.out;clear HA;simp only[Qbr.l1]at H
      by_cases ai:b<(l0.length:Int)
      ·rw [if_pos ai]at H;have aW:=decide_eq_true ai;clear ai
       by_cases aA:0≤b
       ·rw [if_pos aA]at H;have bh:=decide_eq_true aA;clear aA
        by_cases aB:b<(l0.length:Int)
        ·rw [if_pos aB]at H;have bi:=decide_eq_true aB;clear aB
         by_cases aj:b > 0
         ·rw [if_pos aj]at H;have aX:decide (0<b)=true:=decide_eq_true aj;clear aj;obtain⟨q,ag⟩:∃j_:Int,(wrap64 (b-1))=j_:=⟨_,rfl⟩;replace H:(if 0≤(q)then(if(q)<(l0.length:Int)then(if((Qjw l0 b).f1)≤((Qjw l0 (q)).f1)then(some 8)else(Qbr.l1 k2 l0 l0 (l0.length:Int) (wrap64 (b+1))))else(none))else(none))=some r:=by first |(rw[ag]at H;exact H) |(simp only[ag]at H ⊢;exact H)
          have bg:(IntKind.i64.wrap (b-1))=q:=(Qhh _).trans ag
          by_cases aC:0≤(q)
          ·rw[if_pos aC]at H;have bj:=decide_eq_true aC;clear aC
           by_cases aD:(q)<(l0.length:Int)
           ·rw[if_pos aD]at H;have bk:=decide_eq_true aD;clear aD
            by_cases ak:((Qjw l0 b).f1)≤((Qjw l0 (q)).f1)
            ·rw[if_pos ak]at H;have aY:=decide_eq_true ak;clear ak;obtain rfl:=Option.some.inj H;have M:0≤(b:Int):=of_decide_eq_true qq_3;have O:b<(l0.length:Int):=of_decide_eq_true qq_3;obtain⟨l,ah,z,A,B,D⟩:=Qjx ac.out b M O
             cases ah
             replace z:=qq_h HB.out z;replace A:=qq_h HB.out A;replace B:=qq_h HB.out B;replace D:=qq_h HB.out D;replace M:=eq_true M;replace O:=eq_true O
             go_wp2_with (first |((with_reducible refine Qgj (N:=7) rfl ?_);refine qq_e 7 #[.bool false,.int .u64 0,.string (⟨#[]⟩:ByteArray),.string (⟨#[]⟩:ByteArray)] 37 ?_;intro a hg T hbox hb;have n_:=qn4 (Qfy qq_b hb) (hbox) (qq_s hg:w.heap.size≤a) (qq_s hg:w.heap.size≤a);clear HB;obtain⟨HB,n,m,U⟩:=n_;clear hb hbox hg;obtain⟨al,am,an,ao⟩:=qc4 n.out;have aE:=Qej n.out;have s:0≤((q):Int):=of_decide_eq_true qq_3;have t:(q)<(l0.length:Int):=of_decide_eq_true qq_3;obtain⟨E,P,hx412_0,c,d,j⟩:=Qjx ac.out (q) s t;obtain rfl:l=E:=(by injection P);have u:l.block≠a:=Nat.ne_of_lt (Nat.lt_of_lt_of_le qq_11 m.out);have v:l.block≠a:=Nat.ne_of_lt (Nat.lt_of_lt_of_le qq_11 m.out);have x:l.block≠a:=Nat.ne_of_lt (Nat.lt_of_lt_of_le qq_11 m.out);have y:l.block≠a:=Nat.ne_of_lt (Nat.lt_of_lt_of_le qq_11 m.out);replace hx412_0:=qq_h HB.out hx412_0;replace c:=qq_h HB.out c;replace d:=qq_h HB.out d;replace j:=qq_h HB.out j;replace hx412_0:=(Qgd (p:=⟨a,0,none⟩) qq_2 (.bool ((Qjw l0 b).f0))).trans hx412_0;replace c:=(Qgd (p:=⟨a,0,none⟩) qq_2 (.bool ((Qjw l0 b).f0))).trans c;replace d:=(Qgd (p:=⟨a,0,none⟩) qq_2 (.bool ((Qjw l0 b).f0))).trans d;replace j:=(Qgd (p:=⟨a,0,none⟩) qq_2 (.bool ((Qjw l0 b).f0))).trans j;replace hx412_0:=(Qgd (p:=⟨a,1,none⟩) qq_2 (.int .u64 ((Qjw l0 b).f1))).trans hx412_0;replace c:=(Qgd (p:=⟨a,1,none⟩) qq_2 (.int .u64 ((Qjw l0 b).f1))).trans c;replace d:=(Qgd (p:=⟨a,1,none⟩) qq_2 (.int .u64 ((Qjw l0 b).f1))).trans d;replace j:=(Qgd (p:=⟨a,1,none⟩) qq_2 (.int .u64 ((Qjw l0 b).f1))).trans j;replace hx412_0:=(Qgd (p:=⟨a,2,none⟩) qq_2 (.string ((Qjw l0 b).f2))).trans hx412_0;replace c:=(Qgd (p:=⟨a,2,none⟩) qq_2 (.string ((Qjw l0 b).f2))).trans c;replace d:=(Qgd (p:=⟨a,2,none⟩) qq_2 (.string ((Qjw l0 b).f2))).trans d;replace j:=(Qgd (p:=⟨a,2,none⟩) qq_2 (.string ((Qjw l0 b).f2))).trans j;replace hx412_0:=(Qgd (p:=⟨a,3,none⟩) qq_2 (.string ((Qjw l0 b).f3))).trans hx412_0;replace c:=(Qgd (p:=⟨a,3,none⟩) qq_2 (.string ((Qjw l0 b).f3))).trans c;replace d:=(Qgd (p:=⟨a,3,none⟩) qq_2 (.string ((Qjw l0 b).f3))).trans d;replace j:=(Qgd (p:=⟨a,3,none⟩) qq_2 (.string ((Qjw l0 b).f3))).trans j;(try have X:=fun (n_:Nat)=>(show((((((T.drewN n_).setCell ⟨a,0,none⟩ (.bool ((Qjw l0 b).f0))).setCell ⟨a,1,none⟩ (.int .u64 ((Qjw l0 b).f1))).setCell ⟨a,2,none⟩ (.string ((Qjw l0 b).f2))).setCell ⟨a,3,none⟩ (.string ((Qjw l0 b).f3)))).cell? _=some _ from hx412_0));(try have Y:=fun (n_:Nat)=>(show((((((T.drewN n_).setCell ⟨a,0,none⟩ (.bool ((Qjw l0 b).f0))).setCell ⟨a,1,none⟩ (.int .u64 ((Qjw l0 b).f1))).setCell ⟨a,2,none⟩ (.string ((Qjw l0 b).f2))).setCell ⟨a,3,none⟩ (.string ((Qjw l0 b).f3)))).cell? _=some _ from c));(try have Z:=fun (n_:Nat)=>(show((((((T.drewN n_).setCell ⟨a,0,none⟩ (.bool ((Qjw l0 b).f0))).setCell ⟨a,1,none⟩ (.int .u64 ((Qjw l0 b).f1))).setCell ⟨a,2,none⟩ (.string ((Qjw l0 b).f2))).setCell ⟨a,3,none⟩ (.string ((Qjw l0 b).f3)))).cell? _=some _ from d));(try have aa:=fun (n_:Nat)=>(show((((((T.drewN n_).setCell ⟨a,0,none⟩ (.bool ((Qjw l0 b).f0))).setCell ⟨a,1,none⟩ (.int .u64 ((Qjw l0 b).f1))).setCell ⟨a,2,none⟩ (.string ((Qjw l0 b).f2))).setCell ⟨a,3,none⟩ (.string ((Qjw l0 b).f3)))).cell? _=some _ from j));clear u v x y;replace s:=eq_true s;replace t:=eq_true t))
             repeat(go_quiet (first |((with_reducible refine Qgj (N:=7) rfl ?_);refine qq_e 7 #[.bool false,.int .u64 0,.string (⟨#[]⟩:ByteArray),.string (⟨#[]⟩:ByteArray)] 37 ?_;intro a hg T hbox hb;have n_:=qn4 (Qfy qq_b hb) (hbox) (qq_s hg:w.heap.size≤a) (qq_s hg:w.heap.size≤a);clear HB;obtain⟨HB,n,m,U⟩:=n_;clear hb hbox hg;obtain⟨al,am,an,ao⟩:=qc4 n.out;have aE:=Qej n.out;have s:0≤((q):Int):=of_decide_eq_true qq_3;have t:(q)<(l0.length:Int):=of_decide_eq_true qq_3;obtain⟨E,P,hx412_0,c,d,j⟩:=Qjx ac.out (q) s t;obtain rfl:l=E:=(by injection P);have u:l.block≠a:=Nat.ne_of_lt (Nat.lt_of_lt_of_le qq_11 m.out);have v:l.block≠a:=Nat.ne_of_lt (Nat.lt_of_lt_of_le qq_11 m.out);have x:l.block≠a:=Nat.ne_of_lt (Nat.lt_of_lt_of_le qq_11 m.out);have y:l.block≠a:=Nat.ne_of_lt (Nat.lt_of_lt_of_le qq_11 m.out);replace hx412_0:=qq_h HB.out hx412_0;replace c:=qq_h HB.out c;replace d:=qq_h HB.out d;replace j:=qq_h HB.out j;replace hx412_0:=(Qgd (p:=⟨a,0,none⟩) qq_2 (.bool ((Qjw l0 b).f0))).trans hx412_0;replace c:=(Qgd (p:=⟨a,0,none⟩) qq_2 (.bool ((Qjw l0 b).f0))).trans c;replace d:=(Qgd (p:=⟨a,0,none⟩) qq_2 (.bool ((Qjw l0 b).f0))).trans d;replace j:=(Qgd (p:=⟨a,0,none⟩) qq_2 (.bool ((Qjw l0 b).f0))).trans j;replace hx412_0:=(Qgd (p:=⟨a,1,none⟩) qq_2 (.int .u64 ((Qjw l0 b).f1))).trans hx412_0;replace c:=(Qgd (p:=⟨a,1,none⟩) qq_2 (.int .u64 ((Qjw l0 b).f1))).trans c;replace d:=(Qgd (p:=⟨a,1,none⟩) qq_2 (.int .u64 ((Qjw l0 b).f1))).trans d;replace j:=(Qgd (p:=⟨a,1,none⟩) qq_2 (.int .u64 ((Qjw l0 b).f1))).trans j;replace hx412_0:=(Qgd (p:=⟨a,2,none⟩) qq_2 (.string ((Qjw l0 b).f2))).trans hx412_0;replace c:=(Qgd (p:=⟨a,2,none⟩) qq_2 (.string ((Qjw l0 b).f2))).trans c;replace d:=(Qgd (p:=⟨a,2,none⟩) qq_2 (.string ((Qjw l0 b).f2))).trans d;replace j:=(Qgd (p:=⟨a,2,none⟩) qq_2 (.string ((Qjw l0 b).f2))).trans j;replace hx412_0:=(Qgd (p:=⟨a,3,none⟩) qq_2 (.string ((Qjw l0 b).f3))).trans hx412_0;replace c:=(Qgd (p:=⟨a,3,none⟩) qq_2 (.string ((Qjw l0 b).f3))).trans c;replace d:=(Qgd (p:=⟨a,3,none⟩) qq_2 (.string ((Qjw l0 b).f3))).trans d;replace j:=(Qgd (p:=⟨a,3,none⟩) qq_2 (.string ((Qjw l0 b).f3))).trans j;(try have X:=fun (n_:Nat)=>(show((((((T.drewN n_).setCell ⟨a,0,none⟩ (.bool ((Qjw l0 b).f0))).setCell ⟨a,1,none⟩ (.int .u64 ((Qjw l0 b).f1))).setCell ⟨a,2,none⟩ (.string ((Qjw l0 b).f2))).setCell ⟨a,3,none⟩ (.string ((Qjw l0 b).f3)))).cell? _=some _ from hx412_0));(try have Y:=fun (n_:Nat)=>(show((((((T.drewN n_).setCell ⟨a,0,none⟩ (.bool ((Qjw l0 b).f0))).setCell ⟨a,1,none⟩ (.int .u64 ((Qjw l0 b).f1))).setCell ⟨a,2,none⟩ (.string ((Qjw l0 b).f2))).setCell ⟨a,3,none⟩ (.string ((Qjw l0 b).f3)))).cell? _=some _ from c));(try have Z:=fun (n_:Nat)=>(show((((((T.drewN n_).setCell ⟨a,0,none⟩ (.bool ((Qjw l0 b).f0))).setCell ⟨a,1,none⟩ (.int .u64 ((Qjw l0 b).f1))).setCell ⟨a,2,none⟩ (.string ((Qjw l0 b).f2))).setCell ⟨a,3,none⟩ (.string ((Qjw l0 b).f3)))).cell? _=some _ from d));(try have aa:=fun (n_:Nat)=>(show((((((T.drewN n_).setCell ⟨a,0,none⟩ (.bool ((Qjw l0 b).f0))).setCell ⟨a,1,none⟩ (.int .u64 ((Qjw l0 b).f1))).setCell ⟨a,2,none⟩ (.string ((Qjw l0 b).f2))).setCell ⟨a,3,none⟩ (.string ((Qjw l0 b).f3)))).cell? _=some _ from j));clear u v x y;replace s:=eq_true s;replace t:=eq_true t));try go_wp2_with (first |((with_reducible refine Qgj (N:=7) rfl ?_);refine qq_e 7 #[.bool false,.int .u64 0,.string (⟨#[]⟩:ByteArray),.string (⟨#[]⟩:ByteArray)] 37 ?_;intro a hg T hbox hb;have n_:=qn4 (Qfy qq_b hb) (hbox) (qq_s hg:w.heap.size≤a) (qq_s hg:w.heap.size≤a);clear HB;obtain⟨HB,n,m,U⟩:=n_;clear hb hbox hg;obtain⟨al,am,an,ao⟩:=qc4 n.out;have aE:=Qej n.out;have s:0≤((q):Int):=of_decide_eq_true qq_3;have t:(q)<(l0.length:Int):=of_decide_eq_true qq_3;obtain⟨E,P,hx412_0,c,d,j⟩:=Qjx ac.out (q) s t;obtain rfl:l=E:=(by injection P);have u:l.block≠a:=Nat.ne_of_lt (Nat.lt_of_lt_of_le qq_11 m.out);have v:l.block≠a:=Nat.ne_of_lt (Nat.lt_of_lt_of_le qq_11 m.out);have x:l.block≠a:=Nat.ne_of_lt (Nat.lt_of_lt_of_le qq_11 m.out);have y:l.block≠a:=Nat.ne_of_lt (Nat.lt_of_lt_of_le qq_11 m.out);replace hx412_0:=qq_h HB.out hx412_0;replace c:=qq_h HB.out c;replace d:=qq_h HB.out d;replace j:=qq_h HB.out j;replace hx412_0:=(Qgd (p:=⟨a,0,none⟩) qq_2 (.bool ((Qjw l0 b).f0))).trans hx412_0;replace c:=(Qgd (p:=⟨a,0,none⟩) qq_2 (.bool ((Qjw l0 b).f0))).trans c;replace d:=(Qgd (p:=⟨a,0,none⟩) qq_2 (.bool ((Qjw l0 b).f0))).trans d;replace j:=(Qgd (p:=⟨a,0,none⟩) qq_2 (.bool ((Qjw l0 b).f0))).trans j;replace hx412_0:=(Qgd (p:=⟨a,1,none⟩) qq_2 (.int .u64 ((Qjw l0 b).f1))).trans hx412_0;replace c:=(Qgd (p:=⟨a,1,none⟩) qq_2 (.int .u64 ((Qjw l0 b).f1))).trans c;replace d:=(Qgd (p:=⟨a,1,none⟩) qq_2 (.int .u64 ((Qjw l0 b).f1))).trans d;replace j:=(Qgd (p:=⟨a,1,none⟩) qq_2 (.int .u64 ((Qjw l0 b).f1))).trans j;replace hx412_0:=(Qgd (p:=⟨a,2,none⟩) qq_2 (.string ((Qjw l0 b).f2))).trans hx412_0;replace c:=(Qgd (p:=⟨a,2,none⟩) qq_2 (.string ((Qjw l0 b).f2))).trans c;replace d:=(Qgd (p:=⟨a,2,none⟩) qq_2 (.string ((Qjw l0 b).f2))).trans d;replace j:=(Qgd (p:=⟨a,2,none⟩) qq_2 (.string ((Qjw l0 b).f2))).trans j;replace hx412_0:=(Qgd (p:=⟨a,3,none⟩) qq_2 (.string ((Qjw l0 b).f3))).trans hx412_0;replace c:=(Qgd (p:=⟨a,3,none⟩) qq_2 (.string ((Qjw l0 b).f3))).trans c;replace d:=(Qgd (p:=⟨a,3,none⟩) qq_2 (.string ((Qjw l0 b).f3))).trans d;replace j:=(Qgd (p:=⟨a,3,none⟩) qq_2 (.string ((Qjw l0 b).f3))).trans j;(try have X:=fun (n_:Nat)=>(show((((((T.drewN n_).setCell ⟨a,0,none⟩ (.bool ((Qjw l0 b).f0))).setCell ⟨a,1,none⟩ (.int .u64 ((Qjw l0 b).f1))).setCell ⟨a,2,none⟩ (.string ((Qjw l0 b).f2))).setCell ⟨a,3,none⟩ (.string ((Qjw l0 b).f3)))).cell? _=some _ from hx412_0));(try have Y:=fun (n_:Nat)=>(show((((((T.drewN n_).setCell ⟨a,0,none⟩ (.bool ((Qjw l0 b).f0))).setCell ⟨a,1,none⟩ (.int .u64 ((Qjw l0 b).f1))).setCell ⟨a,2,none⟩ (.string ((Qjw l0 b).f2))).setCell ⟨a,3,none⟩ (.string ((Qjw l0 b).f3)))).cell? _=some _ from c));(try have Z:=fun (n_:Nat)=>(show((((((T.drewN n_).setCell ⟨a,0,none⟩ (.bool ((Qjw l0 b).f0))).setCell ⟨a,1,none⟩ (.int .u64 ((Qjw l0 b).f1))).setCell ⟨a,2,none⟩ (.string ((Qjw l0 b).f2))).setCell ⟨a,3,none⟩ (.string ((Qjw l0 b).f3)))).cell? _=some _ from d));(try have aa:=fun (n_:Nat)=>(show((((((T.drewN n_).setCell ⟨a,0,none⟩ (.bool ((Qjw l0 b).f0))).setCell ⟨a,1,none⟩ (.int .u64 ((Qjw l0 b).f1))).setCell ⟨a,2,none⟩ (.string ((Qjw l0 b).f2))).setCell ⟨a,3,none⟩ (.string ((Qjw l0 b).f3)))).cell? _=some _ from j));clear u v x y;replace s:=eq_true s;replace t:=eq_true t)))
             go_ret
             exact⟨by first|rfl |(simp[Qjm,Qjn]<;>rfl) |(simp only[← ag];first|rfl |(simp[Qjm,Qjn]<;>rfl)) |(simp[*,Qjm,Qjn]<;>rfl),qq_b⟩
            ·rw[if_neg ak]at H;have aY:=decide_eq_false ak;clear ak;have H':=QA H;clear H;have M:0≤(b:Int):=of_decide_eq_true qq_3;have O:b<(l0.length:Int):=of_decide_eq_true qq_3;obtain⟨l,ah,z,A,B,D⟩:=Qjx ac.out b M O
             cases ah
             replace z:=qq_h HB.out z;replace A:=qq_h HB.out A;replace B:=qq_h HB.out B;replace D:=qq_h HB.out D;replace M:=eq_true M;replace O:=eq_true O
             go_wp2_with (first |((with_reducible refine Qgj (N:=7) rfl ?_);refine qq_e 7 #[.bool false,.int .u64 0,.string (⟨#[]⟩:ByteArray),.string (⟨#[]⟩:ByteArray)] 37 ?_;intro a hg W hbox hb;have n_:=qn4 (Qfy qq_b hb) (hbox) (qq_s hg:w.heap.size≤a) (qq_s hg:w.heap.size≤a);clear HB;obtain⟨HB,n,m,U⟩:=n_;clear hb hbox hg;obtain⟨ap,aq,ar,au⟩:=qc4 n.out;have aF:=Qej n.out;have s:0≤((q):Int):=of_decide_eq_true qq_3;have t:(q)<(l0.length:Int):=of_decide_eq_true qq_3;obtain⟨E,P,hx412_0,c,d,j⟩:=Qjx ac.out (q) s t;obtain rfl:l=E:=(by injection P);have u:l.block≠a:=Nat.ne_of_lt (Nat.lt_of_lt_of_le qq_11 m.out);have v:l.block≠a:=Nat.ne_of_lt (Nat.lt_of_lt_of_le qq_11 m.out);have x:l.block≠a:=Nat.ne_of_lt (Nat.lt_of_lt_of_le qq_11 m.out);have y:l.block≠a:=Nat.ne_of_lt (Nat.lt_of_lt_of_le qq_11 m.out);replace hx412_0:=qq_h HB.out hx412_0;replace c:=qq_h HB.out c;replace d:=qq_h HB.out d;replace j:=qq_h HB.out j;replace hx412_0:=(Qgd (p:=⟨a,0,none⟩) qq_2 (.bool ((Qjw l0 b).f0))).trans hx412_0;replace c:=(Qgd (p:=⟨a,0,none⟩) qq_2 (.bool ((Qjw l0 b).f0))).trans c;replace d:=(Qgd (p:=⟨a,0,none⟩) qq_2 (.bool ((Qjw l0 b).f0))).trans d;replace j:=(Qgd (p:=⟨a,0,none⟩) qq_2 (.bool ((Qjw l0 b).f0))).trans j;replace hx412_0:=(Qgd (p:=⟨a,1,none⟩) qq_2 (.int .u64 ((Qjw l0 b).f1))).trans hx412_0;replace c:=(Qgd (p:=⟨a,1,none⟩) qq_2 (.int .u64 ((Qjw l0 b).f1))).trans c;replace d:=(Qgd (p:=⟨a,1,none⟩) qq_2 (.int .u64 ((Qjw l0 b).f1))).trans d;replace j:=(Qgd (p:=⟨a,1,none⟩) qq_2 (.int .u64 ((Qjw l0 b).f1))).trans j;replace hx412_0:=(Qgd (p:=⟨a,2,none⟩) qq_2 (.string ((Qjw l0 b).f2))).trans hx412_0;replace c:=(Qgd (p:=⟨a,2,none⟩) qq_2 (.string ((Qjw l0 b).f2))).trans c;replace d:=(Qgd (p:=⟨a,2,none⟩) qq_2 (.string ((Qjw l0 b).f2))).trans d;replace j:=(Qgd (p:=⟨a,2,none⟩) qq_2 (.string ((Qjw l0 b).f2))).trans j;replace hx412_0:=(Qgd (p:=⟨a,3,none⟩) qq_2 (.string ((Qjw l0 b).f3))).trans hx412_0;replace c:=(Qgd (p:=⟨a,3,none⟩) qq_2 (.string ((Qjw l0 b).f3))).trans c;replace d:=(Qgd (p:=⟨a,3,none⟩) qq_2 (.string ((Qjw l0 b).f3))).trans d;replace j:=(Qgd (p:=⟨a,3,none⟩) qq_2 (.string ((Qjw l0 b).f3))).trans j;(try have X:=fun (n_:Nat)=>(show((((((W.drewN n_).setCell ⟨a,0,none⟩ (.bool ((Qjw l0 b).f0))).setCell ⟨a,1,none⟩ (.int .u64 ((Qjw l0 b).f1))).setCell ⟨a,2,none⟩ (.string ((Qjw l0 b).f2))).setCell ⟨a,3,none⟩ (.string ((Qjw l0 b).f3)))).cell? _=some _ from hx412_0));(try have Y:=fun (n_:Nat)=>(show((((((W.drewN n_).setCell ⟨a,0,none⟩ (.bool ((Qjw l0 b).f0))).setCell ⟨a,1,none⟩ (.int .u64 ((Qjw l0 b).f1))).setCell ⟨a,2,none⟩ (.string ((Qjw l0 b).f2))).setCell ⟨a,3,none⟩ (.string ((Qjw l0 b).f3)))).cell? _=some _ from c));(try have Z:=fun (n_:Nat)=>(show((((((W.drewN n_).setCell ⟨a,0,none⟩ (.bool ((Qjw l0 b).f0))).setCell ⟨a,1,none⟩ (.int .u64 ((Qjw l0 b).f1))).setCell ⟨a,2,none⟩ (.string ((Qjw l0 b).f2))).setCell ⟨a,3,none⟩ (.string ((Qjw l0 b).f3)))).cell? _=some _ from d));(try have aa:=fun (n_:Nat)=>(show((((((W.drewN n_).setCell ⟨a,0,none⟩ (.bool ((Qjw l0 b).f0))).setCell ⟨a,1,none⟩ (.int .u64 ((Qjw l0 b).f1))).setCell ⟨a,2,none⟩ (.string ((Qjw l0 b).f2))).setCell ⟨a,3,none⟩ (.string ((Qjw l0 b).f3)))).cell? _=some _ from j));clear u v x y;replace s:=eq_true s;replace t:=eq_true t))
             repeat(go_quiet (first |((with_reducible refine Qgj (N:=7) rfl ?_);refine qq_e 7 #[.bool false,.int .u64 0,.string (⟨#[]⟩:ByteArray),.string (⟨#[]⟩:ByteArray)] 37 ?_;intro a hg W hbox hb;have n_:=qn4 (Qfy qq_b hb) (hbox) (qq_s hg:w.heap.size≤a) (qq_s hg:w.heap.size≤a);clear HB;obtain⟨HB,n,m,U⟩:=n_;clear hb hbox hg;obtain⟨ap,aq,ar,au⟩:=qc4 n.out;have aF:=Qej n.out;have s:0≤((q):Int):=of_decide_eq_true qq_3;have t:(q)<(l0.length:Int):=of_decide_eq_true qq_3;obtain⟨E,P,hx412_0,c,d,j⟩:=Qjx ac.out (q) s t;obtain rfl:l=E:=(by injection P);have u:l.block≠a:=Nat.ne_of_lt (Nat.lt_of_lt_of_le qq_11 m.out);have v:l.block≠a:=Nat.ne_of_lt (Nat.lt_of_lt_of_le qq_11 m.out);have x:l.block≠a:=Nat.ne_of_lt (Nat.lt_of_lt_of_le qq_11 m.out);have y:l.block≠a:=Nat.ne_of_lt (Nat.lt_of_lt_of_le qq_11 m.out);replace hx412_0:=qq_h HB.out hx412_0;replace c:=qq_h HB.out c;replace d:=qq_h HB.out d;replace j:=qq_h HB.out j;replace hx412_0:=(Qgd (p:=⟨a,0,none⟩) qq_2 (.bool ((Qjw l0 b).f0))).trans hx412_0;replace c:=(Qgd (p:=⟨a,0,none⟩) qq_2 (.bool ((Qjw l0 b).f0))).trans c;replace d:=(Qgd (p:=⟨a,0,none⟩) qq_2 (.bool ((Qjw l0 b).f0))).trans d;replace j:=(Qgd (p:=⟨a,0,none⟩) qq_2 (.bool ((Qjw l0 b).f0))).trans j;replace hx412_0:=(Qgd (p:=⟨a,1,none⟩) qq_2 (.int .u64 ((Qjw l0 b).f1))).trans hx412_0;replace c:=(Qgd (p:=⟨a,1,none⟩) qq_2 (.int .u64 ((Qjw l0 b).f1))).trans c;replace d:=(Qgd (p:=⟨a,1,none⟩) qq_2 (.int .u64 ((Qjw l0 b).f1))).trans d;replace j:=(Qgd (p:=⟨a,1,none⟩) qq_2 (.int .u64 ((Qjw l0 b).f1))).trans j;replace hx412_0:=(Qgd (p:=⟨a,2,none⟩) qq_2 (.string ((Qjw l0 b).f2))).trans hx412_0;replace c:=(Qgd (p:=⟨a,2,none⟩) qq_2 (.string ((Qjw l0 b).f2))).trans c;replace d:=(Qgd (p:=⟨a,2,none⟩) qq_2 (.string ((Qjw l0 b).f2))).trans d;replace j:=(Qgd (p:=⟨a,2,none⟩) qq_2 (.string ((Qjw l0 b).f2))).trans j;replace hx412_0:=(Qgd (p:=⟨a,3,none⟩) qq_2 (.string ((Qjw l0 b).f3))).trans hx412_0;replace c:=(Qgd (p:=⟨a,3,none⟩) qq_2 (.string ((Qjw l0 b).f3))).trans c;replace d:=(Qgd (p:=⟨a,3,none⟩) qq_2 (.string ((Qjw l0 b).f3))).trans d;replace j:=(Qgd (p:=⟨a,3,none⟩) qq_2 (.string ((Qjw l0 b).f3))).trans j;(try have X:=fun (n_:Nat)=>(show((((((W.drewN n_).setCell ⟨a,0,none⟩ (.bool ((Qjw l0 b).f0))).setCell ⟨a,1,none⟩ (.int .u64 ((Qjw l0 b).f1))).setCell ⟨a,2,none⟩ (.string ((Qjw l0 b).f2))).setCell ⟨a,3,none⟩ (.string ((Qjw l0 b).f3)))).cell? _=some _ from hx412_0));(try have Y:=fun (n_:Nat)=>(show((((((W.drewN n_).setCell ⟨a,0,none⟩ (.bool ((Qjw l0 b).f0))).setCell ⟨a,1,none⟩ (.int .u64 ((Qjw l0 b).f1))).setCell ⟨a,2,none⟩ (.string ((Qjw l0 b).f2))).setCell ⟨a,3,none⟩ (.string ((Qjw l0 b).f3)))).cell? _=some _ from c));(try have Z:=fun (n_:Nat)=>(show((((((W.drewN n_).setCell ⟨a,0,none⟩ (.bool ((Qjw l0 b).f0))).setCell ⟨a,1,none⟩ (.int .u64 ((Qjw l0 b).f1))).setCell ⟨a,2,none⟩ (.string ((Qjw l0 b).f2))).setCell ⟨a,3,none⟩ (.string ((Qjw l0 b).f3)))).cell? _=some _ from d));(try have aa:=fun (n_:Nat)=>(show((((((W.drewN n_).setCell ⟨a,0,none⟩ (.bool ((Qjw l0 b).f0))).setCell ⟨a,1,none⟩ (.int .u64 ((Qjw l0 b).f1))).setCell ⟨a,2,none⟩ (.string ((Qjw l0 b).f2))).setCell ⟨a,3,none⟩ (.string ((Qjw l0 b).f3)))).cell? _=some _ from j));clear u v x y;replace s:=eq_true s;replace t:=eq_true t));try go_wp2_with (first |((with_reducible refine Qgj (N:=7) rfl ?_);refine qq_e 7 #[.bool false,.int .u64 0,.string (⟨#[]⟩:ByteArray),.string (⟨#[]⟩:ByteArray)] 37 ?_;intro a hg W hbox hb;have n_:=qn4 (Qfy qq_b hb) (hbox) (qq_s hg:w.heap.size≤a) (qq_s hg:w.heap.size≤a);clear HB;obtain⟨HB,n,m,U⟩:=n_;clear hb hbox hg;obtain⟨ap,aq,ar,au⟩:=qc4 n.out;have aF:=Qej n.out;have s:0≤((q):Int):=of_decide_eq_true qq_3;have t:(q)<(l0.length:Int):=of_decide_eq_true qq_3;obtain⟨E,P,hx412_0,c,d,j⟩:=Qjx ac.out (q) s t;obtain rfl:l=E:=(by injection P);have u:l.block≠a:=Nat.ne_of_lt (Nat.lt_of_lt_of_le qq_11 m.out);have v:l.block≠a:=Nat.ne_of_lt (Nat.lt_of_lt_of_le qq_11 m.out);have x:l.block≠a:=Nat.ne_of_lt (Nat.lt_of_lt_of_le qq_11 m.out);have y:l.block≠a:=Nat.ne_of_lt (Nat.lt_of_lt_of_le qq_11 m.out);replace hx412_0:=qq_h HB.out hx412_0;replace c:=qq_h HB.out c;replace d:=qq_h HB.out d;replace j:=qq_h HB.out j;replace hx412_0:=(Qgd (p:=⟨a,0,none⟩) qq_2 (.bool ((Qjw l0 b).f0))).trans hx412_0;replace c:=(Qgd (p:=⟨a,0,none⟩) qq_2 (.bool ((Qjw l0 b).f0))).trans c;replace d:=(Qgd (p:=⟨a,0,none⟩) qq_2 (.bool ((Qjw l0 b).f0))).trans d;replace j:=(Qgd (p:=⟨a,0,none⟩) qq_2 (.bool ((Qjw l0 b).f0))).trans j;replace hx412_0:=(Qgd (p:=⟨a,1,none⟩) qq_2 (.int .u64 ((Qjw l0 b).f1))).trans hx412_0;replace c:=(Qgd (p:=⟨a,1,none⟩) qq_2 (.int .u64 ((Qjw l0 b).f1))).trans c;replace d:=(Qgd (p:=⟨a,1,none⟩) qq_2 (.int .u64 ((Qjw l0 b).f1))).trans d;replace j:=(Qgd (p:=⟨a,1,none⟩) qq_2 (.int .u64 ((Qjw l0 b).f1))).trans j;replace hx412_0:=(Qgd (p:=⟨a,2,none⟩) qq_2 (.string ((Qjw l0 b).f2))).trans hx412_0;replace c:=(Qgd (p:=⟨a,2,none⟩) qq_2 (.string ((Qjw l0 b).f2))).trans c;replace d:=(Qgd (p:=⟨a,2,none⟩) qq_2 (.string ((Qjw l0 b).f2))).trans d;replace j:=(Qgd (p:=⟨a,2,none⟩) qq_2 (.string ((Qjw l0 b).f2))).trans j;replace hx412_0:=(Qgd (p:=⟨a,3,none⟩) qq_2 (.string ((Qjw l0 b).f3))).trans hx412_0;replace c:=(Qgd (p:=⟨a,3,none⟩) qq_2 (.string ((Qjw l0 b).f3))).trans c;replace d:=(Qgd (p:=⟨a,3,none⟩) qq_2 (.string ((Qjw l0 b).f3))).trans d;replace j:=(Qgd (p:=⟨a,3,none⟩) qq_2 (.string ((Qjw l0 b).f3))).trans j;(try have X:=fun (n_:Nat)=>(show((((((W.drewN n_).setCell ⟨a,0,none⟩ (.bool ((Qjw l0 b).f0))).setCell ⟨a,1,none⟩ (.int .u64 ((Qjw l0 b).f1))).setCell ⟨a,2,none⟩ (.string ((Qjw l0 b).f2))).setCell ⟨a,3,none⟩ (.string ((Qjw l0 b).f3)))).cell? _=some _ from hx412_0));(try have Y:=fun (n_:Nat)=>(show((((((W.drewN n_).setCell ⟨a,0,none⟩ (.bool ((Qjw l0 b).f0))).setCell ⟨a,1,none⟩ (.int .u64 ((Qjw l0 b).f1))).setCell ⟨a,2,none⟩ (.string ((Qjw l0 b).f2))).setCell ⟨a,3,none⟩ (.string ((Qjw l0 b).f3)))).cell? _=some _ from c));(try have Z:=fun (n_:Nat)=>(show((((((W.drewN n_).setCell ⟨a,0,none⟩ (.bool ((Qjw l0 b).f0))).setCell ⟨a,1,none⟩ (.int .u64 ((Qjw l0 b).f1))).setCell ⟨a,2,none⟩ (.string ((Qjw l0 b).f2))).setCell ⟨a,3,none⟩ (.string ((Qjw l0 b).f3)))).cell? _=some _ from d));(try have aa:=fun (n_:Nat)=>(show((((((W.drewN n_).setCell ⟨a,0,none⟩ (.bool ((Qjw l0 b).f0))).setCell ⟨a,1,none⟩ (.int .u64 ((Qjw l0 b).f1))).setCell ⟨a,2,none⟩ (.string ((Qjw l0 b).f2))).setCell ⟨a,3,none⟩ (.string ((Qjw l0 b).f3)))).cell? _=some _ from j));clear u v x y;replace s:=eq_true s;replace t:=eq_true t)))
             go_roundg k2
             case measure=>have:=HK1.out;have:=HK2.out;omega
             case rel=>exact⟨(wrap64 (b+1)),qq_7,H',⟨by have:=HK1.out;have:=HK2.out;omega⟩,⟨qq_b⟩⟩
           ·rw[if_neg aD]at H;exact absurd H (by simp)
          ·rw[if_neg aC]at H;exact absurd H (by simp)
         ·rw[if_neg aj]at H;have aX:decide (0<b)=false:=decide_eq_false aj;clear aj;have H':=QA H;clear H;have M:0≤(b:Int):=of_decide_eq_true qq_3;have O:b<(l0.length:Int):=of_decide_eq_true qq_3;obtain⟨l,ah,z,A,B,D⟩:=Qjx ac.out b M O
          cases ah
          replace z:=qq_h HB.out z;replace A:=qq_h HB.out A;replace B:=qq_h HB.out B;replace D:=qq_h HB.out D;replace M:=eq_true M;replace O:=eq_true O
          go_wp2_with (first |((with_reducible refine Qgj (N:=7) rfl ?_);refine qq_e 7 #[.bool false,.int .u64 0,.string (⟨#[]⟩:ByteArray),.string (⟨#[]⟩:ByteArray)] 37 ?_;intro a hg ba hbox hb;have n_:=qn4 (Qfy qq_b hb) (hbox) (qq_s hg:w.heap.size≤a) (qq_s hg:w.heap.size≤a);clear HB;obtain⟨HB,n,m,U⟩:=n_;clear hb hbox hg;obtain⟨av,aw,ax,ay⟩:=qc4 n.out;have aG:=Qej n.out))
          repeat(go_quiet (first |((with_reducible refine Qgj (N:=7) rfl ?_);refine qq_e 7 #[.bool false,.int .u64 0,.string (⟨#[]⟩:ByteArray),.string (⟨#[]⟩:ByteArray)] 37 ?_;intro a hg ba hbox hb;have n_:=qn4 (Qfy qq_b hb) (hbox) (qq_s hg:w.heap.size≤a) (qq_s hg:w.heap.size≤a);clear HB;obtain⟨HB,n,m,U⟩:=n_;clear hb hbox hg;obtain⟨av,aw,ax,ay⟩:=qc4 n.out;have aG:=Qej n.out));try go_wp2_with (first |((with_reducible refine Qgj (N:=7) rfl ?_);refine qq_e 7 #[.bool false,.int .u64 0,.string (⟨#[]⟩:ByteArray),.string (⟨#[]⟩:ByteArray)] 37 ?_;intro a hg ba hbox hb;have n_:=qn4 (Qfy qq_b hb) (hbox) (qq_s hg:w.heap.size≤a) (qq_s hg:w.heap.size≤a);clear HB;obtain⟨HB,n,m,U⟩:=n_;clear hb hbox hg;obtain⟨av,aw,ax,ay⟩:=qc4 n.out;have aG:=Qej n.out)))
          go_roundg k2
          case measure=>have:=HK1.out;have:=HK2.out;omega
          case rel=>exact⟨(wrap64 (b+1)),qq_7,H',⟨by have:=HK1.out;have:=HK2.out;omega⟩,⟨qq_b⟩⟩
        ·rw[if_neg aB]at H;exact absurd H (by simp)
       ·rw[if_neg aA]at H;exact absurd H (by simp)
      ·rw[if_neg ai]at H;have aW:=decide_eq_false ai;clear ai;obtain rfl:=Option.some.inj H;go_wp2
       repeat(go_quiet (fail);try go_wp2)
       go_ret
       exact⟨qq_5,qq_b⟩
def Qas.f(l0_0:List (S158))(a0_1:Int)(a1:Int):Option (Int):=if a0_1<0 then(some a1)else(some (mn a1 a0_1))
theorem Qas.calls(g:Option Addr)(j:Nat)(b:List (S158))(a:Int)(a1:Int)(r:Int)(w:World)(hr0_0:Kd.C k158 w g b.length b)(hc0_0:b.length≤j)(h:Qas.f b a a1=some r) :
  Calls Tryz.prog 83 #[.agg #[.slice g b.length j,.int .i64 a],.int .i64 a1] w fun e w'=>e=.returned (.int .i64 r)∧Below w.heap.size w w':=by
 have hu81:=Tryz.underlying81;have u:=QA hr0_0;have v:=QA hc0_0;clear hr0_0 hc0_0;have HB:=QA (Below.refl w.heap.size w);have H:(if a<0 then(some a1)else(some (mn a1 a)))=some r:=h;clear h
 by_cases c3:a<0
 ·rw[if_pos c3]at H;have o:=decide_eq_true c3;clear c3;obtain rfl:=Option.some.inj H
  go_enter Tryz.func83,Tryz.ntmps83
  go_wp2_with (first |((with_reducible refine Qgj (N:=2) rfl ?_);refine qq_e 2 #[.slice g b.length j,.int .i64 a] 81 ?_;intro c hg w4 hbox hb;have n_:=qn4 (Qfy qq_b hb) (hbox) (qq_s hg:w.heap.size≤c) (qq_s hg:w.heap.size≤c);clear HB;obtain⟨HB,d,l,m⟩:=n_;clear hb hbox hg;obtain⟨p,q⟩:=qc2 d.out;have y:=Qej d.out))
  go_ret
  exact⟨qq_5,qq_b⟩
 ·rw[if_neg c3]at H;have o:=decide_eq_false c3;clear c3;obtain⟨n,k⟩:∃j_:Int,(mn a1 a)=j_:=⟨_,rfl⟩;replace H:(some n)=some r:=by first |(rw[k]at H;exact H) |(simp only[k]at H ⊢;exact H)
  have x:(if a<a1 then a else a1)=n:=k;obtain rfl:=Option.some.inj H
  go_enter Tryz.func83,Tryz.ntmps83
  go_wp2_with (first |((with_reducible refine Qgj (N:=2) rfl ?_);refine qq_e 2 #[.slice g b.length j,.int .i64 a] 81 ?_;intro c hg w7 hbox hb;have n_:=qn4 (Qfy qq_b hb) (hbox) (qq_s hg:w.heap.size≤c) (qq_s hg:w.heap.size≤c);clear HB;obtain⟨HB,d,l,m⟩:=n_;clear hb hbox hg;obtain⟨s,t⟩:=qc2 d.out;have z:=Qej d.out))
  go_ret
  exact⟨by first|rfl |(simp[Qjm,Qjn]<;>rfl) |(simp only[← k];first|rfl |(simp[Qjm,Qjn]<;>rfl)) |(simp[*,Qjm,Qjn]<;>rfl),qq_b⟩
end Go.Proofs.YteaocbonofboeaaGreat.C
end
