/- Merged texts. -/
import Derived.Test.YtnnofopfbeklbaaGreatMK02
import Derived.Test.YtnnofopfbeklbaaGreatMK22
set_option linter.unusedVariables false
set_option linter.unusedSimpArgs false
set_option maxHeartbeats 8000000
set_option maxRecDepth 100000
section
namespace Go.Proofs.YtnnofopfbeklbaaGreat.C
open Go.RowKit Go.Proofs.YtnnofopfbeklbaaGreatW.PrintWords Go.Proofs.YtnnofopfbeklbaaGreatW.PrintLast Go.Proofs.YtnnofopfbeklbaaGreatW.PrintMore
attribute [local go_sem] Qjm Qjn Qjo Qjp Qjq Qjr Qjs Qjt
def Qbq.j0:Nat→ByteArray→Int→Int→Bool→Option (ByteArray × ByteArray × Int × Int)
 | 0,_,_,_,_=>none
 | k+1,x0,x5,x6,x27=>if x27=true then(some ((⟨#[]⟩:ByteArray),(⟨#[]⟩:ByteArray),0,3))else(if(x0.size:Int)<(wrap64 ((wrap64 ((wrap64 (8+(wrap64 (x5))))+(wrap64 (x6))))+4))then(some ((⟨#[]⟩:ByteArray),(⟨#[]⟩:ByteArray),0,2))else(if 8≤(wrap64 (8+(wrap64 (x5))))then(if(wrap64 (8+(wrap64 (x5))))≤(x0.size:Int)then(if 0≤(wrap64 (8+(wrap64 (x5))))then(if(wrap64 (8+(wrap64 (x5))))≤(wrap64 ((wrap64 (8+(wrap64 (x5))))+(wrap64 (x6))))then(if(wrap64 ((wrap64 (8+(wrap64 (x5))))+(wrap64 (x6))))≤(x0.size:Int)then((Qbs.f k (x0.extract 8 ((wrap64 (8+(wrap64 (x5)))):Int).toNat) (x0.extract ((wrap64 (8+(wrap64 (x5)))):Int).toNat ((wrap64 ((wrap64 (8+(wrap64 (x5))))+(wrap64 (x6)))):Int).toNat)).bind fun t781=>(if 0≤(wrap64 ((wrap64 ((wrap64 (8+(wrap64 (x5))))+(wrap64 (x6))))+4))then(if(wrap64 ((wrap64 ((wrap64 (8+(wrap64 (x5))))+(wrap64 (x6))))+4))≤(x0.size:Int)then(if t781.toList=(x0.extract 0 ((wrap64 ((wrap64 ((wrap64 (8+(wrap64 (x5))))+(wrap64 (x6))))+4)):Int).toNat).toList then(some (x0.extract 8 ((wrap64 (8+(wrap64 (x5)))):Int).toNat,x0.extract ((wrap64 (8+(wrap64 (x5)))):Int).toNat ((wrap64 ((wrap64 (8+(wrap64 (x5))))+(wrap64 (x6)))):Int).toNat,wrap64 ((wrap64 ((wrap64 (8+(wrap64 (x5))))+(wrap64 (x6))))+4),0))else(some ((⟨#[]⟩:ByteArray),(⟨#[]⟩:ByteArray),0,5)))else(none))else(none)))else(none))else(none))else(none))else(none))else(none)))
def Qbq.f(k:Nat)(a0:ByteArray):Option (ByteArray × ByteArray × Int × Int):=if(a0.size:Int)<8 then(some ((⟨#[]⟩:ByteArray),(⟨#[]⟩:ByteArray),0,2))else(if 0≤4 then(if 4≤(a0.size:Int)then((Qav.f k (a0.extract 0 4)).bind fun t778=>(if 4≤8 then(if 8≤(a0.size:Int)then((Qav.f k (a0.extract 4 8)).bind fun t779=>(if t778=0 then(some ((⟨#[]⟩:ByteArray),(⟨#[]⟩:ByteArray),0,4))else(if t778 > 4096 then(Qbq.j0 k a0 t778 t779 true)else(Qbq.j0 k a0 t778 t779 (decide (t779 > 1048576))))))else(none))else(none)))else(none))else(none))
def Qbq.T12:Bool × List (List Nat × List Nat):=(true,[([],[]),([],[]),([1],[1]),([2],[2]),([0,3],[0,3]),([],[]),([],[]),([6],[6]),([7],[7]),([],[]),([5,8,9],[5,8,9]),([4,10],[4,10]),([],[]),([12,11,0,1,2,3,4,5,6,7,8,9,10,11,12],[11,12])])
def Qbq.B12:List Nat:=[0,0,2,6,15,0,0,64,192,0,992,2047,0,8191]
theorem Qbq.tab12:rtab .any (Qjd Tryz.f142 12)=Qbq.T12:=by kernel_rfl
theorem Qbq.bits12:Qix Qbq.T12.2 Qbq.B12=true:=by kernel_rfl
theorem Qbq.calls (k:Nat) (a0:ByteArray) (r1:ByteArray) (r2:ByteArray) (r3:Int) (r4:Int) (w:World) (h:Qbq.f k a0=some (r1,r2,r3,r4)) :
  Calls Tryz.prog 142 #[.string a0] w fun e w'=>e=.returned (.tuple #[.agg #[.string r1,.string r2],.int .i64 r3,.int .i64 r4])∧Below w.heap.size w w':=by
 have hu210:=Tryz.underlying210;have HB:=QA (Below.refl w.heap.size w);have H:(if(a0.size:Int)<8 then(some ((⟨#[]⟩:ByteArray),(⟨#[]⟩:ByteArray),0,2))else(if 0≤4 then(if 4≤(a0.size:Int)then((Qav.f k (a0.extract 0 4)).bind fun p=>(if 4≤8 then(if 8≤(a0.size:Int)then((Qav.f k (a0.extract 4 8)).bind fun j=>(if p=0 then(some ((⟨#[]⟩:ByteArray),(⟨#[]⟩:ByteArray),0,4))else(if p > 4096 then(Qbq.j0 k a0 p j true)else(Qbq.j0 k a0 p j (decide (j > 1048576))))))else(none))else(none)))else(none))else(none)))=some (r1,r2,r3,r4):=h;clear h
 by_cases c2:(a0.size:Int)<8
 ·rw[if_pos c2]at H;have aj:=decide_eq_true c2;have ak:decide (a0.size<8)=true:=decide_eq_true (by omega);clear c2;simp only[Option.some.injEq,Prod.mk.injEq]at H;obtain⟨rfl,rfl,rfl,rfl⟩:=H
  go_enter Tryz.func142,Tryz.ntmps142
  go_wp2_with (first |((with_reducible refine Qgv (N:=2) rfl ?_);refine qq_e 2 #[.string (⟨#[]⟩:ByteArray),.string (⟨#[]⟩:ByteArray)] 210 ?_;intro l hg w3 hbox hb;have n_:=qn4 (Qgk qq_b hb) (hbox) (qq_s hg:w.heap.size≤l) (qq_s hg:w.heap.size≤l);clear HB;obtain⟨HB,b,Z,aa⟩:=n_;clear hb hbox hg;obtain⟨al,am⟩:=qc2 b.out;have aD:=Qeq b.out))
  refine bodyPost_ret (Qfh rfl _ _ l 210 #[.string (⟨#[]⟩:ByteArray),.string (⟨#[]⟩:ByteArray)] (0,0) _ rfl qq_x Tryz.underlying210 rfl qq_6) rfl ?_;exact⟨qq_7,qq_b⟩
 ·rw [if_neg c2] at H;have aj:=decide_eq_false c2;have ak:decide (a0.size<8)=false:=decide_eq_false (by omega);clear c2
  by_cases c5:0≤4
  ·rw [if_pos c5] at H;have aE:=eq_true c5;have aF:=decide_eq_true c5;clear c5
   by_cases c6:4≤(a0.size:Int)
   ·rw [if_pos c6] at H;have aG:=eq_true c6;have aH:=decide_eq_true c6;clear c6;replace H:=Option.bind_eq_some_iff.mp H;obtain⟨p,aB,H⟩:=H;have A7:=QA aB;clear aB
    by_cases c8:4≤8
    ·rw [if_pos c8] at H;have aI:=eq_true c8;have aJ:=decide_eq_true c8;clear c8
     by_cases c9:8≤(a0.size:Int)
     ·rw [if_pos c9]at H;have aK:=eq_true c9;have aL:=decide_eq_true c9;clear c9;replace H:=Option.bind_eq_some_iff.mp H;obtain⟨j,an,H⟩:=H;have aC:=QA an;clear an
      by_cases E:p=0
      ·rw[if_pos E]at H;have ab:(p == 0)=true:=beq_iff_eq.mpr E;have ac:(p != 0)=false:=bne_eq_false_iff_eq.mpr E;clear E;simp only[Option.some.injEq,Prod.mk.injEq]at H;obtain⟨rfl,rfl,rfl,rfl⟩:=H
       go_enter Tryz.func142,Tryz.ntmps142
       go_wp2_with (first |((with_reducible refine Qgv (N:=2) rfl ?_);refine qq_e 2 #[.string (⟨#[]⟩:ByteArray),.string (⟨#[]⟩:ByteArray)] 210 ?_;intro l hg B hbox hb;have n_:=qn4 (Qgk qq_b hb) (hbox) (qq_s hg:w.heap.size≤l) (qq_s hg:w.heap.size≤l);clear HB;obtain⟨HB,b,Z,aa⟩:=n_;clear hb hbox hg) |((with_reducible refine Qju (f:=107) rfl ?_);refine Qhu (some 15) rfl rfl Tryz.func107 qq_6 rfl #[.string (a0.extract 0 4)] rfl qq_1 ?_;(with_reducible refine(Qav.calls k (a0.extract 0 4) p _ A7.out).mono ?_);rintro e w' ⟨rfl,⟨nd,rfl⟩⟩;refine⟨_,rfl,?_⟩;(try(rw[Qjy B];generalize hq_:World.drewN B _=B;have x:Aside0 (B.heap[l]? = some (.cells #[.string (⟨#[]⟩:ByteArray),.string (⟨#[]⟩:ByteArray)] 210 (0,0))):=⟨by rw[← hq_];exact qq_0⟩;have y:Aside0 (Below w.heap.size w B):=⟨by rw[← hq_];exact qq_b⟩;clear b HB hq_;have b:=x;have HB:=y;clear x y))) |((with_reducible refine Qju (f:=107) rfl ?_);refine Qhu (some 18) rfl rfl Tryz.func107 qq_6 rfl #[.string (a0.extract 4 8)] rfl qq_1 ?_;(with_reducible refine(Qav.calls k (a0.extract 4 8) j _ aC.out).mono ?_);rintro e w' ⟨rfl,⟨nd,rfl⟩⟩;refine⟨_,rfl,?_⟩;(try(rw[Qjy B];generalize hq_:World.drewN B _=B;have x:Aside0 (B.heap[l]? = some (.cells #[.string (⟨#[]⟩:ByteArray),.string (⟨#[]⟩:ByteArray)] 210 (0,0))):=⟨by rw[← hq_];exact qq_0⟩;have y:Aside0 (Below w.heap.size w B):=⟨by rw[← hq_];exact qq_b⟩;clear b HB hq_;have b:=x;have HB:=y;clear x y));obtain⟨ah,ai⟩:=qc2 b.out;have aq:=Qeq b.out))
       refine bodyPost_ret (Qfh rfl _ _ l 210 #[.string (⟨#[]⟩:ByteArray),.string (⟨#[]⟩:ByteArray)] (0,0) _ rfl qq_x Tryz.underlying210 rfl qq_6) rfl ?_;exact⟨qq_7,qq_b⟩
      ·rw [if_neg E]at H;have ab:(p == 0)=false:=beq_eq_false_iff_ne.mpr E;have ac:(p != 0)=true:=bne_iff_ne.mpr E;have Y:=QA H;clear H
       go_enter Tryz.func142,Tryz.ntmps142
       go_upto_region 7 with(first |((with_reducible refine Qgv (N:=2) rfl ?_);refine qq_e 2 #[.string (⟨#[]⟩:ByteArray),.string (⟨#[]⟩:ByteArray)] 210 ?_;intro l hg bv hbox hb;have n_:=qn4 (Qgk qq_b hb) (hbox) (qq_s hg:w.heap.size≤l) (qq_s hg:w.heap.size≤l);clear HB;obtain⟨HB,b,Z,aa⟩:=n_;clear hb hbox hg) |((with_reducible refine Qju (f:=107) rfl ?_);refine Qhu (some 15) rfl rfl Tryz.func107 qq_6 rfl #[.string (a0.extract 0 4)] rfl qq_1 ?_;(with_reducible refine(Qav.calls k (a0.extract 0 4) p _ A7.out).mono ?_);rintro e w' ⟨rfl,⟨nd,rfl⟩⟩;refine⟨_,rfl,?_⟩) |((with_reducible refine Qju (f:=107) rfl ?_);refine Qhu (some 18) rfl rfl Tryz.func107 qq_6 rfl #[.string (a0.extract 4 8)] rfl qq_1 ?_;(with_reducible refine(Qav.calls k (a0.extract 4 8) j _ aC.out).mono ?_);rintro e w' ⟨rfl,⟨nd,rfl⟩⟩;refine⟨_,rfl,?_⟩))
       (try simp only[Act.put,List.setIfInBounds_toArray,List.set_cons_zero,List.set_cons_succ])
       go_cut [27] (fun aW wc=>∃(kq:Nat) (D:Bool),aW=.bool D∧Aside0 (Qbq.j0 kq a0 p j D=some (r1,r2,r3,r4))∧Aside0 (kq≤k)∧Aside0 (wc.heap[l]? = some (.cells #[.string (⟨#[]⟩:ByteArray),.string (⟨#[]⟩:ByteArray)] 210 (0,0)))∧Aside0 (Below w.heap.size w wc))
       case first =>
        have H:=Y.out;clear Y
        by_cases G:p > 4096
        ·rw[if_pos G]at H;have z:decide (4096<p)=true:=decide_eq_true G;clear G
         (first|rw[z] |(simp only[Qhx,Qhy];rw[z])|skip)
         have H':=QA H;clear H;go_wp2
         go_meet
         case rel=>exact⟨_,(true),qq_8,H',⟨by first|omega|exact Nat.le_refl _⟩,⟨by(with_reducible repeat(first|apply Qfd|apply Qfc|apply Qfb));exact b.out⟩,⟨qq_b⟩⟩
        ·rw[if_neg G]at H;have z:decide (4096<p)=false:=decide_eq_false G;clear G
         (first|rw[z] |(simp only[Qhx,Qhy];rw[z])|skip)
         have H':=QA H;clear H;go_wp2
         go_meet
         case rel=>exact⟨_,(decide (j > 1048576)),qq_8,H',⟨by first|omega|exact Nat.le_refl _⟩,⟨by(with_reducible repeat(first|apply Qfd|apply Qfc|apply Qfb));exact b.out⟩,⟨qq_b⟩⟩
       case rest =>
        clear Y
        try clear c2
        try clear aj
        try clear ak
        try clear c5
        try clear aE
        try clear aF
        try clear c6
        try clear aG
        try clear aH
        try clear c8
        try clear aI
        try clear aJ
        try clear c9
        try clear aK
        try clear aL
        try clear E
        try clear ab
        try clear ac
        try clear G
        try clear z
        try clear ah
        try clear ai
        try clear al
        try clear am
        try clear aq
        try clear aD
        obtain⟨kq,D,rfl,HA,HJ13,b,HB⟩:=hcut
        cases kq with
        | zero=>exact absurd HA.out (by simp[Qbq.j0])
        | succ kj13 =>
         have H:=HA.out;clear HA;simp only[Qbq.j0]at H
         by_cases ad:D=true
         ·subst ad;rw[if_pos rfl]at H;simp only[Option.some.injEq,Prod.mk.injEq]at H;obtain⟨rfl,rfl,rfl,rfl⟩:=H;obtain⟨aM,aN⟩:=qc2 b.out;have aZ:=Qeq b.out;go_wp2;refine bodyPost_ret (Qfh rfl _ _ l 210 #[.string (⟨#[]⟩:ByteArray),.string (⟨#[]⟩:ByteArray)] (0,0) _ rfl qq_x Tryz.underlying210 rfl qq_6) rfl ?_;exact⟨qq_7,qq_b⟩
         ·replace ad:=Bool.eq_false_iff.mpr ad;subst ad;rw[if_neg (show ¬(false=true)by decide)]at H
          by_cases L:(a0.size:Int)<(wrap64 ((wrap64 ((wrap64 (8+(wrap64 (p))))+(wrap64 (j))))+4))
          ·rw[if_pos L]at H;have ae:=decide_eq_true L;clear L;simp only[Option.some.injEq,Prod.mk.injEq]at H;obtain⟨rfl,rfl,rfl,rfl⟩:=H;obtain⟨aO,aP⟩:=qc2 b.out;have ba:=Qeq b.out;go_wp2;refine bodyPost_ret (Qfh rfl _ _ l 210 #[.string (⟨#[]⟩:ByteArray),.string (⟨#[]⟩:ByteArray)] (0,0) _ rfl qq_x Tryz.underlying210 rfl qq_6) rfl ?_;exact⟨qq_7,qq_b⟩
          ·rw [if_neg L]at H;have ae:=decide_eq_false L;clear L
           by_cases P:8≤(wrap64 (8+(wrap64 (p))))
           ·rw [if_pos P]at H;have ar:=eq_true P;have au:=decide_eq_true P
            by_cases T:(wrap64 (8+(wrap64 (p))))≤(a0.size:Int)
            ·rw [if_pos T]at H;have av:=eq_true T;have aw:=decide_eq_true T;obtain⟨a,r⟩:∃j_:Int,(wrap64 (8+(wrap64 (p))))=j_:=⟨_,rfl⟩;replace H:(if 0≤(a)then(if(a)≤(wrap64 ((a)+(wrap64 (j))))then(if(wrap64 ((a)+(wrap64 (j))))≤(a0.size:Int)then((Qbs.f kj13 (a0.extract 8 ((a):Int).toNat) (a0.extract ((a):Int).toNat ((wrap64 ((a)+(wrap64 (j)))):Int).toNat)).bind fun v=>(if 0≤(wrap64 ((wrap64 ((a)+(wrap64 (j))))+4))then(if(wrap64 ((wrap64 ((a)+(wrap64 (j))))+4))≤(a0.size:Int)then(if v.toList=(a0.extract 0 ((wrap64 ((wrap64 ((a)+(wrap64 (j))))+4)):Int).toNat).toList then(some (a0.extract 8 ((a):Int).toNat,a0.extract ((a):Int).toNat ((wrap64 ((a)+(wrap64 (j)))):Int).toNat,wrap64 ((wrap64 ((a)+(wrap64 (j))))+4),0))else(some ((⟨#[]⟩:ByteArray),(⟨#[]⟩:ByteArray),0,5)))else(none))else(none)))else(none))else(none))else(none))=some (r1,r2,r3,r4):=by first |(rw[r]at H;exact H) |(simp only[r]at H ⊢;exact H)
             (try rw[r]at ae)
             (try rw[r]at ar)
             (try rw[r]at au)
             (try rw[r]at P)
             (try rw[r]at av)
             (try rw[r]at aw)
             (try rw[r]at T)
             have aX:(IntKind.i64.wrap (8+(wrap64 (p))))=a:=(Qhx _).trans r
             by_cases U:0≤(a)
             ·rw [if_pos U]at H;have bb:=eq_true U;have bc:=decide_eq_true U;clear U
              by_cases af:(a)≤(wrap64 ((a)+(wrap64 (j))))
              ·rw [if_pos af]at H;have bd:=eq_true af;have be:=decide_eq_true af
               by_cases ag:(wrap64 ((a)+(wrap64 (j))))≤(a0.size:Int)
               ·rw [if_pos ag]at H;have bf:=eq_true ag;have bg:=decide_eq_true ag;replace H:=Option.bind_eq_some_iff.mp H;obtain⟨v,ao,H⟩:=H;have ap:=QA ao;clear ao;obtain⟨u,A⟩:∃j_:Int,(wrap64 ((wrap64 ((a)+(wrap64 (j))))+4))=j_:=⟨_,rfl⟩;replace H:(if 0≤(u)then(if(u)≤(a0.size:Int)then(if v.toList=(a0.extract 0 ((u):Int).toNat).toList then(some (a0.extract 8 ((a):Int).toNat,a0.extract ((a):Int).toNat ((wrap64 ((a)+(wrap64 (j)))):Int).toNat,u,0))else(some ((⟨#[]⟩:ByteArray),(⟨#[]⟩:ByteArray),0,5)))else(none))else(none))=some (r1,r2,r3,r4):=by first |(rw[A]at H;exact H) |(simp only[A]at H ⊢;exact H)
                (try rw[A]at ap)
                have aY:(IntKind.i64.wrap ((wrap64 ((a)+(wrap64 (j))))+4))=u:=(Qhx _).trans A
                by_cases W:0≤(u)
                ·rw [if_pos W]at H;have bh:=eq_true W;have bi:=decide_eq_true W;clear W
                 by_cases X:(u)≤(a0.size:Int)
                 ·rw[if_pos X]at H;have bj:=eq_true X;have bk:=decide_eq_true X;have bl:decide ((a0.size:Int)<u)=false:=decide_eq_false (by omega);clear X
                  by_cases I:v.toList=(a0.extract 0 ((u):Int).toNat).toList
                  ·rw[if_pos I]at H;have ax:(v.toList == (a0.extract 0 ((u):Int).toNat).toList)=true:=beq_iff_eq.mpr I;have ay:(v.toList != (a0.extract 0 ((u):Int).toNat).toList)=false:=bne_eq_false_iff_eq.mpr I;clear I;simp only[Option.some.injEq,Prod.mk.injEq]at H;obtain⟨rfl,rfl,rfl,rfl⟩:=H
                   try go_wp2
                   have n_:=qn2 (Qfc b.out) (Qgr HB.out);clear b HB;obtain⟨b,HB⟩:=n_;refine Qhk (n:=14) (S:=fun w'=>True) (ds:=[]) (bm 14 0) qq_6 rfl rfl trivial (fun q=>?_);refine Qjb Qbq.tab12 Qbq.bits12 (fun HT_ HW_=>?_);generalize wc.drew=w32 at b HB q ⊢;refine pz_ (i:=0) (N:=some 41) (bm 14 1) (Qit HT_.out qq_6) ?_;refine pz_ (i:=1) (N:=some 42) (bm 14 3) (Qit HT_.out qq_6) ?_;refine pz_ (i:=2) (N:=some 43) (bm 14 7) (Qit HT_.out qq_6) ?_;refine pz_ (i:=3) (N:=some 44) (bm 14 15) (Qit HT_.out qq_6) ?_;refine pz_ (i:=4) (N:=some 45) (bm 14 31) (Qit HT_.out qq_6) ?_;refine pz_ (i:=5) (N:=some 46) (bm 14 63) (Qit HT_.out qq_6) ?_;refine pz_ (i:=6) (N:=some 47) (bm 14 127) (Qit HT_.out qq_6) ?_;refine pz_ (i:=7) (N:=some 48) (bm 14 255) (Qit HT_.out qq_6) ?_;refine pz_ (i:=8) (N:=some 49) (bm 14 511) (Qit HT_.out qq_6) ?_;refine pz_ (i:=9) (N:=some 50) (bm 14 1023) (Qit HT_.out qq_6) ?_;refine pz_ (i:=10) (N:=some 51) (bm 14 2047) (Qit HT_.out qq_6) ?_;refine pz_ (i:=11) (N:=some 52) (bm 14 4095) (Qit HT_.out qq_6) ?_;refine one_ (i:=12) (N:=some 8) (bm 14 8191) rfl rfl (Qiu HT_.out qq_6) (by decide) (fun K hK=>?_);refine Qgy ?hg (N:=8) ?hd (cs:=#[.string (⟨#[]⟩:ByteArray),.string (⟨#[]⟩:ByteArray)]) (t:=210) ?hr ?_;(case hd=>rfl);(case hg=>rfl);(case hr=>exact qq_14);intro c hg M hbox hb;have n_:=qn7 (Qfe (g:=l) (o:=.cells #[.string (⟨#[]⟩:ByteArray),.string (⟨#[]⟩:ByteArray)] 210 (0,0)) qq_0 hb) (Qgk qq_b hb) (hbox) ((qq_s hg:w.heap.size≤c)) ((qq_s hg:w.heap.size≤c)) ((by rw[hg];exact Nat.ne_of_lt (Qeo (g:=l) (o:=.cells #[.string (⟨#[]⟩:ByteArray),.string (⟨#[]⟩:ByteArray)] 210 (0,0)) qq_0):l≠c)) ((by rw[hg];exact Nat.ne_of_gt (Qeo (g:=l) (o:=.cells #[.string (⟨#[]⟩:ByteArray),.string (⟨#[]⟩:ByteArray)] 210 (0,0)) qq_0):c≠l));clear b HB;obtain⟨b,HB,d,az,aA,m,s⟩:=n_;clear hb hbox hg;refine hK.out _ _ trivial (fun q=>?_);clear hK K;refine nzp_ 8 ?_;refine one_ (i:=13) (N:=none) (bm 14 16383) rfl rfl (Qiu HT_.out qq_6) (by decide) (fun K hK=>?_);have hs34:M.cell? ⟨c,0,none⟩=some (.string (⟨#[]⟩:ByteArray)):=(Qep d.out 0).trans rfl;have hfs34:=Qeq d.out 0;have hns34_0:=m.out;have hms34_0:=s.out;have hs35:M.cell? ⟨c,1,none⟩=some (.string (⟨#[]⟩:ByteArray)):=(Qep d.out 1).trans rfl;have hfs35:=Qeq d.out 1;have hns35_0:=m.out;have hms35_0:=s.out;refine Qhw (w1:=?_) (by rfl) rfl ?_ ?_;rotate_left
                   ·go_simp;rfl
                   refine hK.out _ _ trivial (fun q=>?_);clear hK K;refine Qhn (Qiw HT_.out qq_6) ?_
                   try go_wp2
                   have x:Aside0 (((M.setCell ⟨c,0,none⟩ (.string (a0.extract 8 ((a):Int).toNat))).setCell ⟨c,1,none⟩ (.string (a0.extract ((a):Int).toNat ((wrap64 ((a)+(wrap64 (j)))):Int).toNat))).heap[l]? = some (.cells #[.string (⟨#[]⟩:ByteArray),.string (⟨#[]⟩:ByteArray)] 210 (0,0))):=⟨by(with_reducible repeat(first|apply Qfd|apply Qfc|apply Qfb));refine Qen ?_ m.out _;(with_reducible repeat(first|apply Qfd|apply Qfc|apply Qfb));refine Qen ?_ m.out _;(with_reducible repeat(first|apply Qfd|apply Qfc|apply Qfb));exact b.out⟩;have y:Aside0 (((M.setCell ⟨c,0,none⟩ (.string (a0.extract 8 ((a):Int).toNat))).setCell ⟨c,1,none⟩ (.string (a0.extract ((a):Int).toNat ((wrap64 ((a)+(wrap64 (j)))):Int).toNat))).heap[c]? = some (.cells #[.string (a0.extract 8 ((a):Int).toNat),.string (a0.extract ((a):Int).toNat ((wrap64 ((a)+(wrap64 (j)))):Int).toNat)] 210 (0,0))):=⟨by(with_reducible repeat(first|apply Qfd|apply Qfc|apply Qfb));refine Qgq (cs:=#[.string (a0.extract 8 ((a):Int).toNat),.string (⟨#[]⟩:ByteArray)]) ?_ 1 _ rfl;(with_reducible repeat(first|apply Qfd|apply Qfc|apply Qfb));refine Qgq (cs:=#[.string (⟨#[]⟩:ByteArray),.string (⟨#[]⟩:ByteArray)]) ?_ 0 _ rfl;(with_reducible repeat(first|apply Qfd|apply Qfc|apply Qfb));exact d.out⟩;have J:Aside0 (Below w.heap.size w ((M.setCell ⟨c,0,none⟩ (.string (a0.extract 8 ((a):Int).toNat))).setCell ⟨c,1,none⟩ (.string (a0.extract ((a):Int).toNat ((wrap64 ((a)+(wrap64 (j)))):Int).toNat)))):=⟨qq_b⟩
                   (try clear b)
                   (try clear d)
                   (try clear HB)
                   generalize ((M.setCell ⟨c,0,none⟩ (.string (a0.extract 8 ((a):Int).toNat))).setCell ⟨c,1,none⟩ (.string (a0.extract ((a):Int).toNat ((wrap64 ((a)+(wrap64 (j)))):Int).toNat)))=w36 at x y J ⊢;have b:=x;have d:=y;have HB:=J;clear x y J;have n_:=qn3 (Qfc b.out) (Qfc d.out) (Qgr HB.out);clear b d HB;obtain⟨b,d,HB⟩:=n_;refine Qhk (n:=7) (S:=fun w'=>w'.cell? ⟨c,0,none⟩=some (.string (a0.extract 8 ((a):Int).toNat))∧w'.cell? ⟨c,1,none⟩=some (.string (a0.extract ((a):Int).toNat ((wrap64 ((a)+(wrap64 (j)))):Int).toNat))) (ds:=[]) (bm 7 0) qq_6 rfl rfl ⟨(Qep d.out 0).trans rfl,(Qep d.out 1).trans rfl⟩ (fun q=>?_);generalize w36.drew=w37 at b d HB q ⊢;refine pz_ (i:=2) (N:=some 55) (bm 7 4) qq_6 ?_;refine pz_ (i:=3) (N:=some 56) (bm 7 12) qq_6 ?_;refine pz_ (i:=4) (N:=some 57) (bm 7 28) qq_6 ?_;refine pz_ (i:=5) (N:=some 58) (bm 7 60) qq_6 ?_;refine tz_ (i:=0) (N:=some 53) (bm 7 61) qq_6 q ?_;refine one_ (i:=1) (N:=some 54) (bm 7 63) rfl rfl qq_6 (by decide) (fun K hK=>?_);refine Qht Tryz.func195 qq_6 rfl #[.agg #[.string (a0.extract 8 ((a):Int).toNat),.string (a0.extract ((a):Int).toNat ((wrap64 ((a)+(wrap64 (j)))):Int).toNat)]] (by rfl) rfl rfl (by(try simp only[List.map_toArray,List.map_cons,List.map_nil]);first|done |(simp only[r];rfl)|rfl |(simp only[List.length_drop,List.length_take];rfl)) ?_;with_reducible refine(Qbs.calls kj13 (a0.extract 8 ((a):Int).toNat) (a0.extract ((a):Int).toNat ((wrap64 ((a)+(wrap64 (j)))):Int).toNat) v _ ap.out).mono ?_
                   rintro e bw ⟨rfl,hb⟩;refine⟨_,rfl,?_⟩;have n_:=qn3 (Qfe (g:=l) (o:=.cells #[.string (⟨#[]⟩:ByteArray),.string (⟨#[]⟩:ByteArray)] 210 (0,0)) qq_0 hb) (Qfe (g:=c) (o:=.cells #[.string (a0.extract 8 ((a):Int).toNat),.string (a0.extract ((a):Int).toNat ((wrap64 ((a)+(wrap64 (j)))):Int).toNat)] 210 (0,0)) qq_0 hb) (Qgk qq_b hb);clear b d HB;obtain⟨b,d,HB⟩:=n_
                   (try clear hb)
                   (try clear hb2)
                   (try clear hk)
                   (try clear hi)
                   refine hK.out _ _ ⟨(Qep d.out 0).trans rfl,(Qep d.out 1).trans rfl⟩ (fun q=>?_);clear hK K;refine nzp_ 54 ?_;refine pz_ (i:=6) (N:=some 59) (bm 7 127) qq_6 ?_;refine Qhn qq_6 ?_;have bn:=s.out;have bo:=m.out;obtain⟨aQ,aR⟩:=qc2 d.out;have bp:=Qeq d.out;obtain⟨aS,aT⟩:=qc2 b.out;have bq:=Qeq b.out
                   try go_wp2
                   refine bodyPost_ret (Qfh rfl _ _ l 210 #[.string (a0.extract 8 ((a):Int).toNat),.string (a0.extract ((a):Int).toNat ((wrap64 ((a)+(wrap64 (j)))):Int).toNat)] (0,0) _ rfl qq_x Tryz.underlying210 rfl qq_6) rfl ?_;exact⟨by first|rfl |(simp[Qkb,Qkc]<;>rfl) |(simp only[← r,← A];first|rfl |(simp[Qkb,Qkc]<;>rfl)) |(simp[*,Qkb,Qkc]<;>rfl),qq_b⟩
                  ·rw[if_neg I]at H;have ax:(v.toList == (a0.extract 0 ((u):Int).toNat).toList)=false:=beq_eq_false_iff_ne.mpr I;have ay:(v.toList != (a0.extract 0 ((u):Int).toNat).toList)=true:=bne_iff_ne.mpr I;simp only[Option.some.injEq,Prod.mk.injEq]at H;obtain⟨rfl,rfl,rfl,rfl⟩:=H
                   try go_wp2
                   have n_:=qn2 (Qfc b.out) (Qgr HB.out);clear b HB;obtain⟨b,HB⟩:=n_;refine Qhk (n:=14) (S:=fun w'=>True) (ds:=[]) (bm 14 0) qq_6 rfl rfl trivial (fun q=>?_);refine Qjb Qbq.tab12 Qbq.bits12 (fun HT_ HW_=>?_);generalize wc.drew=w42 at b HB q ⊢;refine pz_ (i:=0) (N:=some 41) (bm 14 1) (Qit HT_.out qq_6) ?_;refine pz_ (i:=1) (N:=some 42) (bm 14 3) (Qit HT_.out qq_6) ?_;refine pz_ (i:=2) (N:=some 43) (bm 14 7) (Qit HT_.out qq_6) ?_;refine pz_ (i:=3) (N:=some 44) (bm 14 15) (Qit HT_.out qq_6) ?_;refine pz_ (i:=4) (N:=some 45) (bm 14 31) (Qit HT_.out qq_6) ?_;refine pz_ (i:=5) (N:=some 46) (bm 14 63) (Qit HT_.out qq_6) ?_;refine pz_ (i:=6) (N:=some 47) (bm 14 127) (Qit HT_.out qq_6) ?_;refine pz_ (i:=7) (N:=some 48) (bm 14 255) (Qit HT_.out qq_6) ?_;refine pz_ (i:=8) (N:=some 49) (bm 14 511) (Qit HT_.out qq_6) ?_;refine pz_ (i:=9) (N:=some 50) (bm 14 1023) (Qit HT_.out qq_6) ?_;refine pz_ (i:=10) (N:=some 51) (bm 14 2047) (Qit HT_.out qq_6) ?_;refine pz_ (i:=11) (N:=some 52) (bm 14 4095) (Qit HT_.out qq_6) ?_;refine one_ (i:=12) (N:=some 8) (bm 14 8191) rfl rfl (Qiu HT_.out qq_6) (by decide) (fun K hK=>?_);refine Qgy ?hg (N:=8) ?hd (cs:=#[.string (⟨#[]⟩:ByteArray),.string (⟨#[]⟩:ByteArray)]) (t:=210) ?hr ?_;(case hd=>rfl);(case hg=>rfl);(case hr=>exact qq_14);intro c hg O hbox hb;have n_:=qn7 (Qfe (g:=l) (o:=.cells #[.string (⟨#[]⟩:ByteArray),.string (⟨#[]⟩:ByteArray)] 210 (0,0)) qq_0 hb) (Qgk qq_b hb) (hbox) ((qq_s hg:w.heap.size≤c)) ((qq_s hg:w.heap.size≤c)) ((by rw[hg];exact Nat.ne_of_lt (Qeo (g:=l) (o:=.cells #[.string (⟨#[]⟩:ByteArray),.string (⟨#[]⟩:ByteArray)] 210 (0,0)) qq_0):l≠c)) ((by rw[hg];exact Nat.ne_of_gt (Qeo (g:=l) (o:=.cells #[.string (⟨#[]⟩:ByteArray),.string (⟨#[]⟩:ByteArray)] 210 (0,0)) qq_0):c≠l));clear b HB;obtain⟨b,HB,d,az,aA,m,s⟩:=n_;clear hb hbox hg;refine hK.out _ _ trivial (fun q=>?_);clear hK K;refine nzp_ 8 ?_;refine one_ (i:=13) (N:=none) (bm 14 16383) rfl rfl (Qiu HT_.out qq_6) (by decide) (fun K hK=>?_);have hs44:O.cell? ⟨c,0,none⟩=some (.string (⟨#[]⟩:ByteArray)):=(Qep d.out 0).trans rfl;have hfs44:=Qeq d.out 0;have hns44_0:=m.out;have hms44_0:=s.out;have hs45:O.cell? ⟨c,1,none⟩=some (.string (⟨#[]⟩:ByteArray)):=(Qep d.out 1).trans rfl;have hfs45:=Qeq d.out 1;have hns45_0:=m.out;have hms45_0:=s.out;refine Qhw (w1:=?_) (by rfl) rfl ?_ ?_;rotate_left
                   ·go_simp;rfl
                   refine hK.out _ _ trivial (fun q=>?_);clear hK K;refine Qhn (Qiw HT_.out qq_6) ?_
                   try go_wp2
                   have x:Aside0 (((O.setCell ⟨c,0,none⟩ (.string (a0.extract 8 ((a):Int).toNat))).setCell ⟨c,1,none⟩ (.string (a0.extract ((a):Int).toNat ((wrap64 ((a)+(wrap64 (j)))):Int).toNat))).heap[l]? = some (.cells #[.string (⟨#[]⟩:ByteArray),.string (⟨#[]⟩:ByteArray)] 210 (0,0))):=⟨by(with_reducible repeat(first|apply Qfd|apply Qfc|apply Qfb));refine Qen ?_ m.out _;(with_reducible repeat(first|apply Qfd|apply Qfc|apply Qfb));refine Qen ?_ m.out _;(with_reducible repeat(first|apply Qfd|apply Qfc|apply Qfb));exact b.out⟩;have y:Aside0 (((O.setCell ⟨c,0,none⟩ (.string (a0.extract 8 ((a):Int).toNat))).setCell ⟨c,1,none⟩ (.string (a0.extract ((a):Int).toNat ((wrap64 ((a)+(wrap64 (j)))):Int).toNat))).heap[c]? = some (.cells #[.string (a0.extract 8 ((a):Int).toNat),.string (a0.extract ((a):Int).toNat ((wrap64 ((a)+(wrap64 (j)))):Int).toNat)] 210 (0,0))):=⟨by(with_reducible repeat(first|apply Qfd|apply Qfc|apply Qfb));refine Qgq (cs:=#[.string (a0.extract 8 ((a):Int).toNat),.string (⟨#[]⟩:ByteArray)]) ?_ 1 _ rfl;(with_reducible repeat(first|apply Qfd|apply Qfc|apply Qfb));refine Qgq (cs:=#[.string (⟨#[]⟩:ByteArray),.string (⟨#[]⟩:ByteArray)]) ?_ 0 _ rfl;(with_reducible repeat(first|apply Qfd|apply Qfc|apply Qfb));exact d.out⟩;have J:Aside0 (Below w.heap.size w ((O.setCell ⟨c,0,none⟩ (.string (a0.extract 8 ((a):Int).toNat))).setCell ⟨c,1,none⟩ (.string (a0.extract ((a):Int).toNat ((wrap64 ((a)+(wrap64 (j)))):Int).toNat)))):=⟨qq_b⟩
                   (try clear b)
                   (try clear d)
                   (try clear HB)
                   generalize ((O.setCell ⟨c,0,none⟩ (.string (a0.extract 8 ((a):Int).toNat))).setCell ⟨c,1,none⟩ (.string (a0.extract ((a):Int).toNat ((wrap64 ((a)+(wrap64 (j)))):Int).toNat)))=w46 at x y J ⊢;have b:=x;have d:=y;have HB:=J;clear x y J;have n_:=qn3 (Qfc b.out) (Qfc d.out) (Qgr HB.out);clear b d HB;obtain⟨b,d,HB⟩:=n_;refine Qhk (n:=7) (S:=fun w'=>w'.cell? ⟨c,0,none⟩=some (.string (a0.extract 8 ((a):Int).toNat))∧w'.cell? ⟨c,1,none⟩=some (.string (a0.extract ((a):Int).toNat ((wrap64 ((a)+(wrap64 (j)))):Int).toNat))) (ds:=[]) (bm 7 0) qq_6 rfl rfl ⟨(Qep d.out 0).trans rfl,(Qep d.out 1).trans rfl⟩ (fun q=>?_);generalize w46.drew=w47 at b d HB q ⊢;refine pz_ (i:=2) (N:=some 55) (bm 7 4) qq_6 ?_;refine pz_ (i:=3) (N:=some 56) (bm 7 12) qq_6 ?_;refine pz_ (i:=4) (N:=some 57) (bm 7 28) qq_6 ?_;refine pz_ (i:=5) (N:=some 58) (bm 7 60) qq_6 ?_;refine tz_ (i:=0) (N:=some 53) (bm 7 61) qq_6 q ?_;refine one_ (i:=1) (N:=some 54) (bm 7 63) rfl rfl qq_6 (by decide) (fun K hK=>?_);refine Qht Tryz.func195 qq_6 rfl #[.agg #[.string (a0.extract 8 ((a):Int).toNat),.string (a0.extract ((a):Int).toNat ((wrap64 ((a)+(wrap64 (j)))):Int).toNat)]] (by rfl) rfl rfl (by(try simp only[List.map_toArray,List.map_cons,List.map_nil]);first|done |(simp only[r];rfl)|rfl |(simp only[List.length_drop,List.length_take];rfl)) ?_;with_reducible refine(Qbs.calls kj13 (a0.extract 8 ((a):Int).toNat) (a0.extract ((a):Int).toNat ((wrap64 ((a)+(wrap64 (j)))):Int).toNat) v _ ap.out).mono ?_
                   rintro e bx ⟨rfl,hb⟩;refine⟨_,rfl,?_⟩;have n_:=qn3 (Qfe (g:=l) (o:=.cells #[.string (⟨#[]⟩:ByteArray),.string (⟨#[]⟩:ByteArray)] 210 (0,0)) qq_0 hb) (Qfe (g:=c) (o:=.cells #[.string (a0.extract 8 ((a):Int).toNat),.string (a0.extract ((a):Int).toNat ((wrap64 ((a)+(wrap64 (j)))):Int).toNat)] 210 (0,0)) qq_0 hb) (Qgk qq_b hb);clear b d HB;obtain⟨b,d,HB⟩:=n_
                   (try clear hb)
                   (try clear hb2)
                   (try clear hk)
                   (try clear hi)
                   refine hK.out _ _ ⟨(Qep d.out 0).trans rfl,(Qep d.out 1).trans rfl⟩ (fun q=>?_);clear hK K;refine nzp_ 54 ?_;refine pz_ (i:=6) (N:=some 59) (bm 7 127) qq_6 ?_;refine Qhn qq_6 ?_;have br:=m.out;have bs:=s.out;obtain⟨aU,aV⟩:=qc2 b.out;have bu:=Qeq b.out
                   try go_wp2
                   refine bodyPost_ret (Qfh rfl _ _ l 210 #[.string (⟨#[]⟩:ByteArray),.string (⟨#[]⟩:ByteArray)] (0,0) _ rfl qq_x Tryz.underlying210 rfl qq_6) rfl ?_;exact⟨by first|rfl |(simp[Qkb,Qkc]<;>rfl) |(simp only[← r,← A];first|rfl |(simp[Qkb,Qkc]<;>rfl)) |(simp[*,Qkb,Qkc]<;>rfl),qq_b⟩
                 ·rw[if_neg X]at H;exact absurd H (by simp)
                ·rw[if_neg W]at H;exact absurd H (by simp)
               ·rw[if_neg ag]at H;exact absurd H (by simp)
              ·rw[if_neg af]at H;exact absurd H (by simp)
             ·rw[if_neg U]at H;exact absurd H (by simp)
            ·rw[if_neg T]at H;exact absurd H (by simp)
           ·rw[if_neg P]at H;exact absurd H (by simp)
     ·rw[if_neg c9]at H;exact absurd H (by simp)
    ·rw[if_neg c8]at H;exact absurd H (by simp)
   ·rw[if_neg c6]at H;exact absurd H (by simp)
  ·rw[if_neg c5]at H;exact absurd H (by simp)
def Qbr.l0:Nat→ByteArray→List (S210)→Int→Option ((List (S210)) × Int × Int)
 | 0,_,_,_=>none
 | k+1,x0,x5,x6=>if x6<(x0.size:Int)then(if 0≤x6 then(if x6≤(x0.size:Int)then((Qbq.f k (x0.extract (x6:Int).toNat x0.size)).bind fun bt782=>(if bt782.2.2.2=0 then(if x5.length<4398046511104 then(Qbr.l0 k x0 (x5++[(⟨bt782.1,bt782.2.1⟩:S210)]) (wrap64 (x6+bt782.2.2.1)))else(none))else(some (x5,x6,bt782.2.2.2))))else(none))else(none))else(some (x5,x6,0))
def Qbr.f(k:Nat)(a0:ByteArray):Option ((List (S210)) × Int × Int):=Qbr.l0 k a0 ([]:List (S210)) 0
theorem Qbr.calls (k:Nat) (a0:ByteArray) (r1:List (S210)) (r2:Int) (r3:Int) (w:World) (h:Qbr.f k a0=some (r1,r2,r3)) :
  Calls Tryz.prog 88 #[.string a0] w fun e w'=>∃y:Value,e=.returned (.tuple #[y,.int .i64 r2,.int .i64 r3])∧Kd.R k210 210 w' w.heap.size (fun _=>True) y r1∧Below w.heap.size w w':=by
 have hu210:=Tryz.underlying210;have HB:=QA (Below.refl w.heap.size w);have H:(Qbr.l0 k a0 ([]:List (S210)) 0)=some (r1,r2,r3):=h;clear h;have H':=QA H;clear H
 go_enter Tryz.func88,Tryz.ntmps88
 go_wp2
 go_loopg [5,6] k (fun kq v5 v6 w'=>∃(x5_1:List (S210)) (c:Int),v6=.int .i64 c∧Aside0 (Qbr.l0 kq a0 x5_1 c=some (r1,r2,r3))∧Aside0 (kq≤k)∧Aside0 (Kd.R k210 210 w' w.heap.size (fun _=>True) v5 x5_1)∧Aside0 (Below w.heap.size w w'))
 case atStart=>exact⟨(([]:List (S210))),(0),qq_8,H',⟨Nat.le_refl _⟩,⟨by first|exact Kd.R_nil _ _ _ _ _|exact Kd.N_nil _ _ _ _ _|exact Kd.V_nil _ _ _ _ _|exact Kd.Q_nil _ _ _ _ _|exact Kd.S_nil _ _ _ _ _⟩,⟨qq_b⟩⟩
 case round =>
  clear H';obtain⟨x5_1,c,rfl,HA,HK1,HO_5,HB⟩:=hrel
  cases gk with
  | zero=>exact absurd HA.out (by simp[Qbr.l0])
  | succ k1 =>
   have H:=HA.out;clear HA;simp only[Qbr.l0]at H
   by_cases c2:c<(a0.size:Int)
   ·rw [if_pos c2]at H;have A:=decide_eq_true c2;clear c2
    by_cases c3:0≤c
    ·rw [if_pos c3]at H;have O:=eq_true c3;have P:=decide_eq_true c3;clear c3
     by_cases c4:c≤(a0.size:Int)
     ·rw[if_pos c4]at H;have T:=eq_true c4;have U:=decide_eq_true c4;clear c4;replace H:=Option.bind_eq_some_iff.mp H;obtain⟨⟨d,j,q,l⟩,z,H⟩:=H;replace H:(if l=0 then(if x5_1.length<4398046511104 then(Qbr.l0 k1 a0 (x5_1++[(⟨d,j⟩:S210)]) (wrap64 (c+q)))else(none))else(some (x5_1,c,l)))=some (r1,r2,r3):=H;have A5:=QA z;clear z
      by_cases c6:l=0
      ·rw[if_pos c6]at H;have B:(l == 0)=true:=beq_iff_eq.mpr c6;have D:(l != 0)=false:=bne_eq_false_iff_eq.mpr c6;clear c6
       by_cases c7:x5_1.length<4398046511104
       ·rw[if_pos c7]at H;have E:=QA c7;clear c7;obtain⟨r,n⟩:∃y_:List (S210),y_=(x5_1++[(⟨d,j⟩:S210)]):=⟨_,rfl⟩;replace H:(Qbr.l0 k1 a0 r (wrap64 (c+q)))=some (r1,r2,r3):=by first |(rw[n];with_reducible exact H) |(have s:=(Option.bind_some _ _).symm.trans H;rw[n];with_reducible exact s) |(have s:=(Option.bind_some _ _).symm.trans H;with_reducible exact s)|with_reducible exact H |(rw[n];exact H)|exact H
        have t:=QA n;clear n;have H':=QA H;clear H
        go_wp2_with (first |((with_reducible refine Qju (f:=142) rfl ?_);refine Qhu (some 18) rfl rfl Tryz.func142 qq_6 rfl #[.string (a0.extract (c:Int).toNat a0.size)] rfl qq_1 ?_;(with_reducible refine(Qbq.calls k1 (a0.extract (c:Int).toNat a0.size) d j q l _ A5.out).mono ?_);rintro e w8 ⟨rfl,hb⟩;refine⟨_,rfl,?_⟩;have n_:=qn2 (Kd.R_below qq_2 hb) (Qgk qq_b hb);clear HO_5 HB;obtain⟨HO_5,HB⟩:=n_;(try clear hb);(try clear hb2);(try clear hk);(try clear hi)) |((with_reducible refine Qgv (N:=7) rfl ?_);refine qq_e 7 #[.string (⟨#[]⟩:ByteArray),.string (⟨#[]⟩:ByteArray)] 210 ?_;intro a hg w9 hbox hb;have n_:=qn5 (Kd.R_below (Kd.R_elderB qq_2 a (Nat.le_of_eq hg.symm)) hb) (Qgk qq_b hb) (hbox) (qq_s hg:w.heap.size≤a) (qq_s hg:w.heap.size≤a);clear HO_5 HB;obtain⟨HO_5,HB,m,u,v⟩:=n_;clear hb hbox hg;obtain⟨G,I⟩:=qc2 m.out;have L:=Qeq m.out) |((with_reducible refine Qjv (b:=.append) (xs:=#[.tmp 27,.tmp 29]) rfl ?_);at_builtin;refine Kd.R_append k210 (w0:=w) w.heap.size rfl (.tmp 27) (.tmp 29) 153 210 (.agg #[(.string ⟨#[]⟩),(.string ⟨#[]⟩)]) 32 rfl Tryz.underlying153 info210 rfl (by decide) (by omega) u5 x5_1 (⟨d,j⟩:S210) [.string d,.string j] (fun k_=>k_≠a) (fun _=>False) rfl qq_14 ?aP (fun _ hk=>hk.elim) ?aF ?aO ?aB ?aS ?aL ?_;(case aP=>exact Qlb _ _ _ (⟨d,j⟩:S210));(case aB=>exact qq_b);(case aF=>exact(fun k_ hk=>Kd.freshB (g:=a) (o:=.cells #[.string d,.string j] 210 (0,0)) qq_x k_ hk));(case aO=>exact(by(with_reducible repeat(first|apply Kd.R_alloc|apply Kd.R_drewN|apply Kd.R_drew));exact Kd.R_mono (Kd.R_far (p:=⟨a,1,none⟩) (Kd.R_far (p:=⟨a,0,none⟩) (Kd.R_mono HO_5.out (fun k_ hk=>(⟨hk,hk.2⟩:_∧k_≠a))) (fun _ hk=>hk.2) (.string d)) (fun _ hk=>hk.2) (.string j)) (fun _ hk=>hk.1.2)));(case aS=>exact(Qgj qq_b));(case aL=>have:=E.out;omega);intro W X ho hb hg hat;rw[← t.out]at ho;have n_:=qn3 (Qer (g:=a) (o:=.cells #[.string d,.string j] 210 (0,0)) qq_x hg (Kd.R_away HO_5.out (fun _ hk=>hk.2))) (hb) (ho);clear m HB HO_5;obtain⟨m,HB,x⟩:=n_;clear ho hb hg hat))
        go_roundg k1
        case measure=>have:=HK1.out;omega
        case rel=>exact⟨(r),(wrap64 (c+q)),qq_8,H',⟨by have:=HK1.out;omega⟩,⟨by(with_reducible repeat(first|apply Kd.R_alloc|apply Kd.R_drewN|apply Kd.R_drew));exact Kd.R_mono x.out (fun _ hk=>trivial)⟩,⟨qq_b⟩⟩
       ·rw[if_neg c7]at H;exact absurd H (by simp)
      ·rw[if_neg c6]at H;have B:(l == 0)=false:=beq_eq_false_iff_ne.mpr c6;have D:(l != 0)=true:=bne_iff_ne.mpr c6;simp only[Option.some.injEq,Prod.mk.injEq]at H;obtain⟨rfl,rfl,rfl⟩:=H
       go_wp2_with (first |((with_reducible refine Qju (f:=142) rfl ?_);refine Qhu (some 18) rfl rfl Tryz.func142 qq_6 rfl #[.string (a0.extract (c:Int).toNat a0.size)] rfl qq_1 ?_;(with_reducible refine(Qbq.calls k1 (a0.extract (c:Int).toNat a0.size) d j q l _ A5.out).mono ?_);rintro e Y ⟨rfl,hb⟩;refine⟨_,rfl,?_⟩;have n_:=qn2 (Kd.R_below qq_2 hb) (Qgk qq_b hb);clear HO_5 HB;obtain⟨HO_5,HB⟩:=n_;(try clear hb);(try clear hb2);(try clear hk);(try clear hi)) |((with_reducible refine Qgv (N:=7) rfl ?_);refine qq_e 7 #[.string (⟨#[]⟩:ByteArray),.string (⟨#[]⟩:ByteArray)] 210 ?_;intro a hg Z hbox hb;have n_:=qn5 (Kd.R_below (Kd.R_elderB qq_2 a (Nat.le_of_eq hg.symm)) hb) (Qgk qq_b hb) (hbox) (qq_s hg:w.heap.size≤a) (qq_s hg:w.heap.size≤a);clear HO_5 HB;obtain⟨HO_5,HB,m,u,v⟩:=n_;clear hb hbox hg;obtain⟨J,K⟩:=qc2 m.out;have M:=Qeq m.out))
       go_ret3
       exact⟨_,by first|rfl |(simp[Qkb,Qkc]<;>rfl) |(simp[*,Qkb,Qkc]<;>rfl),by(with_reducible repeat(first|apply Kd.R_alloc|apply Kd.R_drewN|apply Kd.R_drew));exact Kd.R_mono (Kd.R_far (p:=⟨a,1,none⟩) (Kd.R_far (p:=⟨a,0,none⟩) (Kd.R_mono HO_5.out (fun k_ hk=>(⟨hk,hk.2⟩:_∧k_≠a))) (fun _ hk=>hk.2) (.string d)) (fun _ hk=>hk.2) (.string j)) (fun _ hk=>trivial),qq_b⟩
     ·rw[if_neg c4]at H;exact absurd H (by simp)
    ·rw[if_neg c3]at H;exact absurd H (by simp)
   ·rw[if_neg c2]at H;have A:=decide_eq_false c2;clear c2;simp only[Option.some.injEq,Prod.mk.injEq]at H;obtain⟨rfl,rfl,rfl⟩:=H;go_wp2
    go_ret3
    exact⟨_,by first|rfl |(simp[Qkb,Qkc]<;>rfl) |(simp[*,Qkb,Qkc]<;>rfl),by(with_reducible repeat(first|apply Kd.R_alloc|apply Kd.R_drewN|apply Kd.R_drew));exact HO_5.out,qq_b⟩
end Go.Proofs.YtnnofopfbeklbaaGreat.C
end
