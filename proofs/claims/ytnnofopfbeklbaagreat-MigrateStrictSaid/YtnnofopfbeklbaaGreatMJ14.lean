/- Merged texts. -/
import Derived.Test.YtnnofopfbeklbaaGreatMJ01
import Derived.Test.YtnnofopfbeklbaaGreatMJ02
import Derived.Test.YtnnofopfbeklbaaGreatMJ13
import Derived.Test.YtnnofopfbeklbaaGreatMJ03
import Derived.Test.YtnnofopfbeklbaaGreatMJ07
import Derived.Test.YtnnofopfbeklbaaGreatMJ08
set_option linter.unusedVariables false
set_option linter.unusedSimpArgs false
set_option maxHeartbeats 8000000
set_option maxRecDepth 100000
section
namespace Go.Proofs.YtnnofopfbeklbaaGreat.C
open Go.RowKit Go.Proofs.YtnnofopfbeklbaaGreatW.PrintWords Go.Proofs.YtnnofopfbeklbaaGreatW.PrintLast Go.Proofs.YtnnofopfbeklbaaGreatW.PrintMore
attribute [local go_sem] Qjk Qjl Qjm Qjn Qjo Qjp Qjq Qjr
def Qbq.j0:Nat→ByteArray→Int→Int→Bool→Option (ByteArray × ByteArray × Int × Int)
 | 0,_,_,_,_=>none
 | k+1,x0,x5,x6,x27=>if x27=true then(some ((⟨#[]⟩:ByteArray),(⟨#[]⟩:ByteArray),0,3))else(if(x0.size:Int)<(wrap64 ((wrap64 ((wrap64 (8+(wrap64 (x5))))+(wrap64 (x6))))+4))then(some ((⟨#[]⟩:ByteArray),(⟨#[]⟩:ByteArray),0,2))else(if 8≤(wrap64 (8+(wrap64 (x5))))then(if(wrap64 (8+(wrap64 (x5))))≤(x0.size:Int)then(if 0≤(wrap64 (8+(wrap64 (x5))))then(if(wrap64 (8+(wrap64 (x5))))≤(wrap64 ((wrap64 (8+(wrap64 (x5))))+(wrap64 (x6))))then(if(wrap64 ((wrap64 (8+(wrap64 (x5))))+(wrap64 (x6))))≤(x0.size:Int)then((Qbs.f k (x0.extract 8 ((wrap64 (8+(wrap64 (x5)))):Int).toNat) (x0.extract ((wrap64 (8+(wrap64 (x5)))):Int).toNat ((wrap64 ((wrap64 (8+(wrap64 (x5))))+(wrap64 (x6)))):Int).toNat)).bind fun t781=>(if 0≤(wrap64 ((wrap64 ((wrap64 (8+(wrap64 (x5))))+(wrap64 (x6))))+4))then(if(wrap64 ((wrap64 ((wrap64 (8+(wrap64 (x5))))+(wrap64 (x6))))+4))≤(x0.size:Int)then(if t781.toList=(x0.extract 0 ((wrap64 ((wrap64 ((wrap64 (8+(wrap64 (x5))))+(wrap64 (x6))))+4)):Int).toNat).toList then(some (x0.extract 8 ((wrap64 (8+(wrap64 (x5)))):Int).toNat,x0.extract ((wrap64 (8+(wrap64 (x5)))):Int).toNat ((wrap64 ((wrap64 (8+(wrap64 (x5))))+(wrap64 (x6)))):Int).toNat,wrap64 ((wrap64 ((wrap64 (8+(wrap64 (x5))))+(wrap64 (x6))))+4),0))else(some ((⟨#[]⟩:ByteArray),(⟨#[]⟩:ByteArray),0,5)))else(none))else(none)))else(none))else(none))else(none))else(none))else(none)))
def Qbq.f(k:Nat)(a0:ByteArray):Option (ByteArray × ByteArray × Int × Int):=if(a0.size:Int)<8 then(some ((⟨#[]⟩:ByteArray),(⟨#[]⟩:ByteArray),0,2))else(if 0≤4 then(if 4≤(a0.size:Int)then((Qav.f k (a0.extract 0 4)).bind fun t778=>(if 4≤8 then(if 8≤(a0.size:Int)then((Qav.f k (a0.extract 4 8)).bind fun t779=>(if t778=0 then(some ((⟨#[]⟩:ByteArray),(⟨#[]⟩:ByteArray),0,4))else(if t778 > 4096 then(Qbq.j0 k a0 t778 t779 true)else(Qbq.j0 k a0 t778 t779 (decide (t779 > 1048576))))))else(none))else(none)))else(none))else(none))
def Qbq.T12:Bool × List (List Nat × List Nat):=(true,[([],[]),([],[]),([1],[1]),([2],[2]),([0,3],[0,3]),([],[]),([],[]),([6],[6]),([7],[7]),([],[]),([5,8,9],[5,8,9]),([4,10],[4,10]),([],[]),([12,11,0,1,2,3,4,5,6,7,8,9,10,11,12],[11,12])])
def Qbq.B12:List Nat:=[0,0,2,6,15,0,0,64,192,0,992,2047,0,8191]
theorem Qbq.tab12:rtab .any (Qjb Tryz.f142 12)=Qbq.T12:=by kernel_rfl
theorem Qbq.bits12:Qiv Qbq.T12.2 Qbq.B12=true:=by kernel_rfl
theorem Qbq.calls (k:Nat) (a0:ByteArray) (r1:ByteArray) (r2:ByteArray) (r3:Int) (r4:Int) (w:World) (h:Qbq.f k a0=some (r1,r2,r3,r4)) :
  Calls Tryz.prog 142 #[.string a0] w fun e w'=>e=.returned (.tuple #[.agg #[.string r1,.string r2],.int .i64 r3,.int .i64 r4])∧Below w.heap.size w w':=by
 have hu210:=Tryz.underlying210;have HB:=QA (Below.refl w.heap.size w);have H:(if(a0.size:Int)<8 then(some ((⟨#[]⟩:ByteArray),(⟨#[]⟩:ByteArray),0,2))else(if 0≤4 then(if 4≤(a0.size:Int)then((Qav.f k (a0.extract 0 4)).bind fun d=>(if 4≤8 then(if 8≤(a0.size:Int)then((Qav.f k (a0.extract 4 8)).bind fun b=>(if d=0 then(some ((⟨#[]⟩:ByteArray),(⟨#[]⟩:ByteArray),0,4))else(if d > 4096 then(Qbq.j0 k a0 d b true)else(Qbq.j0 k a0 d b (decide (b > 1048576))))))else(none))else(none)))else(none))else(none)))=some (r1,r2,r3,r4):=h;clear h
 by_cases c2:(a0.size:Int)<8
 ·rw[if_pos c2]at H;have ak:decide ((a0.size:Int)<8)=true:=decide_eq_true c2;have al:decide (a0.size<8)=true:=decide_eq_true (by omega);clear c2;simp only[Option.some.injEq,Prod.mk.injEq]at H;obtain⟨rfl,rfl,rfl,rfl⟩:=H
  go_enter Tryz.func142,Tryz.ntmps142
  go_wp2_with (first |((with_reducible refine Qgt (N:=2) rfl ?_);refine qq_e 2 #[.string (⟨#[]⟩:ByteArray),.string (⟨#[]⟩:ByteArray)] 210 ?_;intro m hg w3 hbox hb;have n_:=qn4 (Qgi qq_b hb) (hbox) (qq_s hg:w.heap.size≤m) (qq_s hg:w.heap.size≤m);clear HB;obtain⟨HB,c,aa,ab⟩:=n_;clear hb hbox hg;obtain⟨am,an⟩:=qc2 c.out;have aE:=Qep c.out))
  refine bodyPost_ret (Qfg rfl _ _ m 210 #[.string (⟨#[]⟩:ByteArray),.string (⟨#[]⟩:ByteArray)] (0,0) _ rfl qq_x Tryz.underlying210 rfl qq_7) rfl ?_;exact⟨by first|rfl |(simp[Qjz,Qka]<;>rfl) |(simp[*,Qjz,Qka]<;>rfl),qq_b⟩
 ·rw [if_neg c2] at H;have ak:decide ((a0.size:Int)<8)=false:=decide_eq_false c2;have al:decide (a0.size<8)=false:=decide_eq_false (by omega);clear c2
  by_cases c5:0≤4
  ·rw [if_pos c5] at H;have aF:=eq_true c5;have aG:decide (0≤4)=true:=decide_eq_true c5;clear c5
   by_cases c6:4≤(a0.size:Int)
   ·rw [if_pos c6] at H;have aH:=eq_true c6;have aI:decide (4≤(a0.size:Int))=true:=decide_eq_true c6;clear c6;replace H:=Option.bind_eq_some_iff.mp H;obtain⟨d,aC,H⟩:=H;replace H:(if 4≤8 then(if 8≤(a0.size:Int)then((Qav.f k (a0.extract 4 8)).bind fun b=>(if d=0 then(some ((⟨#[]⟩:ByteArray),(⟨#[]⟩:ByteArray),0,4))else(if d > 4096 then(Qbq.j0 k a0 d b true)else(Qbq.j0 k a0 d b (decide (b > 1048576))))))else(none))else(none))=some (r1,r2,r3,r4):=H;have A7:=QA aC;clear aC
    by_cases c8:4≤8
    ·rw [if_pos c8] at H;have aJ:=eq_true c8;have aK:decide (4≤8)=true:=decide_eq_true c8;clear c8
     by_cases c9:8≤(a0.size:Int)
     ·rw [if_pos c9]at H;have aL:=eq_true c9;have aM:decide (8≤(a0.size:Int))=true:=decide_eq_true c9;clear c9;replace H:=Option.bind_eq_some_iff.mp H;obtain⟨b,ao,H⟩:=H;replace H:(if d=0 then(some ((⟨#[]⟩:ByteArray),(⟨#[]⟩:ByteArray),0,4))else(if d > 4096 then(Qbq.j0 k a0 d b true)else(Qbq.j0 k a0 d b (decide (b > 1048576)))))=some (r1,r2,r3,r4):=H;have aD:=QA ao;clear ao
      by_cases G:d=0
      ·rw[if_pos G]at H;have ac:(d == 0)=true:=beq_iff_eq.mpr G;have ad:(d != 0)=false:=bne_eq_false_iff_eq.mpr G;clear G;simp only[Option.some.injEq,Prod.mk.injEq]at H;obtain⟨rfl,rfl,rfl,rfl⟩:=H
       go_enter Tryz.func142,Tryz.ntmps142
       go_wp2_with (first |((with_reducible refine Qgt (N:=2) rfl ?_);refine qq_e 2 #[.string (⟨#[]⟩:ByteArray),.string (⟨#[]⟩:ByteArray)] 210 ?_;intro m hg D hbox hb;have n_:=qn4 (Qgi qq_b hb) (hbox) (qq_s hg:w.heap.size≤m) (qq_s hg:w.heap.size≤m);clear HB;obtain⟨HB,c,aa,ab⟩:=n_;clear hb hbox hg) |((with_reducible refine Qjs (f:=107) rfl ?_);refine Qhs (some 15) rfl rfl Tryz.func107 qq_7 rfl #[.string (a0.extract 0 4)] rfl qq_1 ?_;(with_reducible refine(Qav.calls k (a0.extract 0 4) d _ A7.out).mono ?_);rintro e w' ⟨rfl,⟨nd,rfl⟩⟩;refine⟨_,rfl,?_⟩;(try(rw[Qjw D];generalize hq_:World.drewN D _=D;have y:Aside0 (D.heap[m]? = some (.cells #[.string (⟨#[]⟩:ByteArray),.string (⟨#[]⟩:ByteArray)] 210 (0,0))):=⟨by rw[← hq_];exact qq_0⟩;have z:Aside0 (Below w.heap.size w D):=⟨by rw[← hq_];exact qq_b⟩;clear c HB hq_;have c:=y;have HB:=z;clear y z))) |((with_reducible refine Qjs (f:=107) rfl ?_);refine Qhs (some 18) rfl rfl Tryz.func107 qq_7 rfl #[.string (a0.extract 4 8)] rfl qq_1 ?_;(with_reducible refine(Qav.calls k (a0.extract 4 8) b _ aD.out).mono ?_);rintro e w' ⟨rfl,⟨nd,rfl⟩⟩;refine⟨_,rfl,?_⟩;(try(rw[Qjw D];generalize hq_:World.drewN D _=D;have y:Aside0 (D.heap[m]? = some (.cells #[.string (⟨#[]⟩:ByteArray),.string (⟨#[]⟩:ByteArray)] 210 (0,0))):=⟨by rw[← hq_];exact qq_0⟩;have z:Aside0 (Below w.heap.size w D):=⟨by rw[← hq_];exact qq_b⟩;clear c HB hq_;have c:=y;have HB:=z;clear y z));obtain⟨ai,aj⟩:=qc2 c.out;have ar:=Qep c.out))
       refine bodyPost_ret (Qfg rfl _ _ m 210 #[.string (⟨#[]⟩:ByteArray),.string (⟨#[]⟩:ByteArray)] (0,0) _ rfl qq_x Tryz.underlying210 rfl qq_7) rfl ?_;exact⟨by first|rfl |(simp[Qjz,Qka]<;>rfl) |(simp[*,Qjz,Qka]<;>rfl),qq_b⟩
      ·rw [if_neg G]at H;have ac:(d == 0)=false:=beq_eq_false_iff_ne.mpr G;have ad:(d != 0)=true:=bne_iff_ne.mpr G;have Z:=QA H;clear H
       go_enter Tryz.func142,Tryz.ntmps142
       go_upto_region 7 with(first |((with_reducible refine Qgt (N:=2) rfl ?_);refine qq_e 2 #[.string (⟨#[]⟩:ByteArray),.string (⟨#[]⟩:ByteArray)] 210 ?_;intro m hg bw hbox hb;have n_:=qn4 (Qgi qq_b hb) (hbox) (qq_s hg:w.heap.size≤m) (qq_s hg:w.heap.size≤m);clear HB;obtain⟨HB,c,aa,ab⟩:=n_;clear hb hbox hg) |((with_reducible refine Qjs (f:=107) rfl ?_);refine Qhs (some 15) rfl rfl Tryz.func107 qq_7 rfl #[.string (a0.extract 0 4)] rfl qq_1 ?_;(with_reducible refine(Qav.calls k (a0.extract 0 4) d _ A7.out).mono ?_);rintro e w' ⟨rfl,⟨nd,rfl⟩⟩;refine⟨_,rfl,?_⟩) |((with_reducible refine Qjs (f:=107) rfl ?_);refine Qhs (some 18) rfl rfl Tryz.func107 qq_7 rfl #[.string (a0.extract 4 8)] rfl qq_1 ?_;(with_reducible refine(Qav.calls k (a0.extract 4 8) b _ aD.out).mono ?_);rintro e w' ⟨rfl,⟨nd,rfl⟩⟩;refine⟨_,rfl,?_⟩))
       (try simp only[Act.put,List.setIfInBounds_toArray,List.set_cons_zero,List.set_cons_succ])
       go_cut [27] (fun aX wc=>∃(kq:Nat) (E:Bool),aX=.bool E∧Aside0 (Qbq.j0 kq a0 d b E=some (r1,r2,r3,r4))∧Aside0 (kq≤k)∧Aside0 (wc.heap[m]? = some (.cells #[.string (⟨#[]⟩:ByteArray),.string (⟨#[]⟩:ByteArray)] 210 (0,0)))∧Aside0 (Below w.heap.size w wc))
       case first =>
        have H:=Z.out;clear Z
        by_cases I:d > 4096
        ·rw[if_pos I]at H;have A:decide (4096<d)=true:=decide_eq_true I;clear I
         (first|rw[A] |(simp only[Qhv,Qhw];rw[A])|skip)
         have H':=QA H;clear H;go_wp2
         go_meet
         case rel=>exact⟨_,(true),qq_8,H',⟨by first|omega|exact Nat.le_refl _⟩,⟨by(with_reducible repeat(first|apply Qfc|apply Qfb|apply Qfa));exact c.out⟩,⟨qq_b⟩⟩
        ·rw[if_neg I]at H;have A:decide (4096<d)=false:=decide_eq_false I;clear I
         (first|rw[A] |(simp only[Qhv,Qhw];rw[A])|skip)
         have H':=QA H;clear H;go_wp2
         go_meet
         case rel=>exact⟨_,(decide (b > 1048576)),qq_8,H',⟨by first|omega|exact Nat.le_refl _⟩,⟨by(with_reducible repeat(first|apply Qfc|apply Qfb|apply Qfa));exact c.out⟩,⟨qq_b⟩⟩
       case rest =>
        clear Z
        try clear c2
        try clear ak
        try clear al
        try clear c5
        try clear aF
        try clear aG
        try clear c6
        try clear aH
        try clear aI
        try clear c8
        try clear aJ
        try clear aK
        try clear c9
        try clear aL
        try clear aM
        try clear G
        try clear ac
        try clear ad
        try clear I
        try clear A
        try clear ai
        try clear aj
        try clear am
        try clear an
        try clear ar
        try clear aE
        obtain⟨kq,E,rfl,HA,HJ13,c,HB⟩:=hcut
        cases kq with
        | zero=>exact absurd HA.out (by simp[Qbq.j0])
        | succ kj13 =>
         have H:=HA.out;clear HA;simp only[Qbq.j0]at H
         by_cases ae:E=true
         ·subst ae;have H1:(some ((⟨#[]⟩:ByteArray),(⟨#[]⟩:ByteArray),0,3))=some (r1,r2,r3,r4):=by rw[if_pos rfl]at H;exact H
          clear H;have H:=H1;clear H1;simp only[Option.some.injEq,Prod.mk.injEq]at H;obtain⟨rfl,rfl,rfl,rfl⟩:=H;obtain⟨aN,aO⟩:=qc2 c.out;have ba:=Qep c.out;go_wp2;refine bodyPost_ret (Qfg rfl _ _ m 210 #[.string (⟨#[]⟩:ByteArray),.string (⟨#[]⟩:ByteArray)] (0,0) _ rfl qq_x Tryz.underlying210 rfl qq_7) rfl ?_;exact⟨by first|rfl |(simp[Qjz,Qka]<;>rfl) |(simp[*,Qjz,Qka]<;>rfl),qq_b⟩
         ·replace ae:=Bool.eq_false_iff.mpr ae;subst ae;have H1:(if(a0.size:Int)<(wrap64 ((wrap64 ((wrap64 (8+(wrap64 (d))))+(wrap64 (b))))+4))then(some ((⟨#[]⟩:ByteArray),(⟨#[]⟩:ByteArray),0,2))else(if 8≤(wrap64 (8+(wrap64 (d))))then(if(wrap64 (8+(wrap64 (d))))≤(a0.size:Int)then(if 0≤(wrap64 (8+(wrap64 (d))))then(if(wrap64 (8+(wrap64 (d))))≤(wrap64 ((wrap64 (8+(wrap64 (d))))+(wrap64 (b))))then(if(wrap64 ((wrap64 (8+(wrap64 (d))))+(wrap64 (b))))≤(a0.size:Int)then((Qbs.f kj13 (a0.extract 8 ((wrap64 (8+(wrap64 (d)))):Int).toNat) (a0.extract ((wrap64 (8+(wrap64 (d)))):Int).toNat ((wrap64 ((wrap64 (8+(wrap64 (d))))+(wrap64 (b)))):Int).toNat)).bind fun x=>(if 0≤(wrap64 ((wrap64 ((wrap64 (8+(wrap64 (d))))+(wrap64 (b))))+4))then(if(wrap64 ((wrap64 ((wrap64 (8+(wrap64 (d))))+(wrap64 (b))))+4))≤(a0.size:Int)then(if x.toList=(a0.extract 0 ((wrap64 ((wrap64 ((wrap64 (8+(wrap64 (d))))+(wrap64 (b))))+4)):Int).toNat).toList then(some (a0.extract 8 ((wrap64 (8+(wrap64 (d)))):Int).toNat,a0.extract ((wrap64 (8+(wrap64 (d)))):Int).toNat ((wrap64 ((wrap64 (8+(wrap64 (d))))+(wrap64 (b)))):Int).toNat,wrap64 ((wrap64 ((wrap64 (8+(wrap64 (d))))+(wrap64 (b))))+4),0))else(some ((⟨#[]⟩:ByteArray),(⟨#[]⟩:ByteArray),0,5)))else(none))else(none)))else(none))else(none))else(none))else(none))else(none)))=some (r1,r2,r3,r4):=by rw[if_neg (show ¬(false=true)by decide)]at H;exact H
          clear H;have H:=H1;clear H1
          by_cases M:(a0.size:Int)<(wrap64 ((wrap64 ((wrap64 (8+(wrap64 (d))))+(wrap64 (b))))+4))
          ·rw[if_pos M]at H;have af:decide ((a0.size:Int)<(wrap64 ((wrap64 ((wrap64 (8+(wrap64 (d))))+(wrap64 (b))))+4)))=true:=decide_eq_true M;clear M;simp only[Option.some.injEq,Prod.mk.injEq]at H;obtain⟨rfl,rfl,rfl,rfl⟩:=H;obtain⟨aP,aQ⟩:=qc2 c.out;have bb:=Qep c.out;go_wp2;refine bodyPost_ret (Qfg rfl _ _ m 210 #[.string (⟨#[]⟩:ByteArray),.string (⟨#[]⟩:ByteArray)] (0,0) _ rfl qq_x Tryz.underlying210 rfl qq_7) rfl ?_;exact⟨by first|rfl |(simp[Qjz,Qka]<;>rfl) |(simp[*,Qjz,Qka]<;>rfl),qq_b⟩
          ·rw [if_neg M]at H;have af:decide ((a0.size:Int)<(wrap64 ((wrap64 ((wrap64 (8+(wrap64 (d))))+(wrap64 (b))))+4)))=false:=decide_eq_false M;clear M
           by_cases T:8≤(wrap64 (8+(wrap64 (d))))
           ·rw [if_pos T]at H;have au:=eq_true T;have av:decide (8≤(wrap64 (8+(wrap64 (d)))))=true:=decide_eq_true T
            by_cases U:(wrap64 (8+(wrap64 (d))))≤(a0.size:Int)
            ·rw [if_pos U]at H;have aw:=eq_true U;have ax:decide ((wrap64 (8+(wrap64 (d))))≤(a0.size:Int))=true:=decide_eq_true U;obtain⟨a,r⟩:∃j_:Int,(wrap64 (8+(wrap64 (d))))=j_:=⟨_,rfl⟩;replace H:(if 0≤(a)then(if(a)≤(wrap64 ((a)+(wrap64 (b))))then(if(wrap64 ((a)+(wrap64 (b))))≤(a0.size:Int)then((Qbs.f kj13 (a0.extract 8 ((a):Int).toNat) (a0.extract ((a):Int).toNat ((wrap64 ((a)+(wrap64 (b)))):Int).toNat)).bind fun x=>(if 0≤(wrap64 ((wrap64 ((a)+(wrap64 (b))))+4))then(if(wrap64 ((wrap64 ((a)+(wrap64 (b))))+4))≤(a0.size:Int)then(if x.toList=(a0.extract 0 ((wrap64 ((wrap64 ((a)+(wrap64 (b))))+4)):Int).toNat).toList then(some (a0.extract 8 ((a):Int).toNat,a0.extract ((a):Int).toNat ((wrap64 ((a)+(wrap64 (b)))):Int).toNat,wrap64 ((wrap64 ((a)+(wrap64 (b))))+4),0))else(some ((⟨#[]⟩:ByteArray),(⟨#[]⟩:ByteArray),0,5)))else(none))else(none)))else(none))else(none))else(none))=some (r1,r2,r3,r4):=by first |(rw[r]at H;exact H) |(simp only[r]at H ⊢;exact H)
             (try rw[r]at af)
             (try rw[r]at au)
             (try rw[r]at av)
             (try rw[r]at T)
             (try rw[r]at aw)
             (try rw[r]at ax)
             (try rw[r]at U)
             have aY:(IntKind.i64.wrap (8+(wrap64 (d))))=a:=(Qhv _).trans r
             by_cases W:0≤(a)
             ·rw [if_pos W]at H;have bc:=eq_true W;have bd:decide (0≤(a))=true:=decide_eq_true W;clear W
              by_cases ag:(a)≤(wrap64 ((a)+(wrap64 (b))))
              ·rw [if_pos ag]at H;have be:=eq_true ag;have bf:decide ((a)≤(wrap64 ((a)+(wrap64 (b)))))=true:=decide_eq_true ag
               by_cases ah:(wrap64 ((a)+(wrap64 (b))))≤(a0.size:Int)
               ·rw [if_pos ah]at H;have bg:=eq_true ah;have bh:decide ((wrap64 ((a)+(wrap64 (b))))≤(a0.size:Int))=true:=decide_eq_true ah;replace H:=Option.bind_eq_some_iff.mp H;obtain⟨x,ap,H⟩:=H;replace H:(if 0≤(wrap64 ((wrap64 ((a)+(wrap64 (b))))+4))then(if(wrap64 ((wrap64 ((a)+(wrap64 (b))))+4))≤(a0.size:Int)then(if x.toList=(a0.extract 0 ((wrap64 ((wrap64 ((a)+(wrap64 (b))))+4)):Int).toNat).toList then(some (a0.extract 8 ((a):Int).toNat,a0.extract ((a):Int).toNat ((wrap64 ((a)+(wrap64 (b)))):Int).toNat,wrap64 ((wrap64 ((a)+(wrap64 (b))))+4),0))else(some ((⟨#[]⟩:ByteArray),(⟨#[]⟩:ByteArray),0,5)))else(none))else(none))=some (r1,r2,r3,r4):=H;have aq:=QA ap;clear ap;obtain⟨u,B⟩:∃j_:Int,(wrap64 ((wrap64 ((a)+(wrap64 (b))))+4))=j_:=⟨_,rfl⟩;replace H:(if 0≤(u)then(if(u)≤(a0.size:Int)then(if x.toList=(a0.extract 0 ((u):Int).toNat).toList then(some (a0.extract 8 ((a):Int).toNat,a0.extract ((a):Int).toNat ((wrap64 ((a)+(wrap64 (b)))):Int).toNat,u,0))else(some ((⟨#[]⟩:ByteArray),(⟨#[]⟩:ByteArray),0,5)))else(none))else(none))=some (r1,r2,r3,r4):=by first |(rw[B]at H;exact H) |(simp only[B]at H ⊢;exact H)
                (try rw[B]at aq)
                have aZ:(IntKind.i64.wrap ((wrap64 ((a)+(wrap64 (b))))+4))=u:=(Qhv _).trans B
                by_cases X:0≤(u)
                ·rw [if_pos X]at H;have bi:=eq_true X;have bj:decide (0≤(u))=true:=decide_eq_true X;clear X
                 by_cases Y:(u)≤(a0.size:Int)
                 ·rw[if_pos Y]at H;have bk:=eq_true Y;have bl:decide ((u)≤(a0.size:Int))=true:=decide_eq_true Y;have bn:decide ((a0.size:Int)<u)=false:=decide_eq_false (by omega);clear Y
                  by_cases J:x.toList=(a0.extract 0 ((u):Int).toNat).toList
                  ·rw[if_pos J]at H;have ay:(x.toList == (a0.extract 0 ((u):Int).toNat).toList)=true:=beq_iff_eq.mpr J;have az:(x.toList != (a0.extract 0 ((u):Int).toNat).toList)=false:=bne_eq_false_iff_eq.mpr J;clear J;simp only[Option.some.injEq,Prod.mk.injEq]at H;obtain⟨rfl,rfl,rfl,rfl⟩:=H
                   try go_wp2
                   have n_:=qn2 (Qfb c.out) (Qgp HB.out);clear c HB;obtain⟨c,HB⟩:=n_;refine Qhg (n:=14) (S:=fun w'=>True) (ds:=[]) (bm 14 0) qq_7 rfl rfl trivial (fun q=>?_);refine Qiz Qbq.tab12 Qbq.bits12 (fun HT_ HW_=>?_);generalize wc.drew=w32 at c HB q ⊢;refine Qhj (i:=0) (N:=some 41) (v:=?_) (a':=?_) (bm 14 1) rfl rfl (Qir HT_.out qq_7) (fun _ _ _ h=>h) (Or.inl ⟨by rfl,?_⟩) ?_ ?_;rotate_left
                   ·intro w';go_simp;with_reducible rfl
                   rotate_left
                   ·exact qq_2
                   refine Qhj (i:=1) (N:=some 42) (v:=?_) (a':=?_) (bm 14 3) rfl rfl (Qir HT_.out qq_7) (fun _ _ _ h=>h) (Or.inl ⟨by rfl,?_⟩) ?_ ?_;rotate_left
                   ·intro w';go_simp;with_reducible rfl
                   rotate_left
                   ·exact qq_2
                   refine Qhj (i:=2) (N:=some 43) (v:=?_) (a':=?_) (bm 14 7) rfl rfl (Qir HT_.out qq_7) (fun _ _ _ h=>h) (Or.inl ⟨by rfl,?_⟩) ?_ ?_;rotate_left
                   ·intro w';go_simp;with_reducible rfl
                   rotate_left
                   ·exact qq_2
                   refine Qhj (i:=3) (N:=some 44) (v:=?_) (a':=?_) (bm 14 15) rfl rfl (Qir HT_.out qq_7) (fun _ _ _ h=>h) (Or.inl ⟨by rfl,?_⟩) ?_ ?_;rotate_left
                   ·intro w';go_simp;with_reducible rfl
                   rotate_left
                   ·exact qq_2
                   refine Qhj (i:=4) (N:=some 45) (v:=?_) (a':=?_) (bm 14 31) rfl rfl (Qir HT_.out qq_7) (fun _ _ _ h=>h) (Or.inl ⟨by rfl,?_⟩) ?_ ?_;rotate_left
                   ·intro w';go_simp;with_reducible rfl
                   rotate_left
                   ·exact qq_2
                   refine Qhj (i:=5) (N:=some 46) (v:=?_) (a':=?_) (bm 14 63) rfl rfl (Qir HT_.out qq_7) (fun _ _ _ h=>h) (Or.inl ⟨by rfl,?_⟩) ?_ ?_;rotate_left
                   ·intro w';go_simp;with_reducible rfl
                   rotate_left
                   ·exact qq_2
                   refine Qhj (i:=6) (N:=some 47) (v:=?_) (a':=?_) (bm 14 127) rfl rfl (Qir HT_.out qq_7) (fun _ _ _ h=>h) (Or.inl ⟨by rfl,?_⟩) ?_ ?_;rotate_left
                   ·intro w';go_simp;with_reducible rfl
                   rotate_left
                   ·exact qq_2
                   refine Qhj (i:=7) (N:=some 48) (v:=?_) (a':=?_) (bm 14 255) rfl rfl (Qir HT_.out qq_7) (fun _ _ _ h=>h) (Or.inl ⟨by rfl,?_⟩) ?_ ?_;rotate_left
                   ·intro w';go_simp;with_reducible rfl
                   rotate_left
                   ·exact qq_2
                   refine Qhj (i:=8) (N:=some 49) (v:=?_) (a':=?_) (bm 14 511) rfl rfl (Qir HT_.out qq_7) (fun _ _ _ h=>h) (Or.inl ⟨by rfl,?_⟩) ?_ ?_;rotate_left
                   ·intro w';go_simp;with_reducible rfl
                   rotate_left
                   ·exact qq_2
                   refine Qhj (i:=9) (N:=some 50) (v:=?_) (a':=?_) (bm 14 1023) rfl rfl (Qir HT_.out qq_7) (fun _ _ _ h=>h) (Or.inl ⟨by rfl,?_⟩) ?_ ?_;rotate_left
                   ·intro w';go_simp;with_reducible rfl
                   rotate_left
                   ·exact qq_2
                   refine Qhj (i:=10) (N:=some 51) (v:=?_) (a':=?_) (bm 14 2047) rfl rfl (Qir HT_.out qq_7) (fun _ _ _ h=>h) (Or.inl ⟨by rfl,?_⟩) ?_ ?_;rotate_left
                   ·intro w';go_simp;with_reducible rfl
                   rotate_left
                   ·exact qq_2
                   refine Qhj (i:=11) (N:=some 52) (v:=?_) (a':=?_) (bm 14 4095) rfl rfl (Qir HT_.out qq_7) (fun _ _ _ h=>h) (Or.inl ⟨by rfl,?_⟩) ?_ ?_;rotate_left
                   ·intro w';go_simp;with_reducible rfl
                   rotate_left
                   ·exact qq_2
                   refine one_ (i:=12) (N:=some 8) (bm 14 8191) rfl rfl (Qis HT_.out qq_7) (by decide) (fun K hK=>?_);refine Qgw ?hg (N:=8) ?hd (cs:=#[.string (⟨#[]⟩:ByteArray),.string (⟨#[]⟩:ByteArray)]) (t:=210) ?hr ?_;(case hd=>rfl);(case hg=>rfl);(case hr=>exact qq_13);intro j hg O hbox hb;have n_:=qn7 (Qfd (g:=m) (o:=.cells #[.string (⟨#[]⟩:ByteArray),.string (⟨#[]⟩:ByteArray)] 210 (0,0)) qq_0 hb) (Qgi qq_b hb) (hbox) ((qq_s hg:w.heap.size≤j)) ((qq_s hg:w.heap.size≤j)) ((by rw[hg];exact Nat.ne_of_lt (Qen (g:=m) (o:=.cells #[.string (⟨#[]⟩:ByteArray),.string (⟨#[]⟩:ByteArray)] 210 (0,0)) qq_0):m≠j)) ((by rw[hg];exact Nat.ne_of_gt (Qen (g:=m) (o:=.cells #[.string (⟨#[]⟩:ByteArray),.string (⟨#[]⟩:ByteArray)] 210 (0,0)) qq_0):j≠m));clear c HB;obtain⟨c,HB,l,aA,aB,p,s⟩:=n_;clear hb hbox hg;refine hK.out _ _ trivial (fun q=>?_);clear hK K;refine nzp_ 8 ?_;refine one_ (i:=13) (N:=none) (bm 14 16383) rfl rfl (Qis HT_.out qq_7) (by decide) (fun K hK=>?_);have hs34:O.cell? ⟨j,0,none⟩=some (.string (⟨#[]⟩:ByteArray)):=(Qeo l.out 0).trans rfl;have hfs34:=Qep l.out 0;have hns34_0:=p.out;have hms34_0:=s.out;have hs35:O.cell? ⟨j,1,none⟩=some (.string (⟨#[]⟩:ByteArray)):=(Qeo l.out 1).trans rfl;have hfs35:=Qep l.out 1;have hns35_0:=p.out;have hms35_0:=s.out;refine Qhu (w1:=?_) (by rfl) rfl ?_ ?_;rotate_left
                   ·go_simp;rfl
                   refine hK.out _ _ trivial (fun q=>?_);clear hK K;refine Qhl (Qiu HT_.out qq_7) ?_
                   try go_wp2
                   have y:Aside0 (((O.setCell ⟨j,0,none⟩ (.string (a0.extract 8 ((a):Int).toNat))).setCell ⟨j,1,none⟩ (.string (a0.extract ((a):Int).toNat ((wrap64 ((a)+(wrap64 (b)))):Int).toNat))).heap[m]? = some (.cells #[.string (⟨#[]⟩:ByteArray),.string (⟨#[]⟩:ByteArray)] 210 (0,0))):=⟨by(with_reducible repeat(first|apply Qfc|apply Qfb|apply Qfa));refine Qem ?_ p.out _;(with_reducible repeat(first|apply Qfc|apply Qfb|apply Qfa));refine Qem ?_ p.out _;(with_reducible repeat(first|apply Qfc|apply Qfb|apply Qfa));exact c.out⟩;have z:Aside0 (((O.setCell ⟨j,0,none⟩ (.string (a0.extract 8 ((a):Int).toNat))).setCell ⟨j,1,none⟩ (.string (a0.extract ((a):Int).toNat ((wrap64 ((a)+(wrap64 (b)))):Int).toNat))).heap[j]? = some (.cells #[.string (a0.extract 8 ((a):Int).toNat),.string (a0.extract ((a):Int).toNat ((wrap64 ((a)+(wrap64 (b)))):Int).toNat)] 210 (0,0))):=⟨by(with_reducible repeat(first|apply Qfc|apply Qfb|apply Qfa));refine Qgo (cs:=#[.string (a0.extract 8 ((a):Int).toNat),.string (⟨#[]⟩:ByteArray)]) ?_ 1 _ rfl;(with_reducible repeat(first|apply Qfc|apply Qfb|apply Qfa));refine Qgo (cs:=#[.string (⟨#[]⟩:ByteArray),.string (⟨#[]⟩:ByteArray)]) ?_ 0 _ rfl;(with_reducible repeat(first|apply Qfc|apply Qfb|apply Qfa));exact l.out⟩;have L:Aside0 (Below w.heap.size w ((O.setCell ⟨j,0,none⟩ (.string (a0.extract 8 ((a):Int).toNat))).setCell ⟨j,1,none⟩ (.string (a0.extract ((a):Int).toNat ((wrap64 ((a)+(wrap64 (b)))):Int).toNat)))):=⟨qq_b⟩
                   (try clear c)
                   (try clear l)
                   (try clear HB)
                   generalize ((O.setCell ⟨j,0,none⟩ (.string (a0.extract 8 ((a):Int).toNat))).setCell ⟨j,1,none⟩ (.string (a0.extract ((a):Int).toNat ((wrap64 ((a)+(wrap64 (b)))):Int).toNat)))=w36 at y z L ⊢;have c:=y;have l:=z;have HB:=L;clear y z L;have n_:=qn3 (Qfb c.out) (Qfb l.out) (Qgp HB.out);clear c l HB;obtain⟨c,l,HB⟩:=n_;refine Qhg (n:=7) (S:=fun w'=>w'.cell? ⟨j,0,none⟩=some (.string (a0.extract 8 ((a):Int).toNat))∧w'.cell? ⟨j,1,none⟩=some (.string (a0.extract ((a):Int).toNat ((wrap64 ((a)+(wrap64 (b)))):Int).toNat))) (ds:=[]) (bm 7 0) qq_7 rfl rfl ⟨(Qeo l.out 0).trans rfl,(Qeo l.out 1).trans rfl⟩ (fun q=>?_);generalize w36.drew=w37 at c l HB q ⊢;refine Qhj (i:=2) (N:=some 55) (v:=?_) (a':=?_) (bm 7 4) rfl rfl qq_7 (fun _ _ _ h=>h) (Or.inl ⟨by rfl,?_⟩) ?_ ?_;rotate_left
                   ·intro w';go_simp;with_reducible rfl
                   rotate_left
                   ·exact qq_2
                   refine Qhj (i:=3) (N:=some 56) (v:=?_) (a':=?_) (bm 7 12) rfl rfl qq_7 (fun _ _ _ h=>h) (Or.inl ⟨by rfl,?_⟩) ?_ ?_;rotate_left
                   ·intro w';go_simp;with_reducible rfl
                   rotate_left
                   ·exact qq_2
                   refine Qhj (i:=4) (N:=some 57) (v:=?_) (a':=?_) (bm 7 28) rfl rfl qq_7 (fun _ _ _ h=>h) (Or.inl ⟨by rfl,?_⟩) ?_ ?_;rotate_left
                   ·intro w';go_simp;with_reducible rfl
                   rotate_left
                   ·exact qq_2
                   refine Qhj (i:=5) (N:=some 58) (v:=?_) (a':=?_) (bm 7 60) rfl rfl qq_7 (fun _ _ _ h=>h) (Or.inl ⟨by rfl,?_⟩) ?_ ?_;rotate_left
                   ·intro w';go_simp;with_reducible rfl
                   rotate_left
                   ·exact qq_2
                   refine Qhi (i:=0) (N:=some 53) (v:=?_) (a':=?_) (bm 7 61) rfl rfl qq_7 (fun _ _ _ h=>h) (Or.inl ⟨by rfl,?_⟩) q ?_ ?_;rotate_left
                   ·rintro w' ⟨s0,s1⟩;go_simp;with_reducible rfl
                   rotate_left
                   ·exact qq_2
                   refine one_ (i:=1) (N:=some 54) (bm 7 63) rfl rfl qq_7 (by decide) (fun K hK=>?_);refine Qhr Tryz.func195 qq_7 rfl #[.agg #[.string (a0.extract 8 ((a):Int).toNat),.string (a0.extract ((a):Int).toNat ((wrap64 ((a)+(wrap64 (b)))):Int).toNat)]] (by rfl) rfl rfl (by(try simp only[List.map_toArray,List.map_cons,List.map_nil]);first|done |(simp only[r];rfl)|rfl |(simp only[List.length_drop,List.length_take];rfl)) ?_;with_reducible refine(Qbs.calls kj13 (a0.extract 8 ((a):Int).toNat) (a0.extract ((a):Int).toNat ((wrap64 ((a)+(wrap64 (b)))):Int).toNat) x _ aq.out).mono ?_
                   rintro e bx ⟨rfl,hb⟩;refine⟨_,rfl,?_⟩;have n_:=qn3 (Qfd (g:=m) (o:=.cells #[.string (⟨#[]⟩:ByteArray),.string (⟨#[]⟩:ByteArray)] 210 (0,0)) qq_0 hb) (Qfd (g:=j) (o:=.cells #[.string (a0.extract 8 ((a):Int).toNat),.string (a0.extract ((a):Int).toNat ((wrap64 ((a)+(wrap64 (b)))):Int).toNat)] 210 (0,0)) qq_0 hb) (Qgi qq_b hb);clear c l HB;obtain⟨c,l,HB⟩:=n_
                   (try clear hb)
                   (try clear hb2)
                   (try clear hk)
                   (try clear hi)
                   refine hK.out _ _ ⟨(Qeo l.out 0).trans rfl,(Qeo l.out 1).trans rfl⟩ (fun q=>?_);clear hK K;refine nzp_ 54 ?_;refine Qhj (i:=6) (N:=some 59) (v:=?_) (a':=?_) (bm 7 127) rfl rfl qq_7 (fun _ _ _ h=>h) (Or.inl ⟨by rfl,?_⟩) ?_ ?_;rotate_left
                   ·intro w';go_simp;with_reducible rfl
                   rotate_left
                   ·exact qq_2
                   refine Qhl qq_7 ?_;have bo:=s.out;have bp:=p.out;obtain⟨aR,aS⟩:=qc2 l.out;have bq:=Qep l.out;obtain⟨aT,aU⟩:=qc2 c.out;have br:=Qep c.out
                   try go_wp2
                   refine bodyPost_ret (Qfg rfl _ _ m 210 #[.string (a0.extract 8 ((a):Int).toNat),.string (a0.extract ((a):Int).toNat ((wrap64 ((a)+(wrap64 (b)))):Int).toNat)] (0,0) _ rfl qq_x Tryz.underlying210 rfl qq_7) rfl ?_;exact⟨by first|rfl |(simp[Qjz,Qka]<;>rfl) |(simp only[← r,← B];first|rfl |(simp[Qjz,Qka]<;>rfl)) |(simp[*,Qjz,Qka]<;>rfl),qq_b⟩
                  ·rw[if_neg J]at H;have ay:(x.toList == (a0.extract 0 ((u):Int).toNat).toList)=false:=beq_eq_false_iff_ne.mpr J;have az:(x.toList != (a0.extract 0 ((u):Int).toNat).toList)=true:=bne_iff_ne.mpr J;simp only[Option.some.injEq,Prod.mk.injEq]at H;obtain⟨rfl,rfl,rfl,rfl⟩:=H
                   try go_wp2
                   have n_:=qn2 (Qfb c.out) (Qgp HB.out);clear c HB;obtain⟨c,HB⟩:=n_;refine Qhg (n:=14) (S:=fun w'=>True) (ds:=[]) (bm 14 0) qq_7 rfl rfl trivial (fun q=>?_);refine Qiz Qbq.tab12 Qbq.bits12 (fun HT_ HW_=>?_);generalize wc.drew=w42 at c HB q ⊢;refine Qhj (i:=0) (N:=some 41) (v:=?_) (a':=?_) (bm 14 1) rfl rfl (Qir HT_.out qq_7) (fun _ _ _ h=>h) (Or.inl ⟨by rfl,?_⟩) ?_ ?_;rotate_left
                   ·intro w';go_simp;with_reducible rfl
                   rotate_left
                   ·exact qq_2
                   refine Qhj (i:=1) (N:=some 42) (v:=?_) (a':=?_) (bm 14 3) rfl rfl (Qir HT_.out qq_7) (fun _ _ _ h=>h) (Or.inl ⟨by rfl,?_⟩) ?_ ?_;rotate_left
                   ·intro w';go_simp;with_reducible rfl
                   rotate_left
                   ·exact qq_2
                   refine Qhj (i:=2) (N:=some 43) (v:=?_) (a':=?_) (bm 14 7) rfl rfl (Qir HT_.out qq_7) (fun _ _ _ h=>h) (Or.inl ⟨by rfl,?_⟩) ?_ ?_;rotate_left
                   ·intro w';go_simp;with_reducible rfl
                   rotate_left
                   ·exact qq_2
                   refine Qhj (i:=3) (N:=some 44) (v:=?_) (a':=?_) (bm 14 15) rfl rfl (Qir HT_.out qq_7) (fun _ _ _ h=>h) (Or.inl ⟨by rfl,?_⟩) ?_ ?_;rotate_left
                   ·intro w';go_simp;with_reducible rfl
                   rotate_left
                   ·exact qq_2
                   refine Qhj (i:=4) (N:=some 45) (v:=?_) (a':=?_) (bm 14 31) rfl rfl (Qir HT_.out qq_7) (fun _ _ _ h=>h) (Or.inl ⟨by rfl,?_⟩) ?_ ?_;rotate_left
                   ·intro w';go_simp;with_reducible rfl
                   rotate_left
                   ·exact qq_2
                   refine Qhj (i:=5) (N:=some 46) (v:=?_) (a':=?_) (bm 14 63) rfl rfl (Qir HT_.out qq_7) (fun _ _ _ h=>h) (Or.inl ⟨by rfl,?_⟩) ?_ ?_;rotate_left
                   ·intro w';go_simp;with_reducible rfl
                   rotate_left
                   ·exact qq_2
                   refine Qhj (i:=6) (N:=some 47) (v:=?_) (a':=?_) (bm 14 127) rfl rfl (Qir HT_.out qq_7) (fun _ _ _ h=>h) (Or.inl ⟨by rfl,?_⟩) ?_ ?_;rotate_left
                   ·intro w';go_simp;with_reducible rfl
                   rotate_left
                   ·exact qq_2
                   refine Qhj (i:=7) (N:=some 48) (v:=?_) (a':=?_) (bm 14 255) rfl rfl (Qir HT_.out qq_7) (fun _ _ _ h=>h) (Or.inl ⟨by rfl,?_⟩) ?_ ?_;rotate_left
                   ·intro w';go_simp;with_reducible rfl
                   rotate_left
                   ·exact qq_2
                   refine Qhj (i:=8) (N:=some 49) (v:=?_) (a':=?_) (bm 14 511) rfl rfl (Qir HT_.out qq_7) (fun _ _ _ h=>h) (Or.inl ⟨by rfl,?_⟩) ?_ ?_;rotate_left
                   ·intro w';go_simp;with_reducible rfl
                   rotate_left
                   ·exact qq_2
                   refine Qhj (i:=9) (N:=some 50) (v:=?_) (a':=?_) (bm 14 1023) rfl rfl (Qir HT_.out qq_7) (fun _ _ _ h=>h) (Or.inl ⟨by rfl,?_⟩) ?_ ?_;rotate_left
                   ·intro w';go_simp;with_reducible rfl
                   rotate_left
                   ·exact qq_2
                   refine Qhj (i:=10) (N:=some 51) (v:=?_) (a':=?_) (bm 14 2047) rfl rfl (Qir HT_.out qq_7) (fun _ _ _ h=>h) (Or.inl ⟨by rfl,?_⟩) ?_ ?_;rotate_left
                   ·intro w';go_simp;with_reducible rfl
                   rotate_left
                   ·exact qq_2
                   refine Qhj (i:=11) (N:=some 52) (v:=?_) (a':=?_) (bm 14 4095) rfl rfl (Qir HT_.out qq_7) (fun _ _ _ h=>h) (Or.inl ⟨by rfl,?_⟩) ?_ ?_;rotate_left
                   ·intro w';go_simp;with_reducible rfl
                   rotate_left
                   ·exact qq_2
                   refine one_ (i:=12) (N:=some 8) (bm 14 8191) rfl rfl (Qis HT_.out qq_7) (by decide) (fun K hK=>?_);refine Qgw ?hg (N:=8) ?hd (cs:=#[.string (⟨#[]⟩:ByteArray),.string (⟨#[]⟩:ByteArray)]) (t:=210) ?hr ?_;(case hd=>rfl);(case hg=>rfl);(case hr=>exact qq_13);intro j hg P hbox hb;have n_:=qn7 (Qfd (g:=m) (o:=.cells #[.string (⟨#[]⟩:ByteArray),.string (⟨#[]⟩:ByteArray)] 210 (0,0)) qq_0 hb) (Qgi qq_b hb) (hbox) ((qq_s hg:w.heap.size≤j)) ((qq_s hg:w.heap.size≤j)) ((by rw[hg];exact Nat.ne_of_lt (Qen (g:=m) (o:=.cells #[.string (⟨#[]⟩:ByteArray),.string (⟨#[]⟩:ByteArray)] 210 (0,0)) qq_0):m≠j)) ((by rw[hg];exact Nat.ne_of_gt (Qen (g:=m) (o:=.cells #[.string (⟨#[]⟩:ByteArray),.string (⟨#[]⟩:ByteArray)] 210 (0,0)) qq_0):j≠m));clear c HB;obtain⟨c,HB,l,aA,aB,p,s⟩:=n_;clear hb hbox hg;refine hK.out _ _ trivial (fun q=>?_);clear hK K;refine nzp_ 8 ?_;refine one_ (i:=13) (N:=none) (bm 14 16383) rfl rfl (Qis HT_.out qq_7) (by decide) (fun K hK=>?_);have hs44:P.cell? ⟨j,0,none⟩=some (.string (⟨#[]⟩:ByteArray)):=(Qeo l.out 0).trans rfl;have hfs44:=Qep l.out 0;have hns44_0:=p.out;have hms44_0:=s.out;have hs45:P.cell? ⟨j,1,none⟩=some (.string (⟨#[]⟩:ByteArray)):=(Qeo l.out 1).trans rfl;have hfs45:=Qep l.out 1;have hns45_0:=p.out;have hms45_0:=s.out;refine Qhu (w1:=?_) (by rfl) rfl ?_ ?_;rotate_left
                   ·go_simp;rfl
                   refine hK.out _ _ trivial (fun q=>?_);clear hK K;refine Qhl (Qiu HT_.out qq_7) ?_
                   try go_wp2
                   have y:Aside0 (((P.setCell ⟨j,0,none⟩ (.string (a0.extract 8 ((a):Int).toNat))).setCell ⟨j,1,none⟩ (.string (a0.extract ((a):Int).toNat ((wrap64 ((a)+(wrap64 (b)))):Int).toNat))).heap[m]? = some (.cells #[.string (⟨#[]⟩:ByteArray),.string (⟨#[]⟩:ByteArray)] 210 (0,0))):=⟨by(with_reducible repeat(first|apply Qfc|apply Qfb|apply Qfa));refine Qem ?_ p.out _;(with_reducible repeat(first|apply Qfc|apply Qfb|apply Qfa));refine Qem ?_ p.out _;(with_reducible repeat(first|apply Qfc|apply Qfb|apply Qfa));exact c.out⟩;have z:Aside0 (((P.setCell ⟨j,0,none⟩ (.string (a0.extract 8 ((a):Int).toNat))).setCell ⟨j,1,none⟩ (.string (a0.extract ((a):Int).toNat ((wrap64 ((a)+(wrap64 (b)))):Int).toNat))).heap[j]? = some (.cells #[.string (a0.extract 8 ((a):Int).toNat),.string (a0.extract ((a):Int).toNat ((wrap64 ((a)+(wrap64 (b)))):Int).toNat)] 210 (0,0))):=⟨by(with_reducible repeat(first|apply Qfc|apply Qfb|apply Qfa));refine Qgo (cs:=#[.string (a0.extract 8 ((a):Int).toNat),.string (⟨#[]⟩:ByteArray)]) ?_ 1 _ rfl;(with_reducible repeat(first|apply Qfc|apply Qfb|apply Qfa));refine Qgo (cs:=#[.string (⟨#[]⟩:ByteArray),.string (⟨#[]⟩:ByteArray)]) ?_ 0 _ rfl;(with_reducible repeat(first|apply Qfc|apply Qfb|apply Qfa));exact l.out⟩;have L:Aside0 (Below w.heap.size w ((P.setCell ⟨j,0,none⟩ (.string (a0.extract 8 ((a):Int).toNat))).setCell ⟨j,1,none⟩ (.string (a0.extract ((a):Int).toNat ((wrap64 ((a)+(wrap64 (b)))):Int).toNat)))):=⟨qq_b⟩
                   (try clear c)
                   (try clear l)
                   (try clear HB)
                   generalize ((P.setCell ⟨j,0,none⟩ (.string (a0.extract 8 ((a):Int).toNat))).setCell ⟨j,1,none⟩ (.string (a0.extract ((a):Int).toNat ((wrap64 ((a)+(wrap64 (b)))):Int).toNat)))=w46 at y z L ⊢;have c:=y;have l:=z;have HB:=L;clear y z L;have n_:=qn3 (Qfb c.out) (Qfb l.out) (Qgp HB.out);clear c l HB;obtain⟨c,l,HB⟩:=n_;refine Qhg (n:=7) (S:=fun w'=>w'.cell? ⟨j,0,none⟩=some (.string (a0.extract 8 ((a):Int).toNat))∧w'.cell? ⟨j,1,none⟩=some (.string (a0.extract ((a):Int).toNat ((wrap64 ((a)+(wrap64 (b)))):Int).toNat))) (ds:=[]) (bm 7 0) qq_7 rfl rfl ⟨(Qeo l.out 0).trans rfl,(Qeo l.out 1).trans rfl⟩ (fun q=>?_);generalize w46.drew=w47 at c l HB q ⊢;refine Qhj (i:=2) (N:=some 55) (v:=?_) (a':=?_) (bm 7 4) rfl rfl qq_7 (fun _ _ _ h=>h) (Or.inl ⟨by rfl,?_⟩) ?_ ?_;rotate_left
                   ·intro w';go_simp;with_reducible rfl
                   rotate_left
                   ·exact qq_2
                   refine Qhj (i:=3) (N:=some 56) (v:=?_) (a':=?_) (bm 7 12) rfl rfl qq_7 (fun _ _ _ h=>h) (Or.inl ⟨by rfl,?_⟩) ?_ ?_;rotate_left
                   ·intro w';go_simp;with_reducible rfl
                   rotate_left
                   ·exact qq_2
                   refine Qhj (i:=4) (N:=some 57) (v:=?_) (a':=?_) (bm 7 28) rfl rfl qq_7 (fun _ _ _ h=>h) (Or.inl ⟨by rfl,?_⟩) ?_ ?_;rotate_left
                   ·intro w';go_simp;with_reducible rfl
                   rotate_left
                   ·exact qq_2
                   refine Qhj (i:=5) (N:=some 58) (v:=?_) (a':=?_) (bm 7 60) rfl rfl qq_7 (fun _ _ _ h=>h) (Or.inl ⟨by rfl,?_⟩) ?_ ?_;rotate_left
                   ·intro w';go_simp;with_reducible rfl
                   rotate_left
                   ·exact qq_2
                   refine Qhi (i:=0) (N:=some 53) (v:=?_) (a':=?_) (bm 7 61) rfl rfl qq_7 (fun _ _ _ h=>h) (Or.inl ⟨by rfl,?_⟩) q ?_ ?_;rotate_left
                   ·rintro w' ⟨s0,s1⟩;go_simp;with_reducible rfl
                   rotate_left
                   ·exact qq_2
                   refine one_ (i:=1) (N:=some 54) (bm 7 63) rfl rfl qq_7 (by decide) (fun K hK=>?_);refine Qhr Tryz.func195 qq_7 rfl #[.agg #[.string (a0.extract 8 ((a):Int).toNat),.string (a0.extract ((a):Int).toNat ((wrap64 ((a)+(wrap64 (b)))):Int).toNat)]] (by rfl) rfl rfl (by(try simp only[List.map_toArray,List.map_cons,List.map_nil]);first|done |(simp only[r];rfl)|rfl |(simp only[List.length_drop,List.length_take];rfl)) ?_;with_reducible refine(Qbs.calls kj13 (a0.extract 8 ((a):Int).toNat) (a0.extract ((a):Int).toNat ((wrap64 ((a)+(wrap64 (b)))):Int).toNat) x _ aq.out).mono ?_
                   rintro e bz ⟨rfl,hb⟩;refine⟨_,rfl,?_⟩;have n_:=qn3 (Qfd (g:=m) (o:=.cells #[.string (⟨#[]⟩:ByteArray),.string (⟨#[]⟩:ByteArray)] 210 (0,0)) qq_0 hb) (Qfd (g:=j) (o:=.cells #[.string (a0.extract 8 ((a):Int).toNat),.string (a0.extract ((a):Int).toNat ((wrap64 ((a)+(wrap64 (b)))):Int).toNat)] 210 (0,0)) qq_0 hb) (Qgi qq_b hb);clear c l HB;obtain⟨c,l,HB⟩:=n_
                   (try clear hb)
                   (try clear hb2)
                   (try clear hk)
                   (try clear hi)
                   refine hK.out _ _ ⟨(Qeo l.out 0).trans rfl,(Qeo l.out 1).trans rfl⟩ (fun q=>?_);clear hK K;refine nzp_ 54 ?_;refine Qhj (i:=6) (N:=some 59) (v:=?_) (a':=?_) (bm 7 127) rfl rfl qq_7 (fun _ _ _ h=>h) (Or.inl ⟨by rfl,?_⟩) ?_ ?_;rotate_left
                   ·intro w';go_simp;with_reducible rfl
                   rotate_left
                   ·exact qq_2
                   refine Qhl qq_7 ?_;have bs:=p.out;have bu:=s.out;obtain⟨aV,aW⟩:=qc2 c.out;have bv:=Qep c.out
                   try go_wp2
                   refine bodyPost_ret (Qfg rfl _ _ m 210 #[.string (⟨#[]⟩:ByteArray),.string (⟨#[]⟩:ByteArray)] (0,0) _ rfl qq_x Tryz.underlying210 rfl qq_7) rfl ?_;exact⟨by first|rfl |(simp[Qjz,Qka]<;>rfl) |(simp only[← r,← B];first|rfl |(simp[Qjz,Qka]<;>rfl)) |(simp[*,Qjz,Qka]<;>rfl),qq_b⟩
                 ·rw[if_neg Y]at H;exact absurd H (by simp)
                ·rw[if_neg X]at H;exact absurd H (by simp)
               ·rw[if_neg ah]at H;exact absurd H (by simp)
              ·rw[if_neg ag]at H;exact absurd H (by simp)
             ·rw[if_neg W]at H;exact absurd H (by simp)
            ·rw[if_neg U]at H;exact absurd H (by simp)
           ·rw[if_neg T]at H;exact absurd H (by simp)
     ·rw[if_neg c9]at H;exact absurd H (by simp)
    ·rw[if_neg c8]at H;exact absurd H (by simp)
   ·rw[if_neg c6]at H;exact absurd H (by simp)
  ·rw[if_neg c5]at H;exact absurd H (by simp)
def Qbr.l0:Nat→ByteArray→List (S210)→Int→Option ((List (S210)) × Int × Int)
 | 0,_,_,_=>none
 | k+1,x0,x5,x6=>if x6<(x0.size:Int)then(if 0≤x6 then(if x6≤(x0.size:Int)then((Qbq.f k (x0.extract (x6:Int).toNat x0.size)).bind fun bt782=>(if bt782.2.2.2=0 then(if x5.length<4398046511104 then(Qbr.l0 k x0 (x5++[(⟨bt782.1,bt782.2.1⟩:S210)]) (wrap64 (x6+bt782.2.2.1)))else(none))else(some (x5,x6,bt782.2.2.2))))else(none))else(none))else(some (x5,x6,0))
def Qbr.f(k:Nat)(a0:ByteArray):Option ((List (S210)) × Int × Int):=Qbr.l0 k a0 ([]:List (S210)) 0
theorem Qbr.calls (k:Nat) (a0:ByteArray) (r1:List (S210)) (r2:Int) (r3:Int) (w:World) (h:Qbr.f k a0=some (r1,r2,r3)) :
  Calls Tryz.prog 88 #[.string a0] w fun e w'=>∃y:Value,e=.returned (.tuple #[y,.int .i64 r2,.int .i64 r3])∧Kd.R k210 210 w' w.heap.size (fun _=>True) y r1∧Below w.heap.size w w':=by
 have hu210:=Tryz.underlying210;have HB:=QA (Below.refl w.heap.size w);have H:(Qbr.l0 k a0 ([]:List (S210)) 0)=some (r1,r2,r3):=h;clear h;have H':=QA H;clear H
 go_enter Tryz.func88,Tryz.ntmps88
 go_wp2
 go_loopg [5,6] k (fun kq v5 v6 w'=>∃(x5_1:List (S210)) (c:Int),v6=.int .i64 c∧Aside0 (Qbr.l0 kq a0 x5_1 c=some (r1,r2,r3))∧Aside0 (kq≤k)∧Aside0 (Kd.R k210 210 w' w.heap.size (fun _=>True) v5 x5_1)∧Aside0 (Below w.heap.size w w'))
 case atStart=>exact⟨(([]:List (S210))),(0),qq_8,H',⟨Nat.le_refl _⟩,⟨by first|exact Kd.R_nil _ _ _ _ _|exact Kd.N_nil _ _ _ _ _|exact Kd.V_nil _ _ _ _ _|exact Kd.Q_nil _ _ _ _ _|exact Kd.S_nil _ _ _ _ _⟩,⟨qq_b⟩⟩
 case round =>
  clear H';obtain⟨x5_1,c,rfl,HA,HK1,HO_5,HB⟩:=hrel
  cases gk with
  | zero=>exact absurd HA.out (by simp[Qbr.l0])
  | succ k1 =>
   have H:=HA.out;clear HA;simp only[Qbr.l0]at H
   by_cases c2:c<(a0.size:Int)
   ·rw [if_pos c2]at H;have A:decide (c<(a0.size:Int))=true:=decide_eq_true c2;clear c2
    by_cases c3:0≤c
    ·rw [if_pos c3]at H;have O:=eq_true c3;have P:decide (0≤c)=true:=decide_eq_true c3;clear c3
     by_cases c4:c≤(a0.size:Int)
     ·rw[if_pos c4]at H;have T:=eq_true c4;have U:decide (c≤(a0.size:Int))=true:=decide_eq_true c4;clear c4;replace H:=Option.bind_eq_some_iff.mp H;obtain⟨⟨d,j,q,l⟩,z,H⟩:=H;replace H:(if l=0 then(if x5_1.length<4398046511104 then(Qbr.l0 k1 a0 (x5_1++[(⟨d,j⟩:S210)]) (wrap64 (c+q)))else(none))else(some (x5_1,c,l)))=some (r1,r2,r3):=H;have A5:=QA z;clear z
      by_cases c6:l=0
      ·rw[if_pos c6]at H;have B:(l == 0)=true:=beq_iff_eq.mpr c6;have D:(l != 0)=false:=bne_eq_false_iff_eq.mpr c6;clear c6
       by_cases c7:x5_1.length<4398046511104
       ·rw[if_pos c7]at H;have E:=QA c7;clear c7;obtain⟨r,n⟩:∃y_:List (S210),y_=(x5_1++[(⟨d,j⟩:S210)]):=⟨_,rfl⟩;replace H:(Qbr.l0 k1 a0 r (wrap64 (c+q)))=some (r1,r2,r3):=by first |(rw[n];with_reducible exact H) |(have s:=(Option.bind_some _ _).symm.trans H;rw[n];with_reducible exact s) |(have s:=(Option.bind_some _ _).symm.trans H;with_reducible exact s)|with_reducible exact H |(rw[n];exact H)|exact H
        have t:=QA n;clear n;have H':=QA H;clear H
        go_wp2_with (first |((with_reducible refine Qjs (f:=142) rfl ?_);refine Qhs (some 18) rfl rfl Tryz.func142 qq_7 rfl #[.string (a0.extract (c:Int).toNat a0.size)] rfl qq_1 ?_;(with_reducible refine(Qbq.calls k1 (a0.extract (c:Int).toNat a0.size) d j q l _ A5.out).mono ?_);rintro e w8 ⟨rfl,hb⟩;refine⟨_,rfl,?_⟩;have n_:=qn2 (Kd.R_below qq_5 hb) (Qgi qq_b hb);clear HO_5 HB;obtain⟨HO_5,HB⟩:=n_;(try clear hb);(try clear hb2);(try clear hk);(try clear hi)) |((with_reducible refine Qgt (N:=7) rfl ?_);refine qq_e 7 #[.string (⟨#[]⟩:ByteArray),.string (⟨#[]⟩:ByteArray)] 210 ?_;intro a hg w9 hbox hb;have n_:=qn5 (Kd.R_below (Kd.R_elderB qq_5 a (Nat.le_of_eq hg.symm)) hb) (Qgi qq_b hb) (hbox) (qq_s hg:w.heap.size≤a) (qq_s hg:w.heap.size≤a);clear HO_5 HB;obtain⟨HO_5,HB,m,u,v⟩:=n_;clear hb hbox hg;obtain⟨G,I⟩:=qc2 m.out;have L:=Qep m.out) |((with_reducible refine Qjt (b:=.append) (xs:=#[.tmp 27,.tmp 29]) rfl ?_);at_builtin;refine Kd.R_append k210 (w0:=w) w.heap.size rfl (.tmp 27) (.tmp 29) 153 210 (.agg #[(.string ⟨#[]⟩),(.string ⟨#[]⟩)]) 32 rfl Tryz.underlying153 info210 rfl (by decide) (by omega) u5 x5_1 (⟨d,j⟩:S210) [.string d,.string j] (fun k_=>k_≠a) (fun _=>False) rfl qq_13 ?aP (fun _ hk=>hk.elim) ?aF ?aO ?aB ?aS ?aL ?_;(case aP=>exact Qkz _ _ _ (⟨d,j⟩:S210));(case aB=>exact qq_b);(case aF=>exact(fun k_ hk=>Kd.freshB (g:=a) (o:=.cells #[.string d,.string j] 210 (0,0)) qq_x k_ hk));(case aO=>exact(by(with_reducible repeat(first|apply Kd.R_alloc|apply Kd.R_drewN|apply Kd.R_drew));exact Kd.R_mono (Kd.R_far (p:=⟨a,1,none⟩) (Kd.R_far (p:=⟨a,0,none⟩) (Kd.R_mono HO_5.out (fun k_ hk=>(⟨hk,hk.2⟩:_∧k_≠a))) (fun _ hk=>hk.2) (.string d)) (fun _ hk=>hk.2) (.string j)) (fun _ hk=>hk.1.2)));(case aS=>exact(Qgh qq_b));(case aL=>have:=E.out;omega);intro W X ho hb hg hat;rw[← t.out]at ho;have n_:=qn3 (Qeq (g:=a) (o:=.cells #[.string d,.string j] 210 (0,0)) qq_x hg (Kd.R_away HO_5.out (fun _ hk=>hk.2))) (hb) (ho);clear m HB HO_5;obtain⟨m,HB,x⟩:=n_;clear ho hb hg hat))
        go_roundg k1
        case measure=>have:=HK1.out;omega
        case rel=>exact⟨(r),(wrap64 (c+q)),qq_8,H',⟨by have:=HK1.out;omega⟩,⟨by(with_reducible repeat(first|apply Kd.R_alloc|apply Kd.R_drewN|apply Kd.R_drew));exact Kd.R_mono x.out (fun _ hk=>trivial)⟩,⟨qq_b⟩⟩
       ·rw[if_neg c7]at H;exact absurd H (by simp)
      ·rw[if_neg c6]at H;have B:(l == 0)=false:=beq_eq_false_iff_ne.mpr c6;have D:(l != 0)=true:=bne_iff_ne.mpr c6;simp only[Option.some.injEq,Prod.mk.injEq]at H;obtain⟨rfl,rfl,rfl⟩:=H
       go_wp2_with (first |((with_reducible refine Qjs (f:=142) rfl ?_);refine Qhs (some 18) rfl rfl Tryz.func142 qq_7 rfl #[.string (a0.extract (c:Int).toNat a0.size)] rfl qq_1 ?_;(with_reducible refine(Qbq.calls k1 (a0.extract (c:Int).toNat a0.size) d j q l _ A5.out).mono ?_);rintro e Y ⟨rfl,hb⟩;refine⟨_,rfl,?_⟩;have n_:=qn2 (Kd.R_below qq_5 hb) (Qgi qq_b hb);clear HO_5 HB;obtain⟨HO_5,HB⟩:=n_;(try clear hb);(try clear hb2);(try clear hk);(try clear hi)) |((with_reducible refine Qgt (N:=7) rfl ?_);refine qq_e 7 #[.string (⟨#[]⟩:ByteArray),.string (⟨#[]⟩:ByteArray)] 210 ?_;intro a hg Z hbox hb;have n_:=qn5 (Kd.R_below (Kd.R_elderB qq_5 a (Nat.le_of_eq hg.symm)) hb) (Qgi qq_b hb) (hbox) (qq_s hg:w.heap.size≤a) (qq_s hg:w.heap.size≤a);clear HO_5 HB;obtain⟨HO_5,HB,m,u,v⟩:=n_;clear hb hbox hg;obtain⟨J,K⟩:=qc2 m.out;have M:=Qep m.out))
       go_ret3
       exact⟨_,by first|rfl |(simp[Qjz,Qka]<;>rfl) |(simp[*,Qjz,Qka]<;>rfl),by(with_reducible repeat(first|apply Kd.R_alloc|apply Kd.R_drewN|apply Kd.R_drew));exact Kd.R_mono (Kd.R_far (p:=⟨a,1,none⟩) (Kd.R_far (p:=⟨a,0,none⟩) (Kd.R_mono HO_5.out (fun k_ hk=>(⟨hk,hk.2⟩:_∧k_≠a))) (fun _ hk=>hk.2) (.string d)) (fun _ hk=>hk.2) (.string j)) (fun _ hk=>trivial),qq_b⟩
     ·rw[if_neg c4]at H;exact absurd H (by simp)
    ·rw[if_neg c3]at H;exact absurd H (by simp)
   ·rw[if_neg c2]at H;have A:decide (c<(a0.size:Int))=false:=decide_eq_false c2;clear c2;simp only[Option.some.injEq,Prod.mk.injEq]at H;obtain⟨rfl,rfl,rfl⟩:=H;go_wp2
    go_ret3
    exact⟨_,by first|rfl |(simp[Qjz,Qka]<;>rfl) |(simp[*,Qjz,Qka]<;>rfl),by(with_reducible repeat(first|apply Kd.R_alloc|apply Kd.R_drewN|apply Kd.R_drew));exact HO_5.out,qq_b⟩
end Go.Proofs.YtnnofopfbeklbaaGreat.C
end
section
namespace Go.Proofs.YtnnofopfbeklbaaGreat.C
open Go.RowKit Go.Proofs.YtnnofopfbeklbaaGreatW.PrintWords Go.Proofs.YtnnofopfbeklbaaGreatW.PrintLast Go.Proofs.YtnnofopfbeklbaaGreatW.PrintMore
attribute [local go_sem] Qjk Qjl Qjm Qjn Qjo Qjp Qjq Qjr
attribute [local go_sem high] eqA122
def Qbt.l0:Nat→List (S122)→Bool→List (S122)→Int→Int→Int→Int→Option ((List (S122)))
 | 0,_,_,_,_,_,_,_=>none
 | k+1,x5,x6,x9,x10,x11,x425000,x425001=>if x11<x10 then(if 0≤x11 then(if x11<(x9.length:Int)then(if(((Qkt x9 x11).f0) == x425000 && (((Qkt x9 x11).f1) == x425001))=true then(if x5.length<8796093022208 then(Qbt.l0 k (x5++[(⟨(Qkt x9 x11).f0,(Qkt x9 x11).f1⟩:S122)]) true x9 x10 (wrap64 (x11+1)) x425000 x425001)else(none))else(if x6=true then(if x5.length<8796093022208 then(Qbt.l0 k (x5++[(⟨(Qkt x9 x11).f0,(Qkt x9 x11).f1⟩:S122)]) x6 x9 x10 (wrap64 (x11+1)) x425000 x425001)else(none))else((Qbw.f x425000 x425001 ((Qkt x9 x11).f0) ((Qkt x9 x11).f1)).bind fun t436=>(if t436=true then(if x5.length<8796093022208 then((some (x5++[(⟨x425000,x425001⟩:S122)]:List (S122))).bind fun y437=>(if y437.length<8796093022208 then(Qbt.l0 k (y437++[(⟨(Qkt x9 x11).f0,(Qkt x9 x11).f1⟩:S122)]) true x9 x10 (wrap64 (x11+1)) x425000 x425001)else(none)))else(none))else(if x5.length<8796093022208 then(Qbt.l0 k (x5++[(⟨(Qkt x9 x11).f0,(Qkt x9 x11).f1⟩:S122)]) x6 x9 x10 (wrap64 (x11+1)) x425000 x425001)else(none))))))else(none))else(none))else(if x6=true then(some x5)else(if x5.length<8796093022208 then(some (x5++[(⟨x425000,x425001⟩:S122)]))else(none)))
def Qbt.f(k:Nat)(l0:List (S122))(a1_0:Int)(a1_1:Int):Option ((List (S122))):=Qbt.l0 k ([]:List (S122)) false l0 (l0.length:Int) 0 a1_0 a1_1
theorem Qbt.calls (k:Nat) (A0:Option Addr) (c0:Nat) (l0:List (S122)) (c:Int) (d:Int) (r:List (S122)) (w:World) (hr0:Kd.C k122 w A0 l0.length l0) (hc0:l0.length≤c0) (h:Qbt.f k l0 c d=some r) :
  Calls Tryz.prog 110 #[.slice A0 l0.length c0,.agg #[.int .u64 c,.int .u32 d]] w fun e w'=>∃aC:Value,e=.returned (aC)∧Kd.R k122 122 w' w.heap.size (fun _=>True) aC r∧Below w.heap.size w w':=by
 have hu122:=Tryz.underlying122;have U:=QA hr0;have bW:=QA hc0;clear hr0 hc0;have HB:=QA (Below.refl w.heap.size w);have H:(Qbt.l0 k ([]:List (S122)) false l0 (l0.length:Int) 0 c d)=some r:=h;clear h;have H':=QA H;clear H
 go_enter Tryz.func110,Tryz.ntmps110
 go_wp2_with (first |((with_reducible refine Qgt (N:=3) rfl ?_);refine qq_e 3 #[.int .u64 c,.int .u32 d] 122 ?_;intro l hg w3 hbox hb;have n_:=qn4 (Qgi qq_b hb) (hbox) (qq_s hg:w.heap.size≤l) (qq_s hg:w.heap.size≤l);clear HB;obtain⟨HB,m,bq,br⟩:=n_;clear hb hbox hg))
 go_loopg [5,6,11] k (fun kq v5 v6 bp w'=>∃(x5_1:List (S122)) (L:Bool) (a:Int),v6=.bool L∧bp=.int .i64 a∧Aside0 (Qbt.l0 kq x5_1 L l0 (l0.length:Int) a c d=some r)∧Aside0 (kq≤k)∧Aside0 (Kd.R k122 122 w' w.heap.size (fun k_=>k_≠l) v5 x5_1)∧Aside0 (w'.heap[l]? = some (.cells #[.int .u64 c,.int .u32 d] 122 (0,0)))∧Aside0 (Below w.heap.size w w'))
 case atStart=>exact⟨(([]:List (S122))),(false),(0),qq_8,qq_8,H',⟨Nat.le_refl _⟩,⟨by first|exact Kd.R_nil _ _ _ _ _|exact Kd.N_nil _ _ _ _ _|exact Kd.V_nil _ _ _ _ _|exact Kd.Q_nil _ _ _ _ _|exact Kd.S_nil _ _ _ _ _⟩,⟨by(with_reducible repeat(first|apply Qfc|apply Qfb|apply Qfa));exact m.out⟩,⟨qq_b⟩⟩
 case round =>
  clear H';obtain⟨x5_1,L,a,rfl,rfl,HA,HK1,HO_5,m,HB⟩:=hrel
  cases gk with
  | zero=>exact absurd HA.out (by simp[Qbt.l0])
  | succ k1 =>
   have H:=HA.out;clear HA;simp only[Qbt.l0]at H
   by_cases c4:a<(l0.length:Int)
   ·rw [if_pos c4]at H;have aE:decide (a<(l0.length:Int))=true:=decide_eq_true c4;clear c4
    by_cases c5:0≤a
    ·rw [if_pos c5]at H;have bO:decide (0≤a)=true:=decide_eq_true c5;clear c5
     by_cases c6:a<(l0.length:Int)
     ·rw [if_pos c6]at H;have bP:decide (a<(l0.length:Int))=true:=decide_eq_true c6;clear c6
      by_cases c7:(((Qkt l0 a).f0) == c && (((Qkt l0 a).f1) == d))=true
      ·rw[if_pos c7]at H;have aG:(((Qkt l0 a).f0) == c && (((Qkt l0 a).f1) == d))=true:=c7
       (try(have aH:decide (((Qkt l0 a).f0)=c && (((Qkt l0 a).f1) == d))=true:=by simpa using c7))
       (try(have aI:(((Qkt l0 a).f0) == c && (((Qkt l0 a).f1) == d))=true:=by simpa using c7))
       clear c7
       by_cases c8:x5_1.length<8796093022208
       ·rw[if_pos c8]at H;have aJ:=QA c8;clear c8;obtain⟨ae,B⟩:∃y_:List (S122),y_=(x5_1++[(⟨(Qkt l0 a).f0,(Qkt l0 a).f1⟩:S122)]):=⟨_,rfl⟩;replace H:(Qbt.l0 k1 ae true l0 (l0.length:Int) (wrap64 (a+1)) c d)=some r:=by first |(rw[B];with_reducible exact H) |(have t:=(Option.bind_some _ _).symm.trans H;rw[B];with_reducible exact t) |(have t:=(Option.bind_some _ _).symm.trans H;with_reducible exact t)|with_reducible exact H |(rw[B];exact H)|exact H
        have aj:=QA B;clear B;have H':=QA H;clear H;have x:0≤(a:Int):=of_decide_eq_true qq_6;have y:a<(l0.length:Int):=of_decide_eq_true qq_6;obtain⟨M,A,q,s⟩:=Qku U.out a x y
        cases A
        replace q:=qq_h HB.out q;replace s:=qq_h HB.out s;replace x:=eq_true x;replace y:=eq_true y
        go_wp2_with (first |((with_reducible refine Qgt (N:=8) rfl ?_);refine qq_e 8 #[.int .u64 0,.int .u32 0] 122 ?_;intro j hg w9 hbox hb;have n_:=qn8 (Kd.R_below (Kd.R_elderB qq_5 j (Nat.le_of_eq hg.symm)) hb) (Qfd (g:=l) (o:=.cells #[.int .u64 c,.int .u32 d] 122 (0,0)) qq_0 hb) (Qgi qq_b hb) (hbox) (qq_s hg:w.heap.size≤j) (qq_s hg:w.heap.size≤j) ((by rw[hg];exact Nat.ne_of_lt (Qen (g:=l) (o:=.cells #[.int .u64 c,.int .u32 d] 122 (0,0)) qq_0):l≠j)) ((by rw[hg];exact Nat.ne_of_gt (Qen (g:=l) (o:=.cells #[.int .u64 c,.int .u32 d] 122 (0,0)) qq_0):j≠l));clear HO_5 m HB;obtain⟨HO_5,m,HB,n,O,P,u,v⟩:=n_;clear hb hbox hg;have bs:=v.out;have bu:=u.out;obtain⟨aN,aQ⟩:=qc2 n.out;have bv:=Qep n.out;obtain⟨aR,aT⟩:=qc2 m.out;have bw:=Qep m.out) |((with_reducible refine Qjt (b:=.append) (xs:=#[.tmp 29,.tmp 31]) rfl ?_);at_builtin;refine Kd.R_append k122 (w0:=w) w.heap.size rfl (.tmp 29) (.tmp 31) 49 122 (.agg #[(.int .u64 0),(.int .u32 0)]) 16 rfl Tryz.underlying49 Qkf rfl (by decide) (by omega) u5 x5_1 (⟨(Qkt l0 a).f0,(Qkt l0 a).f1⟩:S122) [.int .u64 ((Qkt l0 a).f0),.int .u32 ((Qkt l0 a).f1)] (fun k_=>k_≠l∧k_≠j) (fun _=>False) rfl qq_13 ?aP (fun _ hk=>hk.elim) ?aF ?aO ?aB ?aS ?aL ?_;(case aP=>exact Qks _ _ _ (⟨(Qkt l0 a).f0,(Qkt l0 a).f1⟩:S122));(case aB=>exact qq_b);(case aF=>exact(fun k_ hk=>⟨Kd.freshB (g:=l) (o:=.cells #[.int .u64 c,.int .u32 d] 122 (0,0)) qq_9 k_ hk,Kd.freshB (g:=j) (o:=.cells #[.int .u64 ((Qkt l0 a).f0),.int .u32 ((Qkt l0 a).f1)] 122 (0,0)) qq_x k_ hk⟩));(case aO=>exact(by(with_reducible repeat(first|apply Kd.R_alloc|apply Kd.R_drewN|apply Kd.R_drew));exact Kd.R_mono (Kd.R_far (p:=⟨j,1,none⟩) (Kd.R_far (p:=⟨j,0,none⟩) (Kd.R_mono HO_5.out (fun k_ hk=>(⟨hk,hk.2⟩:_∧k_≠j))) (fun _ hk=>hk.2) (.int .u64 ((Qkt l0 a).f0))) (fun _ hk=>hk.2) (.int .u32 ((Qkt l0 a).f1))) (fun _ hk=>⟨hk.1.1,hk.1.2⟩)));(case aS=>exact(Qgh qq_b));(case aL=>have:=aJ.out;omega);intro bQ bX ho hb hg hat;rw[← aj.out]at ho;have n_:=qn4 (Qeq (g:=l) (o:=.cells #[.int .u64 c,.int .u32 d] 122 (0,0)) qq_9 hg (Kd.R_away HO_5.out (fun _ hk=>hk.1))) (Qeq (g:=j) (o:=.cells #[.int .u64 ((Qkt l0 a).f0),.int .u32 ((Qkt l0 a).f1)] 122 (0,0)) qq_x hg (Kd.R_away HO_5.out (fun _ hk=>hk.2))) (hb) (ho);clear m n HB HO_5;obtain⟨m,n,HB,ak⟩:=n_;clear ho hb hg hat))
        go_roundg k1
        case measure=>have:=HK1.out;omega
        case rel=>exact⟨(ae),(true),(wrap64 (a+1)),qq_8,qq_8,H',⟨by have:=HK1.out;omega⟩,⟨by(with_reducible repeat(first|apply Kd.R_alloc|apply Kd.R_drewN|apply Kd.R_drew));exact Kd.R_mono ak.out (fun _ hk=>hk.1)⟩,⟨by(with_reducible repeat(first|apply Qfc|apply Qfb|apply Qfa));exact m.out⟩,⟨qq_b⟩⟩
       ·rw[if_neg c8]at H;exact absurd H (by simp)
      ·rw [if_neg c7]at H;have aG:(((Qkt l0 a).f0) == c && (((Qkt l0 a).f1) == d))=false:=by simpa using c7
       (try(have aH:decide (((Qkt l0 a).f0)=c && (((Qkt l0 a).f1) == d))=false:=by simpa using c7))
       (try(have aI:(((Qkt l0 a).f0) == c && (((Qkt l0 a).f1) == d))=false:=by simpa using c7))
       (try(have bR:¬(((Qkt l0 a).f0)=c && (((Qkt l0 a).f1) == d)):=by simpa using c7))
       clear c7
       by_cases W:L=true
       ·subst W;have H1:(if x5_1.length<8796093022208 then(Qbt.l0 k1 (x5_1++[(⟨(Qkt l0 a).f0,(Qkt l0 a).f1⟩:S122)]) true l0 (l0.length:Int) (wrap64 (a+1)) c d)else(none))=some r:=by rw[if_pos rfl]at H;exact H
        clear H;have H:=H1;clear H1
        by_cases X:x5_1.length<8796093022208
        ·rw[if_pos X]at H;have al:=QA X;clear X;obtain⟨af,D⟩:∃y_:List (S122),y_=(x5_1++[(⟨(Qkt l0 a).f0,(Qkt l0 a).f1⟩:S122)]):=⟨_,rfl⟩;replace H:(Qbt.l0 k1 af true l0 (l0.length:Int) (wrap64 (a+1)) c d)=some r:=by first |(rw[D];with_reducible exact H) |(have t:=(Option.bind_some _ _).symm.trans H;rw[D];with_reducible exact t) |(have t:=(Option.bind_some _ _).symm.trans H;with_reducible exact t)|with_reducible exact H |(rw[D];exact H)|exact H
         have am:=QA D;clear D;have H':=QA H;clear H;have x:0≤(a:Int):=of_decide_eq_true qq_6;have y:a<(l0.length:Int):=of_decide_eq_true qq_6;obtain⟨M,A,q,s⟩:=Qku U.out a x y
         cases A
         replace q:=qq_h HB.out q;replace s:=qq_h HB.out s;replace x:=eq_true x;replace y:=eq_true y
         go_wp2_with (first |((with_reducible refine Qgt (N:=8) rfl ?_);refine qq_e 8 #[.int .u64 0,.int .u32 0] 122 ?_;intro j hg bY hbox hb;have n_:=qn8 (Kd.R_below (Kd.R_elderB qq_5 j (Nat.le_of_eq hg.symm)) hb) (Qfd (g:=l) (o:=.cells #[.int .u64 c,.int .u32 d] 122 (0,0)) qq_0 hb) (Qgi qq_b hb) (hbox) (qq_s hg:w.heap.size≤j) (qq_s hg:w.heap.size≤j) ((by rw[hg];exact Nat.ne_of_lt (Qen (g:=l) (o:=.cells #[.int .u64 c,.int .u32 d] 122 (0,0)) qq_0):l≠j)) ((by rw[hg];exact Nat.ne_of_gt (Qen (g:=l) (o:=.cells #[.int .u64 c,.int .u32 d] 122 (0,0)) qq_0):j≠l));clear HO_5 m HB;obtain⟨HO_5,m,HB,n,O,P,u,v⟩:=n_;clear hb hbox hg;have bx:=v.out;have bz:=u.out;obtain⟨aU,aV⟩:=qc2 n.out;have bA:=Qep n.out;obtain⟨aW,aX⟩:=qc2 m.out;have bB:=Qep m.out) |((with_reducible refine Qjt (b:=.append) (xs:=#[.tmp 29,.tmp 31]) rfl ?_);at_builtin;refine Kd.R_append k122 (w0:=w) w.heap.size rfl (.tmp 29) (.tmp 31) 49 122 (.agg #[(.int .u64 0),(.int .u32 0)]) 16 rfl Tryz.underlying49 Qkf rfl (by decide) (by omega) u5 x5_1 (⟨(Qkt l0 a).f0,(Qkt l0 a).f1⟩:S122) [.int .u64 ((Qkt l0 a).f0),.int .u32 ((Qkt l0 a).f1)] (fun k_=>k_≠l∧k_≠j) (fun _=>False) rfl qq_13 ?aP (fun _ hk=>hk.elim) ?aF ?aO ?aB ?aS ?aL ?_;(case aP=>exact Qks _ _ _ (⟨(Qkt l0 a).f0,(Qkt l0 a).f1⟩:S122));(case aB=>exact qq_b);(case aF=>exact(fun k_ hk=>⟨Kd.freshB (g:=l) (o:=.cells #[.int .u64 c,.int .u32 d] 122 (0,0)) qq_9 k_ hk,Kd.freshB (g:=j) (o:=.cells #[.int .u64 ((Qkt l0 a).f0),.int .u32 ((Qkt l0 a).f1)] 122 (0,0)) qq_x k_ hk⟩));(case aO=>exact(by(with_reducible repeat(first|apply Kd.R_alloc|apply Kd.R_drewN|apply Kd.R_drew));exact Kd.R_mono (Kd.R_far (p:=⟨j,1,none⟩) (Kd.R_far (p:=⟨j,0,none⟩) (Kd.R_mono HO_5.out (fun k_ hk=>(⟨hk,hk.2⟩:_∧k_≠j))) (fun _ hk=>hk.2) (.int .u64 ((Qkt l0 a).f0))) (fun _ hk=>hk.2) (.int .u32 ((Qkt l0 a).f1))) (fun _ hk=>⟨hk.1.1,hk.1.2⟩)));(case aS=>exact(Qgh qq_b));(case aL=>have:=al.out;omega);intro bS bZ ho hb hg hat;rw[← am.out]at ho;have n_:=qn4 (Qeq (g:=l) (o:=.cells #[.int .u64 c,.int .u32 d] 122 (0,0)) qq_9 hg (Kd.R_away HO_5.out (fun _ hk=>hk.1))) (Qeq (g:=j) (o:=.cells #[.int .u64 ((Qkt l0 a).f0),.int .u32 ((Qkt l0 a).f1)] 122 (0,0)) qq_x hg (Kd.R_away HO_5.out (fun _ hk=>hk.2))) (hb) (ho);clear m n HB HO_5;obtain⟨m,n,HB,an⟩:=n_;clear ho hb hg hat))
         go_roundg k1
         case measure=>have:=HK1.out;omega
         case rel=>exact⟨(af),(true),(wrap64 (a+1)),qq_8,qq_8,H',⟨by have:=HK1.out;omega⟩,⟨by(with_reducible repeat(first|apply Kd.R_alloc|apply Kd.R_drewN|apply Kd.R_drew));exact Kd.R_mono an.out (fun _ hk=>hk.1)⟩,⟨by(with_reducible repeat(first|apply Qfc|apply Qfb|apply Qfa));exact m.out⟩,⟨qq_b⟩⟩
        ·rw[if_neg X]at H;exact absurd H (by simp)
       ·replace W:=Bool.eq_false_iff.mpr W;subst W;have H1:((Qbw.f c d ((Qkt l0 a).f0) ((Qkt l0 a).f1)).bind fun T=>(if T=true then(if x5_1.length<8796093022208 then((some (x5_1++[(⟨c,d⟩:S122)]:List (S122))).bind fun z=>(if z.length<8796093022208 then(Qbt.l0 k1 (z++[(⟨(Qkt l0 a).f0,(Qkt l0 a).f1⟩:S122)]) true l0 (l0.length:Int) (wrap64 (a+1)) c d)else(none)))else(none))else(if x5_1.length<8796093022208 then(Qbt.l0 k1 (x5_1++[(⟨(Qkt l0 a).f0,(Qkt l0 a).f1⟩:S122)]) false l0 (l0.length:Int) (wrap64 (a+1)) c d)else(none))))=some r:=by rw[if_neg (show ¬(false=true)by decide)]at H;exact H
        clear H;have H:=H1;clear H1;replace H:=Option.bind_eq_some_iff.mp H;obtain⟨T,ag,H⟩:=H;replace H:(if T=true then(if x5_1.length<8796093022208 then((some (x5_1++[(⟨c,d⟩:S122)]:List (S122))).bind fun z=>(if z.length<8796093022208 then(Qbt.l0 k1 (z++[(⟨(Qkt l0 a).f0,(Qkt l0 a).f1⟩:S122)]) true l0 (l0.length:Int) (wrap64 (a+1)) c d)else(none)))else(none))else(if x5_1.length<8796093022208 then(Qbt.l0 k1 (x5_1++[(⟨(Qkt l0 a).f0,(Qkt l0 a).f1⟩:S122)]) false l0 (l0.length:Int) (wrap64 (a+1)) c d)else(none)))=some r:=H;have aD:=QA ag;clear ag
        by_cases Y:T=true
        ·subst Y;have H1:(if x5_1.length<8796093022208 then((some (x5_1++[(⟨c,d⟩:S122)]:List (S122))).bind fun z=>(if z.length<8796093022208 then(Qbt.l0 k1 (z++[(⟨(Qkt l0 a).f0,(Qkt l0 a).f1⟩:S122)]) true l0 (l0.length:Int) (wrap64 (a+1)) c d)else(none)))else(none))=some r:=by rw[if_pos rfl]at H;exact H
         clear H;have H:=H1;clear H1
         by_cases Z:x5_1.length<8796093022208
         ·rw[if_pos Z]at H;have ao:=QA Z;clear Z;obtain⟨z,E⟩:∃y_:List (S122),y_=(x5_1++[(⟨c,d⟩:S122)]):=⟨_,rfl⟩;replace H:(if z.length<8796093022208 then(Qbt.l0 k1 (z++[(⟨(Qkt l0 a).f0,(Qkt l0 a).f1⟩:S122)]) true l0 (l0.length:Int) (wrap64 (a+1)) c d)else(none))=some r:=by first |(rw[E];with_reducible exact H) |(have t:=(Option.bind_some _ _).symm.trans H;rw[E];with_reducible exact t) |(have t:=(Option.bind_some _ _).symm.trans H;with_reducible exact t)|with_reducible exact H |(rw[E];exact H)|exact H
          have ap:=QA E;clear E
          by_cases aa:z.length<8796093022208
          ·rw[if_pos aa]at H;have aq:=QA aa;clear aa;obtain⟨ah,G⟩:∃y_:List (S122),y_=(z++[(⟨(Qkt l0 a).f0,(Qkt l0 a).f1⟩:S122)]):=⟨_,rfl⟩;replace H:(Qbt.l0 k1 ah true l0 (l0.length:Int) (wrap64 (a+1)) c d)=some r:=by first |(rw[G];with_reducible exact H) |(have t:=(Option.bind_some _ _).symm.trans H;rw[G];with_reducible exact t) |(have t:=(Option.bind_some _ _).symm.trans H;with_reducible exact t)|with_reducible exact H |(rw[G];exact H)|exact H
           have ar:=QA G;clear G;have H':=QA H;clear H;have x:0≤(a:Int):=of_decide_eq_true qq_6;have y:a<(l0.length:Int):=of_decide_eq_true qq_6;obtain⟨M,A,q,s⟩:=Qku U.out a x y
           cases A
           replace q:=qq_h HB.out q;replace s:=qq_h HB.out s;replace x:=eq_true x;replace y:=eq_true y
           go_wp2_with (first |((with_reducible refine Qgt (N:=8) rfl ?_);refine qq_e 8 #[.int .u64 0,.int .u32 0] 122 ?_;intro j hg b0 hbox hb;have n_:=qn8 (Kd.R_below (Kd.R_elderB qq_17 j (Nat.le_of_eq hg.symm)) hb) (Qfd (g:=l) (o:=.cells #[.int .u64 c,.int .u32 d] 122 (0,0)) qq_0 hb) (Qgi qq_b hb) (hbox) (qq_s hg:w.heap.size≤j) (qq_s hg:w.heap.size≤j) ((by rw[hg];exact Nat.ne_of_lt (Qen (g:=l) (o:=.cells #[.int .u64 c,.int .u32 d] 122 (0,0)) qq_0):l≠j)) ((by rw[hg];exact Nat.ne_of_gt (Qen (g:=l) (o:=.cells #[.int .u64 c,.int .u32 d] 122 (0,0)) qq_0):j≠l));clear HO_5 m HB;obtain⟨HO_5,m,HB,n,O,P,u,v⟩:=n_;clear hb hbox hg;have bC:=v.out;have bD:=u.out;obtain⟨aY,aZ⟩:=qc2 n.out;have bE:=Qep n.out;obtain⟨ba,bb⟩:=qc2 m.out;have bF:=Qep m.out) |(go_at_call 158;(with_reducible refine(Qbw.calls c d ((Qkt l0 a).f0) ((Qkt l0 a).f1) true _ aD.out).mono ?_);rintro e b1 ⟨rfl,hb⟩;have n_:=qn4 (Kd.R_below (by(with_reducible repeat(first|apply Kd.R_alloc|apply Kd.R_drewN|apply Kd.R_drew));exact(Kd.R_mono (Kd.R_far (p:=⟨j,1,none⟩) (Kd.R_far (p:=⟨j,0,none⟩) (Kd.R_mono HO_5.out (fun k_ hk=>(⟨hk,hk.2⟩:_∧k_≠j))) (fun _ hk=>hk.2) (.int .u64 ((Qkt l0 a).f0))) (fun _ hk=>hk.2) (.int .u32 ((Qkt l0 a).f1))) (fun _ h_=>h_.1))) hb) (Qfd (g:=l) (o:=.cells #[.int .u64 c,.int .u32 d] 122 (0,0)) qq_9 hb) (Qfd (g:=j) (o:=.cells #[.int .u64 ((Qkt l0 a).f0),.int .u32 ((Qkt l0 a).f1)] 122 (0,0)) qq_x hb) (Qgi qq_b hb);clear HO_5 m n HB;obtain⟨HO_5,m,n,HB⟩:=n_;(try clear hb);(try clear hb2);(try clear hk);(try clear hi);obtain⟨bc,bd⟩:=qc2 m.out;have bG:=Qep m.out) |((with_reducible refine Qjt (b:=.append) (xs:=#[.tmp 25,.tmp 27]) rfl ?_);at_builtin;refine Kd.R_append k122 (w0:=w) w.heap.size rfl (.tmp 25) (.tmp 27) 49 122 (.agg #[(.int .u64 0),(.int .u32 0)]) 16 rfl Tryz.underlying49 Qkf rfl (by decide) (by omega) u5 x5_1 (⟨c,d⟩:S122) [.int .u64 c,.int .u32 d] (fun k_=>k_≠l∧k_≠j) (fun _=>False) rfl rfl ?aP (fun _ hk=>hk.elim) ?aF ?aO ?aB ?aS ?aL ?_;(case aP=>exact Qks _ _ _ (⟨c,d⟩:S122));(case aB=>exact qq_b);(case aF=>exact(fun k_ hk=>⟨Kd.freshB (g:=l) (o:=.cells #[.int .u64 c,.int .u32 d] 122 (0,0)) qq_0 k_ hk,Kd.freshB (g:=j) (o:=.cells #[.int .u64 ((Qkt l0 a).f0),.int .u32 ((Qkt l0 a).f1)] 122 (0,0)) qq_0 k_ hk⟩));(case aO=>exact qq_17);(case aS=>exact(Qgh qq_b));(case aL=>have:=ao.out;omega);intro aK b2 ho hb hg hat;rw[← ap.out]at ho;have n_:=qn4 (Qeq (g:=l) (o:=.cells #[.int .u64 c,.int .u32 d] 122 (0,0)) qq_0 hg (Kd.R_away HO_5.out (fun _ hk=>hk.1))) (Qeq (g:=j) (o:=.cells #[.int .u64 ((Qkt l0 a).f0),.int .u32 ((Qkt l0 a).f1)] 122 (0,0)) qq_0 hg (Kd.R_away HO_5.out (fun _ hk=>hk.2))) (hb) (ho);clear m n HB HO_5;obtain⟨m,n,HB,K⟩:=n_;clear ho hb hg hat;obtain⟨be,bf⟩:=qc2 n.out;have bH:=Qep n.out) |((with_reducible refine Qjt (b:=.append) (xs:=#[.tmp 29,.tmp 31]) rfl ?_);at_builtin;refine Kd.R_append k122 (w0:=w) w.heap.size rfl (.tmp 29) (.tmp 31) 49 122 (.agg #[(.int .u64 0),(.int .u32 0)]) 16 rfl Tryz.underlying49 Qkf rfl (by decide) (by omega) aK z (⟨(Qkt l0 a).f0,(Qkt l0 a).f1⟩:S122) [.int .u64 ((Qkt l0 a).f0),.int .u32 ((Qkt l0 a).f1)] (fun k_=>k_≠l∧k_≠j) (fun _=>False) rfl rfl ?aP (fun _ hk=>hk.elim) ?aF ?aO ?aB ?aS ?aL ?_;(case aP=>exact Qks _ _ _ (⟨(Qkt l0 a).f0,(Qkt l0 a).f1⟩:S122));(case aB=>exact qq_b);(case aF=>exact(fun k_ hk=>⟨Kd.freshB (g:=l) (o:=.cells #[.int .u64 c,.int .u32 d] 122 (0,0)) qq_0 k_ hk,Kd.freshB (g:=j) (o:=.cells #[.int .u64 ((Qkt l0 a).f0),.int .u32 ((Qkt l0 a).f1)] 122 (0,0)) qq_0 k_ hk⟩));(case aO=>exact(by(with_reducible repeat(first|apply Kd.R_alloc|apply Kd.R_drewN|apply Kd.R_drew));exact K.out));(case aS=>exact(Qgh qq_b));(case aL=>have:=aq.out;omega);intro bT b3 ho hb hg hat;rw[← ar.out]at ho;have n_:=qn4 (Qeq (g:=l) (o:=.cells #[.int .u64 c,.int .u32 d] 122 (0,0)) qq_0 hg (Kd.R_away K.out (fun _ hk=>hk.1))) (Qeq (g:=j) (o:=.cells #[.int .u64 ((Qkt l0 a).f0),.int .u32 ((Qkt l0 a).f1)] 122 (0,0)) qq_0 hg (Kd.R_away K.out (fun _ hk=>hk.2))) (hb) (ho);clear m n HB K;obtain⟨m,n,HB,au⟩:=n_;clear ho hb hg hat))
           go_roundg k1
           case measure=>have:=HK1.out;omega
           case rel=>exact⟨(ah),(true),(wrap64 (a+1)),qq_8,qq_8,H',⟨by have:=HK1.out;omega⟩,⟨by(with_reducible repeat(first|apply Kd.R_alloc|apply Kd.R_drewN|apply Kd.R_drew));exact Kd.R_mono au.out (fun _ hk=>hk.1)⟩,⟨by(with_reducible repeat(first|apply Qfc|apply Qfb|apply Qfa));exact m.out⟩,⟨qq_b⟩⟩
          ·rw[if_neg aa]at H;exact absurd H (by simp)
         ·rw[if_neg Z]at H;exact absurd H (by simp)
        ·replace Y:=Bool.eq_false_iff.mpr Y;subst Y;have H1:(if x5_1.length<8796093022208 then(Qbt.l0 k1 (x5_1++[(⟨(Qkt l0 a).f0,(Qkt l0 a).f1⟩:S122)]) false l0 (l0.length:Int) (wrap64 (a+1)) c d)else(none))=some r:=by rw[if_neg (show ¬(false=true)by decide)]at H;exact H
         clear H;have H:=H1;clear H1
         by_cases ab:x5_1.length<8796093022208
         ·rw[if_pos ab]at H;have av:=QA ab;clear ab;obtain⟨ai,I⟩:∃y_:List (S122),y_=(x5_1++[(⟨(Qkt l0 a).f0,(Qkt l0 a).f1⟩:S122)]):=⟨_,rfl⟩;replace H:(Qbt.l0 k1 ai false l0 (l0.length:Int) (wrap64 (a+1)) c d)=some r:=by first |(rw[I];with_reducible exact H) |(have t:=(Option.bind_some _ _).symm.trans H;rw[I];with_reducible exact t) |(have t:=(Option.bind_some _ _).symm.trans H;with_reducible exact t)|with_reducible exact H |(rw[I];exact H)|exact H
          have aw:=QA I;clear I;have H':=QA H;clear H;have x:0≤(a:Int):=of_decide_eq_true qq_6;have y:a<(l0.length:Int):=of_decide_eq_true qq_6;obtain⟨M,A,q,s⟩:=Qku U.out a x y
          cases A
          replace q:=qq_h HB.out q;replace s:=qq_h HB.out s;replace x:=eq_true x;replace y:=eq_true y
          go_wp2_with (first |((with_reducible refine Qgt (N:=8) rfl ?_);refine qq_e 8 #[.int .u64 0,.int .u32 0] 122 ?_;intro j hg b4 hbox hb;have n_:=qn8 (Kd.R_below (Kd.R_elderB qq_5 j (Nat.le_of_eq hg.symm)) hb) (Qfd (g:=l) (o:=.cells #[.int .u64 c,.int .u32 d] 122 (0,0)) qq_0 hb) (Qgi qq_b hb) (hbox) (qq_s hg:w.heap.size≤j) (qq_s hg:w.heap.size≤j) ((by rw[hg];exact Nat.ne_of_lt (Qen (g:=l) (o:=.cells #[.int .u64 c,.int .u32 d] 122 (0,0)) qq_0):l≠j)) ((by rw[hg];exact Nat.ne_of_gt (Qen (g:=l) (o:=.cells #[.int .u64 c,.int .u32 d] 122 (0,0)) qq_0):j≠l));clear HO_5 m HB;obtain⟨HO_5,m,HB,n,O,P,u,v⟩:=n_;clear hb hbox hg;have bI:=v.out;have bJ:=u.out;obtain⟨bg,bh⟩:=qc2 n.out;have bK:=Qep n.out;obtain⟨bi,bj⟩:=qc2 m.out;have bL:=Qep m.out) |(go_at_call 158;(with_reducible refine(Qbw.calls c d ((Qkt l0 a).f0) ((Qkt l0 a).f1) false _ aD.out).mono ?_);rintro e b5 ⟨rfl,hb⟩;have n_:=qn4 (Kd.R_below (by(with_reducible repeat(first|apply Kd.R_alloc|apply Kd.R_drewN|apply Kd.R_drew));exact(Kd.R_mono (Kd.R_far (p:=⟨j,1,none⟩) (Kd.R_far (p:=⟨j,0,none⟩) (Kd.R_mono HO_5.out (fun k_ hk=>(⟨hk,hk.2⟩:_∧k_≠j))) (fun _ hk=>hk.2) (.int .u64 ((Qkt l0 a).f0))) (fun _ hk=>hk.2) (.int .u32 ((Qkt l0 a).f1))) (fun _ h_=>h_.1))) hb) (Qfd (g:=l) (o:=.cells #[.int .u64 c,.int .u32 d] 122 (0,0)) qq_9 hb) (Qfd (g:=j) (o:=.cells #[.int .u64 ((Qkt l0 a).f0),.int .u32 ((Qkt l0 a).f1)] 122 (0,0)) qq_x hb) (Qgi qq_b hb);clear HO_5 m n HB;obtain⟨HO_5,m,n,HB⟩:=n_;(try clear hb);(try clear hb2);(try clear hk);(try clear hi);obtain⟨bk,bl⟩:=qc2 n.out;have bM:=Qep n.out) |((with_reducible refine Qjt (b:=.append) (xs:=#[.tmp 29,.tmp 31]) rfl ?_);at_builtin;refine Kd.R_append k122 (w0:=w) w.heap.size rfl (.tmp 29) (.tmp 31) 49 122 (.agg #[(.int .u64 0),(.int .u32 0)]) 16 rfl Tryz.underlying49 Qkf rfl (by decide) (by omega) u5 x5_1 (⟨(Qkt l0 a).f0,(Qkt l0 a).f1⟩:S122) [.int .u64 ((Qkt l0 a).f0),.int .u32 ((Qkt l0 a).f1)] (fun k_=>k_≠l∧k_≠j) (fun _=>False) rfl rfl ?aP (fun _ hk=>hk.elim) ?aF ?aO ?aB ?aS ?aL ?_;(case aP=>exact Qks _ _ _ (⟨(Qkt l0 a).f0,(Qkt l0 a).f1⟩:S122));(case aB=>exact qq_b);(case aF=>exact(fun k_ hk=>⟨Kd.freshB (g:=l) (o:=.cells #[.int .u64 c,.int .u32 d] 122 (0,0)) qq_0 k_ hk,Kd.freshB (g:=j) (o:=.cells #[.int .u64 ((Qkt l0 a).f0),.int .u32 ((Qkt l0 a).f1)] 122 (0,0)) qq_0 k_ hk⟩));(case aO=>exact qq_5);(case aS=>exact(Qgh qq_b));(case aL=>have:=av.out;omega);intro bU b6 ho hb hg hat;rw[← aw.out]at ho;have n_:=qn4 (Qeq (g:=l) (o:=.cells #[.int .u64 c,.int .u32 d] 122 (0,0)) qq_0 hg (Kd.R_away HO_5.out (fun _ hk=>hk.1))) (Qeq (g:=j) (o:=.cells #[.int .u64 ((Qkt l0 a).f0),.int .u32 ((Qkt l0 a).f1)] 122 (0,0)) qq_0 hg (Kd.R_away HO_5.out (fun _ hk=>hk.2))) (hb) (ho);clear m n HB HO_5;obtain⟨m,n,HB,ax⟩:=n_;clear ho hb hg hat))
          go_roundg k1
          case measure=>have:=HK1.out;omega
          case rel=>exact⟨(ai),(false),(wrap64 (a+1)),qq_8,qq_8,H',⟨by have:=HK1.out;omega⟩,⟨by(with_reducible repeat(first|apply Kd.R_alloc|apply Kd.R_drewN|apply Kd.R_drew));exact Kd.R_mono ax.out (fun _ hk=>hk.1)⟩,⟨by(with_reducible repeat(first|apply Qfc|apply Qfb|apply Qfa));exact m.out⟩,⟨qq_b⟩⟩
         ·rw[if_neg ab]at H;exact absurd H (by simp)
     ·rw[if_neg c6]at H;exact absurd H (by simp)
    ·rw[if_neg c5]at H;exact absurd H (by simp)
   ·rw[if_neg c4]at H;have aE:decide (a<(l0.length:Int))=false:=decide_eq_false c4;clear c4
    by_cases ac:L=true
    ·subst ac;have H1:(some x5_1)=some r:=by rw[if_pos rfl]at H;exact H
     clear H;have H:=H1;clear H1;obtain rfl:=Option.some.inj H;go_wp2;go_ret
     exact⟨_,by first|rfl |(simp[Qjz,Qka]<;>rfl) |(simp[*,Qjz,Qka]<;>rfl),by(with_reducible repeat(first|apply Kd.R_alloc|apply Kd.R_drewN|apply Kd.R_drew));exact Kd.R_mono HO_5.out (fun _ hk=>trivial),qq_b⟩
    ·replace ac:=Bool.eq_false_iff.mpr ac;subst ac;have H1:(if x5_1.length<8796093022208 then(some (x5_1++[(⟨c,d⟩:S122)]))else(none))=some r:=by rw[if_neg (show ¬(false=true)by decide)]at H;exact H
     clear H;have H:=H1;clear H1
     by_cases ad:x5_1.length<8796093022208
     ·rw[if_pos ad]at H;have ay:=QA ad;clear ad;obtain⟨aM,J⟩:∃y_:List (S122),y_=(x5_1++[(⟨c,d⟩:S122)]):=⟨_,rfl⟩;replace H:(some aM)=some r:=by first |(rw[J];with_reducible exact H) |(have t:=(Option.bind_some _ _).symm.trans H;rw[J];with_reducible exact t) |(have t:=(Option.bind_some _ _).symm.trans H;with_reducible exact t)|with_reducible exact H |(rw[J];exact H)|exact H
      have az:=QA J;clear J;obtain rfl:=Option.some.inj H;obtain⟨bn,bo⟩:=qc2 m.out;have bN:=Qep m.out
      go_wp2_with (first |((with_reducible refine Qjt (b:=.append) (xs:=#[.tmp 36,.tmp 38]) rfl ?_);at_builtin;refine Kd.R_append k122 (w0:=w) w.heap.size rfl (.tmp 36) (.tmp 38) 49 122 (.agg #[(.int .u64 0),(.int .u32 0)]) 16 rfl Tryz.underlying49 Qkf rfl (by decide) (by omega) u5 x5_1 (⟨c,d⟩:S122) [.int .u64 c,.int .u32 d] (fun k_=>k_≠l) (fun _=>False) rfl rfl ?aP (fun _ hk=>hk.elim) ?aF ?aO ?aB ?aS ?aL ?_;(case aP=>exact Qks _ _ _ (⟨c,d⟩:S122));(case aB=>exact qq_b);(case aF=>exact(fun k_ hk=>Kd.freshB (g:=l) (o:=.cells #[.int .u64 c,.int .u32 d] 122 (0,0)) qq_0 k_ hk));(case aO=>exact qq_5);(case aS=>exact(Qgh qq_b));(case aL=>have:=ay.out;omega);intro bV b7 ho hb hg hat;rw[← az.out]at ho;have n_:=qn3 (Qeq (g:=l) (o:=.cells #[.int .u64 c,.int .u32 d] 122 (0,0)) qq_0 hg (Kd.R_away HO_5.out (fun _ hk=>hk))) (hb) (ho);clear m HB HO_5;obtain⟨m,HB,aA⟩:=n_;clear ho hb hg hat))
      go_ret
      exact⟨_,by first|rfl |(simp[Qjz,Qka]<;>rfl) |(simp[*,Qjz,Qka]<;>rfl),by(with_reducible repeat(first|apply Kd.R_alloc|apply Kd.R_drewN|apply Kd.R_drew));exact Kd.R_mono aA.out (fun _ hk=>trivial),qq_b⟩
     ·rw[if_neg ad]at H;exact absurd H (by simp)
end Go.Proofs.YtnnofopfbeklbaaGreat.C
end
section
namespace Go.Proofs.YtnnofopfbeklbaaGreat.C
open Go.RowKit Go.Proofs.YtnnofopfbeklbaaGreatW.PrintWords Go.Proofs.YtnnofopfbeklbaaGreatW.PrintLast Go.Proofs.YtnnofopfbeklbaaGreatW.PrintMore
attribute [local go_sem] Qjk Qjl Qjm Qjn Qjo Qjp Qjq Qjr
def Qbu.l0:Nat→List (S122)→List (S122)→Int→Int→Option ((List (S122)))
 | 0,_,_,_,_=>none
 | k+1,x3,x6,x7,x8=>if x8<x7 then(if 0≤x8 then(if x8<(x6.length:Int)then((Qbt.f k x3 ((Qkt x6 x8).f0) ((Qkt x6 x8).f1)).bind fun t448=>(Qbu.l0 k t448 x6 x7 (wrap64 (x8+1))))else(none))else(none))else(some x3)
def Qbu.f(k:Nat)(l0:List (S122)):Option ((List (S122))):=Qbu.l0 k ([]:List (S122)) l0 (l0.length:Int) 0
theorem Qbu.calls(k:Nat)(A0:Option Addr)(c0:Nat)(l0:List (S122))(r:List (S122))(w:World)(hr0:Kd.C k122 w A0 l0.length l0)(hc0:l0.length≤c0)(h:Qbu.f k l0=some r) :
  Calls Tryz.prog 66 #[.slice A0 l0.length c0] w fun e w'=>∃t:Value,e=.returned (t)∧Kd.R k122 122 w' w.heap.size (fun _=>True) t r∧Below w.heap.size w w':=by
 have hu122:=Tryz.underlying122;have y:=QA hr0;have L:=QA hc0;clear hr0 hc0;have HB:=QA (Below.refl w.heap.size w);have H:(Qbu.l0 k ([]:List (S122)) l0 (l0.length:Int) 0)=some r:=h;clear h;have H':=QA H;clear H
 go_enter Tryz.func66,Tryz.ntmps66
 go_wp2
 go_loopg [3,8] k (fun kq v3 v8 w'=>∃(a:List (S122)) (x8_1:Int),v8=.int .i64 x8_1∧Aside0 (Qbu.l0 kq a l0 (l0.length:Int) x8_1=some r)∧Aside0 (kq≤k)∧Aside0 (Kd.R k122 122 w' w.heap.size (fun _=>True) v3 a)∧Aside0 (Below w.heap.size w w'))
 case atStart=>exact⟨(([]:List (S122))),(0),qq_8,H',⟨Nat.le_refl _⟩,⟨by first|exact Kd.R_nil _ _ _ _ _|exact Kd.N_nil _ _ _ _ _|exact Kd.V_nil _ _ _ _ _|exact Kd.Q_nil _ _ _ _ _|exact Kd.S_nil _ _ _ _ _⟩,⟨qq_b⟩⟩
 case round =>
  clear H';obtain⟨a,x8_1,rfl,HA,HK1,HO_3,HB⟩:=hrel
  cases gk with
  | zero=>exact absurd HA.out (by simp[Qbu.l0])
  | succ k1 =>
   have H:=HA.out;clear HA;simp only[Qbu.l0]at H
   by_cases c2:x8_1<(l0.length:Int)
   ·rw[if_pos c2]at H;have v:decide (x8_1<(l0.length:Int))=true:=decide_eq_true c2;clear c2
    by_cases c3:0≤x8_1
    ·rw[if_pos c3]at H;have G:decide (0≤x8_1)=true:=decide_eq_true c3;clear c3
     by_cases c4:x8_1<(l0.length:Int)
     ·rw[if_pos c4]at H;have I:decide (x8_1<(l0.length:Int))=true:=decide_eq_true c4;clear c4;replace H:=Option.bind_eq_some_iff.mp H;obtain⟨l,u,H⟩:=H;replace H:(Qbu.l0 k1 l l0 (l0.length:Int) (wrap64 (x8_1+1)))=some r:=H;have A5:=QA u;clear u;have H':=QA H;clear H;have m:0≤(x8_1:Int):=of_decide_eq_true qq_6;have p:x8_1<(l0.length:Int):=of_decide_eq_true qq_6;obtain⟨B,x,d,j⟩:=Qku y.out x8_1 m p
      cases x
      replace d:=qq_h HB.out d;replace j:=qq_h HB.out j;replace m:=eq_true m;replace p:=eq_true p
      go_wp2_with (first |((with_reducible refine Qgt (N:=5) rfl ?_);refine qq_e 5 #[.int .u64 0,.int .u32 0] 122 ?_;intro gb447 hg w6 hbox hb;have n_:=qn5 (Kd.R_below (Kd.R_elderB qq_5 gb447 (Nat.le_of_eq hg.symm)) hb) (Qgi qq_b hb) (hbox) (qq_s hg:w.heap.size≤gb447) (qq_s hg:w.heap.size≤gb447);clear HO_3 HB;obtain⟨HO_3,HB,b,D,E⟩:=n_;clear hb hbox hg;obtain⟨z,A⟩:=qc2 b.out;have J:=Qep b.out;obtain⟨Ao8,co8,eo8⟩:=Kd.R_slice HO_3.out;subst eo8) |((with_reducible refine Qjs (f:=110) rfl ?_);refine Qhs (some 14) rfl rfl Tryz.func110 qq_7 rfl #[.slice Ao8 a.length co8,.agg #[.int .u64 ((Qkt l0 x8_1).f0),.int .u32 ((Qkt l0 x8_1).f1)]] rfl qq_1 ?_;(with_reducible refine(Qbt.calls k1 _ _ a ((Qkt l0 x8_1).f0) ((Qkt l0 x8_1).f1) l _ ?side1 ?side2 A5.out).mono ?_);(case side1=>refine(Kd.R_reads' (e:=122) (base:=w.heap.size) (ok:=fun k_=>(True∧k_≠gb447)) (n:=a.length) (c:=co8) ?_).2.2;exact qq_14);(case side2=>exact(Kd.R_reads' HO_3.out).2.1);rintro e w9 ⟨K,rfl,q,hb⟩;refine⟨_,rfl,?_⟩;have n_:=qn4 (Kd.R_elder' qq_14 (Kd.R_base q) hb) (Kd.R_lower (Kd.R_newB (Kd.R_new' q (Kd.R_lt qq_14)) (g:=gb447) (o:=.cells #[.int .u64 ((Qkt l0 x8_1).f0),.int .u32 ((Qkt l0 x8_1).f1)] 122 (0,0)) qq_x) (Qgh qq_b)) (Qfd (g:=gb447) (o:=.cells #[.int .u64 ((Qkt l0 x8_1).f0),.int .u32 ((Qkt l0 x8_1).f1)] 122 (0,0)) qq_x hb) (Qgi qq_b hb);clear HO_3 b HB;obtain⟨HO_3,s,b,HB⟩:=n_;(try clear hb);(try clear hb2);(try clear hk);(try clear hi);(try clear q)))
      go_roundg k1
      case measure=>have:=HK1.out;omega
      case rel=>exact⟨(l),(wrap64 (x8_1+1)),qq_8,H',⟨by have:=HK1.out;omega⟩,⟨by(with_reducible repeat(first|apply Kd.R_alloc|apply Kd.R_drewN|apply Kd.R_drew));exact Kd.R_mono s.out (fun _ hk=>trivial)⟩,⟨qq_b⟩⟩
     ·rw[if_neg c4]at H;exact absurd H (by simp)
    ·rw[if_neg c3]at H;exact absurd H (by simp)
   ·rw[if_neg c2]at H;have v:decide (x8_1<(l0.length:Int))=false:=decide_eq_false c2;clear c2;obtain rfl:=Option.some.inj H;go_wp2;go_ret
    exact⟨_,by first|rfl |(simp[Qjz,Qka]<;>rfl) |(simp[*,Qjz,Qka]<;>rfl),by(with_reducible repeat(first|apply Kd.R_alloc|apply Kd.R_drewN|apply Kd.R_drew));exact HO_3.out,qq_b⟩
def Qcg.l0:Nat→ByteArray→List (S122)→List (S39)→Int→Int→Option (ByteArray × (List (S122)))
 | 0,_,_,_,_,_=>none
 | k+1,x8,x9,x15,x16,x17=>if x17<x16 then(if 0≤x17 then(if x17<(x15.length:Int)then((Qbc.f k 0 ((Qki x15 x17).f2)).bind fun t455=>(if x9.length<8796093022208 then((Qbo.f k ((Qki x15 x17).f0) ((Qki x15 x17).f1) ((Qki x15 x17).f2) ((Qki x15 x17).f3)).bind fun t459=>(if x8.size+t459.size≤9223372036854775807 then(Qcg.l0 k (x8++t459) (x9++[(⟨t455,((x8.size:Int))%4294967296⟩:S122)]) x15 x16 (wrap64 (x17+1)))else(none)))else(none)))else(none))else(none))else((Qbu.f k x9).bind fun t460=>(some (x8,t460)))
def Qcg.f(k:Nat)(a0_0:Int)(a0_1:Int)(a1:Int)(l2:List (S39)):Option (ByteArray × (List (S122))):=(Qbn.f k a0_0 a0_1 a1).bind fun t452=>(Qcg.l0 k t452 ([]:List (S122)) l2 (l2.length:Int) 0)
theorem Qcg.calls (k:Nat) (l:Int) (m:Int) (a1:Int) (A2:Option Addr) (c2:Nat) (l2:List (S39)) (r1:ByteArray) (r2:List (S122)) (w:World) (hr2:Kd.C k39 w A2 l2.length l2) (hc2:l2.length≤c2) (h:Qcg.f k l m a1 l2=some (r1,r2)) :
  Calls Tryz.prog 27 #[.agg #[.int .u8 l,.int .u32 m],.int .u64 a1,.slice A2 l2.length c2] w fun e w'=>∃ac:Value,e=.returned (.tuple #[.string r1,ac])∧Kd.R k122 122 w' w.heap.size (fun _=>True) ac r2∧Below w.heap.size w w':=by
 have hu27:=Tryz.underlying27;have hu39:=Tryz.underlying39;have hu122:=Tryz.underlying122;have ap:=QA hr2;have aR:=QA hc2;clear hr2 hc2;have HB:=QA (Below.refl w.heap.size w);have H:((Qbn.f k l m a1).bind fun x=>(Qcg.l0 k x ([]:List (S122)) l2 (l2.length:Int) 0))=some (r1,r2):=h;clear h;replace H:=Option.bind_eq_some_iff.mp H;obtain⟨x,ad,H⟩:=H;replace H:(Qcg.l0 k x ([]:List (S122)) l2 (l2.length:Int) 0)=some (r1,r2):=H;have A4:=QA ad;clear ad;have H':=QA H;clear H
 go_enter Tryz.func27,Tryz.ntmps27
 go_wp2_with (first |((with_reducible refine Qgt (N:=3) rfl ?_);refine qq_e 3 #[.int .u8 l,.int .u32 m] 27 ?_;intro d hg w5 hbox hb;have n_:=qn4 (Qgi qq_b hb) (hbox) (qq_s hg:w.heap.size≤d) (qq_s hg:w.heap.size≤d);clear HB;obtain⟨HB,c,aw,ax⟩:=n_;clear hb hbox hg;obtain⟨M,O⟩:=qc2 c.out;have ae:=Qep c.out) |((with_reducible refine Qjs (f:=55) rfl ?_);refine Qhs (some 14) rfl rfl Tryz.func55 qq_7 rfl #[.agg #[.int .u8 l,.int .u32 m],.int .u64 a1] rfl qq_1 ?_;(with_reducible refine(Qbn.calls k l m a1 x _ A4.out).mono ?_);rintro e w7 ⟨rfl,hb⟩;refine⟨_,rfl,?_⟩;have n_:=qn2 (Qfd (g:=d) (o:=.cells #[.int .u8 l,.int .u32 m] 27 (0,0)) qq_0 hb) (Qgi qq_b hb);clear c HB;obtain⟨c,HB⟩:=n_;(try clear hb);(try clear hb2);(try clear hk);(try clear hi)))
 go_loopg [8,9,17] k (fun kq v8 v9 aq w'=>∃(x8_1:ByteArray) (s:List (S122)) (a:Int),v8=.string x8_1∧aq=.int .i64 a∧Aside0 (Qcg.l0 kq x8_1 s l2 (l2.length:Int) a=some (r1,r2))∧Aside0 (kq≤k)∧Aside0 (Kd.R k122 122 w' w.heap.size (fun _=>True) v9 s)∧Aside0 (w'.heap[d]? = some (.cells #[.int .u8 l,.int .u32 m] 27 (0,0)))∧Aside0 (Below w.heap.size w w'))
 case atStart=>exact⟨(x),(([]:List (S122))),(0),qq_8,qq_8,H',⟨Nat.le_refl _⟩,⟨by first|exact Kd.R_nil _ _ _ _ _|exact Kd.N_nil _ _ _ _ _|exact Kd.V_nil _ _ _ _ _|exact Kd.Q_nil _ _ _ _ _|exact Kd.S_nil _ _ _ _ _⟩,⟨by(with_reducible repeat(first|apply Qfc|apply Qfb|apply Qfa));exact c.out⟩,⟨qq_b⟩⟩
 case round =>
  clear H'
  try clear c2
  try clear M
  try clear O
  try clear ae
  obtain⟨x8_1,s,a,rfl,rfl,HA,HK1,n,c,HB⟩:=hrel
  cases gk with
  | zero=>exact absurd HA.out (by simp[Qcg.l0])
  | succ k1 =>
   have H:=HA.out;clear HA;simp only[Qcg.l0]at H
   by_cases c8:a<(l2.length:Int)
   ·rw [if_pos c8]at H;have af:decide (a<(l2.length:Int))=true:=decide_eq_true c8;clear c8
    by_cases c9:0≤a
    ·rw [if_pos c9]at H;have aM:decide (0≤a)=true:=decide_eq_true c9;clear c9
     by_cases c10:a<(l2.length:Int)
     ·rw[if_pos c10]at H;have ay:decide (a<(l2.length:Int))=true:=decide_eq_true c10;clear c10;replace H:=Option.bind_eq_some_iff.mp H;obtain⟨u,P,H⟩:=H;replace H:(if s.length<8796093022208 then((Qbo.f k1 ((Qki l2 a).f0) ((Qki l2 a).f1) ((Qki l2 a).f2) ((Qki l2 a).f3)).bind fun r=>(if x8_1.size+r.size≤9223372036854775807 then(Qcg.l0 k1 (x8_1++r) (s++[(⟨u,((x8_1.size:Int))%4294967296⟩:S122)]) l2 (l2.length:Int) (wrap64 (a+1)))else(none)))else(none))=some (r1,r2):=H;have ar:=QA P;clear P
      by_cases L:s.length<8796093022208
      ·rw[if_pos L]at H;have Z:=QA L;clear L;obtain⟨I,t⟩:∃y_:List (S122),y_=(s++[(⟨u,((x8_1.size:Int))%4294967296⟩:S122)]):=⟨_,rfl⟩;replace H:((Qbo.f k1 ((Qki l2 a).f0) ((Qki l2 a).f1) ((Qki l2 a).f2) ((Qki l2 a).f3)).bind fun r=>(if x8_1.size+r.size≤9223372036854775807 then(Qcg.l0 k1 (x8_1++r) I l2 (l2.length:Int) (wrap64 (a+1)))else(none)))=some (r1,r2):=by first |(rw[t];with_reducible exact H) |(have T:=(Option.bind_some _ _).symm.trans H;rw[t];with_reducible exact T) |(have T:=(Option.bind_some _ _).symm.trans H;with_reducible exact T)|with_reducible exact H |(rw[t];exact H)|exact H
       have aa:=QA t;clear t;replace H:=Option.bind_eq_some_iff.mp H;obtain⟨r,U,H⟩:=H;replace H:(if x8_1.size+r.size≤9223372036854775807 then(Qcg.l0 k1 (x8_1++r) I l2 (l2.length:Int) (wrap64 (a+1)))else(none))=some (r1,r2):=H;have au:=QA U;clear U
       by_cases D:x8_1.size+r.size≤9223372036854775807
       ·rw[if_pos D]at H;have az:=eq_true D;have aA:decide (x8_1.size+r.size≤9223372036854775807)=true:=decide_eq_true D
        try have aC:(9223372036854775807<x8_1.size+r.size)=False:=eq_false (Nat.not_lt.2 D)
        have H':=QA H;clear H;have J:0≤(a:Int):=of_decide_eq_true qq_6;have K:a<(l2.length:Int):=of_decide_eq_true qq_6;obtain⟨aD,ag,y,z,A,B⟩:=Qkj ap.out a J K
        cases ag
        replace y:=qq_h HB.out y;replace z:=qq_h HB.out z;replace A:=qq_h HB.out A;replace B:=qq_h HB.out B;replace J:=eq_true J;replace K:=eq_true K
        go_wp2_with (first |((with_reducible refine Qgt (N:=11) rfl ?_);refine qq_e 11 #[.bool false,.int .u64 0,.string (⟨#[]⟩:ByteArray),.string (⟨#[]⟩:ByteArray)] 39 ?_;intro q hg aT hbox hb;have n_:=qn8 (Kd.R_below (by(with_reducible repeat(first|apply Kd.R_alloc|apply Kd.R_drewN|apply Kd.R_drew));exact n.out) hb) (Qfd (g:=d) (o:=.cells #[.int .u8 l,.int .u32 m] 27 (0,0)) qq_0 hb) (Qgi qq_b hb) (hbox) (qq_s hg:w.heap.size≤q) (qq_s hg:w.heap.size≤q) ((by rw[hg];exact Nat.ne_of_lt (Qen (g:=d) (o:=.cells #[.int .u8 l,.int .u32 m] 27 (0,0)) qq_0):d≠q)) ((by rw[hg];exact Nat.ne_of_gt (Qen (g:=d) (o:=.cells #[.int .u8 l,.int .u32 m] 27 (0,0)) qq_0):q≠d));clear n c HB;obtain⟨n,c,HB,j,aE,aG,E,G⟩:=n_;clear hb hbox hg;have aH:=G.out;have aI:=E.out;obtain⟨ah,ai,aj,ak⟩:=qc4 j.out;have aJ:=Qep j.out) |((with_reducible refine Qjs (f:=65) rfl ?_);refine Qhs (some 24) rfl rfl Tryz.func65 qq_7 rfl #[.int .u64 0,.string ((Qki l2 a).f2)] rfl qq_1 ?_;(with_reducible refine(Qbc.calls k1 0 ((Qki l2 a).f2) u _ ar.out).mono ?_);rintro e aU ⟨rfl,hb⟩;refine⟨_,rfl,?_⟩;have n_:=qn4 (Kd.R_below (by(with_reducible repeat(first|apply Kd.R_alloc|apply Kd.R_drewN|apply Kd.R_drew));exact(Kd.R_mono (Kd.R_far (p:=⟨q,3,none⟩) (Kd.R_far (p:=⟨q,2,none⟩) (Kd.R_far (p:=⟨q,1,none⟩) (Kd.R_far (p:=⟨q,0,none⟩) (Kd.R_types n.out j.out (by decide)) (fun _ hk=>hk.2) (.bool ((Qki l2 a).f0))) (fun _ hk=>hk.2) (.int .u64 ((Qki l2 a).f1))) (fun _ hk=>hk.2) (.string ((Qki l2 a).f2))) (fun _ hk=>hk.2) (.string ((Qki l2 a).f3))) (fun _ h_=>h_.1))) hb) (Qfd (g:=d) (o:=.cells #[.int .u8 l,.int .u32 m] 27 (0,0)) qq_9 hb) (Qfd (g:=q) (o:=.cells #[.bool ((Qki l2 a).f0),.int .u64 ((Qki l2 a).f1),.string ((Qki l2 a).f2),.string ((Qki l2 a).f3)] 39 (0,0)) qq_x hb) (Qgi qq_b hb);clear n c j HB;obtain⟨n,c,j,HB⟩:=n_;(try clear hb);(try clear hb2);(try clear hk);(try clear hi)) |((with_reducible refine Qjt (b:=.append) (xs:=#[.tmp 21,.tmp 29]) rfl ?_);at_builtin;refine Kd.R_append k122 (w0:=w) w.heap.size rfl (.tmp 21) (.tmp 29) 49 122 (.agg #[(.int .u64 0),(.int .u32 0)]) 16 rfl Tryz.underlying49 Qkf rfl (by decide) (by omega) u9 s (⟨u,((x8_1.size:Int))%4294967296⟩:S122) [.int .u64 u,.int .u32 (((x8_1.size:Int))%4294967296)] (fun _=>True) (fun _=>False) rfl rfl ?aP (fun _ hk=>hk.elim) ?aF ?aO ?aB ?aS ?aL ?_;(case aP=>exact Qks _ _ _ (⟨u,((x8_1.size:Int))%4294967296⟩:S122));(case aB=>exact qq_b);(case aF=>exact(fun _ _=>trivial));(case aO=>exact(by(with_reducible repeat(first|apply Kd.R_alloc|apply Kd.R_drewN|apply Kd.R_drew));exact n.out));(case aS=>exact(Qgh qq_b));(case aL=>have:=Z.out;omega);intro aN aV ho hb hg hat;rw[← aa.out]at ho;have n_:=qn4 (Qeq (g:=d) (o:=.cells #[.int .u8 l,.int .u32 m] 27 (0,0)) qq_0 hg (Kd.R_ne n.out c.out (by decide))) (Qeq (g:=q) (o:=.cells #[.bool ((Qki l2 a).f0),.int .u64 ((Qki l2 a).f1),.string ((Qki l2 a).f2),.string ((Qki l2 a).f3)] 39 (0,0)) qq_0 hg (Kd.R_ne n.out j.out (by decide))) (hb) (ho);clear c j HB n;obtain⟨c,j,HB,v⟩:=n_;clear ho hb hg hat;obtain⟨al,am,an,ao⟩:=qc4 j.out;have aK:=Qep j.out) |((with_reducible refine Qjs (f:=22) rfl ?_);refine Qhs (some 33) rfl rfl Tryz.func22 qq_7 rfl #[.agg #[.bool ((Qki l2 a).f0),.int .u64 ((Qki l2 a).f1),.string ((Qki l2 a).f2),.string ((Qki l2 a).f3)]] rfl qq_1 ?_;(with_reducible refine(Qbo.calls k1 ((Qki l2 a).f0) ((Qki l2 a).f1) ((Qki l2 a).f2) ((Qki l2 a).f3) r _ au.out).mono ?_);rintro e aW ⟨rfl,hb⟩;refine⟨_,rfl,?_⟩;have n_:=qn4 (Kd.R_below (by(with_reducible repeat(first|apply Kd.R_alloc|apply Kd.R_drewN|apply Kd.R_drew));exact v.out) hb) (Qfd (g:=d) (o:=.cells #[.int .u8 l,.int .u32 m] 27 (0,0)) qq_0 hb) (Qfd (g:=q) (o:=.cells #[.bool ((Qki l2 a).f0),.int .u64 ((Qki l2 a).f1),.string ((Qki l2 a).f2),.string ((Qki l2 a).f3)] 39 (0,0)) qq_0 hb) (Qgi qq_b hb);clear v c j HB;obtain⟨v,c,j,HB⟩:=n_;(try clear hb);(try clear hb2);(try clear hk);(try clear hi)))
        go_roundg k1
        case measure=>have:=HK1.out;omega
        case rel=>exact⟨(x8_1++r),(I),(wrap64 (a+1)),qq_8,qq_8,H',⟨by have:=HK1.out;omega⟩,⟨by(with_reducible repeat(first|apply Kd.R_alloc|apply Kd.R_drewN|apply Kd.R_drew));exact v.out⟩,⟨by(with_reducible repeat(first|apply Qfc|apply Qfb|apply Qfa));exact c.out⟩,⟨qq_b⟩⟩
       ·rw[if_neg D]at H;exact absurd H (by simp)
      ·rw[if_neg L]at H;exact absurd H (by simp)
     ·rw[if_neg c10]at H;exact absurd H (by simp)
    ·rw[if_neg c9]at H;exact absurd H (by simp)
   ·rw[if_neg c8]at H;have af:decide (a<(l2.length:Int))=false:=decide_eq_false c8;clear c8;replace H:=Option.bind_eq_some_iff.mp H;obtain⟨W,X,H⟩:=H;replace H:(some (x8_1,W))=some (r1,r2):=H;have av:=QA X;clear X;simp only[Option.some.injEq,Prod.mk.injEq]at H;obtain⟨rfl,rfl⟩:=H;obtain⟨Ao23,co23,eo23⟩:=Kd.R_slice n.out;subst eo23
    go_wp2_with (first |((with_reducible refine Qjs (f:=66) rfl ?_);refine Qhs (some 38) rfl rfl Tryz.func66 qq_7 rfl #[.slice Ao23 s.length co23] rfl qq_1 ?_;(with_reducible refine(Qbu.calls k1 _ _ s W _ ?side1 ?side2 av.out).mono ?_);(case side1=>repeat(first|exact(Kd.R_reads' n.out).2.2 |(with_reducible refine Kd.C_alloc ?_ _) |(with_reducible refine Kd.C_drewN ?_ _) |(with_reducible refine Kd.C_drew ?_)));(case side2=>exact(Kd.R_reads' n.out).2.1);rintro e aX ⟨aQ,rfl,Y,hb⟩;refine⟨_,rfl,?_⟩;have n_:=qn4 (Kd.R_elder' qq_5 (Kd.R_base Y) hb) (Kd.R_lower (Kd.R_new' Y (Kd.R_lt qq_5)) (Qgh qq_b)) (Qfd (g:=d) (o:=.cells #[.int .u8 l,.int .u32 m] 27 (0,0)) qq_0 hb) (Qgi qq_b hb);clear n c HB;obtain⟨n,ab,c,HB⟩:=n_;(try clear hb);(try clear hb2);(try clear hk);(try clear hi);(try clear Y)))
    go_ret2
    exact⟨_,by first|rfl |(simp[Qjz,Qka]<;>rfl) |(simp[*,Qjz,Qka]<;>rfl),by(with_reducible repeat(first|apply Kd.R_alloc|apply Kd.R_drewN|apply Kd.R_drew));exact Kd.R_mono ab.out (fun _ hk=>trivial),qq_b⟩
end Go.Proofs.YtnnofopfbeklbaaGreat.C
end
