/- Merged texts. -/
import Derived.Test.YtnnofopfbeklbaaGreatMK02
import Derived.Test.YtnnofopfbeklbaaGreatMK20
import Derived.Test.YtnnofopfbeklbaaGreatMK25
import Derived.Test.YtnnofopfbeklbaaGreatMK21
import Derived.Test.YtnnofopfbeklbaaGreatMK10
import Derived.Test.YtnnofopfbeklbaaGreatMK04
import Derived.Test.YtnnofopfbeklbaaGreatMK23
import Derived.Test.YtnnofopfbeklbaaGreatMK07
import Derived.Test.YtnnofopfbeklbaaGreatMK00
import Derived.SizedLaws
import Derived.Deep.Slices
import Derived.Lib.SmallJoins
import Derived.ChangeArms
set_option linter.unusedVariables false
set_option linter.unusedSimpArgs false
set_option maxHeartbeats 8000000
set_option maxRecDepth 100000
section
namespace Go.Proofs.YtnnofopfbeklbaaGreat.C
open Go.RowKit Go.Proofs.YtnnofopfbeklbaaGreatW.PrintWords Go.Proofs.YtnnofopfbeklbaaGreatW.PrintLast Go.Proofs.YtnnofopfbeklbaaGreatW.PrintMore
attribute [local go_sem] Qjm Qjn Qjo Qjp Qjq Qjr Qjs Qjt
mutual
def Qas.j0:Nat→Int→List Int→Bool→Option (Bool)
 | 0,_,_,_=>none
 | k+1,x0,x1,x26=>if x26=true then((Qat.f k).bind fun t839=>(some t839))else((Qaq.f x0).bind fun bt840=>((Qcw.f k bt840.1 bt840.2 x1).bind fun bt843=>((Qcl.f k bt840.1 bt840.2 (strOfNums x1)).bind fun bt849=>(if(strOfNums bt843.1).toList=bt849.1.toList then(if bt843.2.1=bt849.2.1 then(if bt843.2.2.1=bt849.2.2.1 then(Qas.j1 k x1 bt843.1 bt843.2.2.1 bt843.2.2.2 (bt843.2.2.2 != bt849.2.2.2) bt840.1 bt840.2)else(Qas.j1 k x1 bt843.1 bt843.2.2.1 bt843.2.2.2 true bt840.1 bt840.2))else(Qas.j1 k x1 bt843.1 bt843.2.2.1 bt843.2.2.2 true bt840.1 bt840.2))else(Qas.j1 k x1 bt843.1 bt843.2.2.1 bt843.2.2.2 true bt840.1 bt840.2)))))
def Qas.j1:Nat→List Int→List Int→Int→Int→Bool→Int→Int→Option (Bool)
 | 0,_,_,_,_,_,_,_=>none
 | k+1,x1,x6,x8,x9,x65,x843000,x843001=>if x65=true then(some false)else(if 0≤x8 then(if x8≤(x1.length:Int)then((Qcy.f k x843000 x843001 (x1.take (x8:Int).toNat)).bind fun bt854=>(if x9=0 then(if bt854.2.2=0 then(if(strOfNums bt854.1).toList=(strOfNums x6).toList then(if bt854.2.1=0 then((Qcy.f k x843000 x843001 x1).bind fun bt859=>(if bt859.2.2=0 then(if x8=(x1.length:Int)then(some ((strOfNums bt859.1).toList == (strOfNums x6).toList))else(some false))else(some true)))else(some false))else(some false))else(some false))else((Qcy.f k x843000 x843001 x1).bind fun bt864=>(if bt864.2.2=0 then(some false)else(some true)))))else(none))else(none))
end
def Qas.f(k:Nat)(a0:Int)(l1:List Int):Option (Bool):=(Qat.f k).bind fun t838=>(if t838=true then(Qas.j0 k a0 l1 (decide ((l1.length:Int) > 1500)))else(Qas.j0 k a0 l1 true))
def Qas.T8:Bool × List (List Nat × List Nat):=(true,[([],[]),([],[]),([],[]),([1,2],[1,2]),([0,3],[0,3]),([4],[4]),([5],[5]),([5],[5]),([5],[5]),([6,4,0,1,2,3,4,5,6],[6]),([7,9,0,1,2,3,4,5,6,7,9],[7]),([8,10,0,1,2,3,4,5,6,7,8,9,10],[8])])
def Qas.B8:List Nat:=[0,0,0,6,15,31,63,63,63,127,767,2047]
theorem Qas.tab8:rtab .any (Qjd Tryz.f10 8)=Qas.T8:=by kernel_rfl
theorem Qas.bits8:Qix Qas.T8.2 Qas.B8=true:=by kernel_rfl
theorem Qas.calls (k:Nat) (a0:Int) (A1:Option Addr) (c1:Nat) (l1:List Int) (r:Bool) (w:World) (hr1:Kd.C (Kd.int .u8) w A1 l1.length l1) (hc1:l1.length≤c1) (h:Qas.f k a0 l1=some r) :
  Calls Tryz.prog 10 #[.int .u8 a0,.slice A1 l1.length c1] w fun e w'=>e=.returned (.bool r)∧Below w.heap.size w w':=by
 have hu27:=Tryz.underlying27;have z:=QA hr1;have B:=QA hc1;clear hr1 hc1;have HB:=QA (Below.refl w.heap.size w);have H:((Qat.f k).bind fun al=>(if al=true then(Qas.j0 k a0 l1 (decide ((l1.length:Int) > 1500)))else(Qas.j0 k a0 l1 true)))=some r:=h;clear h;have aB:=QA H;clear H
 go_enter Tryz.func10,Tryz.ntmps10
 go_upto_region 1 with(fail)
 go_cut [26] (fun bB wc=>∃(kq:Nat) (Z:Bool),bB=.bool Z∧Aside0 (Qas.j0 kq a0 l1 Z=some r)∧Aside0 (kq≤k)∧Aside0 (Below w.heap.size w wc))
 case first =>
  have H:=aB.out;clear aB;replace H:=Option.bind_eq_some_iff.mp H;obtain⟨al,bi,H⟩:=H;have A4:=QA bi;clear bi
  by_cases c5:al=true
  ·subst c5;rw[if_pos rfl]at H;have H':=QA H;clear H
   go_wp2_with (first |((with_reducible refine Qju (f:=42) rfl ?_);refine Qhu (some 20) rfl rfl Tryz.func42 qq_6 rfl #[] rfl qq_1 ?_;(with_reducible refine(Qat.calls k  true _ A4.out).mono ?_);rintro e w6 ⟨rfl,hb⟩;refine⟨_,rfl,?_⟩;have n_:=qn1 (Qgk qq_b hb);clear HB;have HB:=n_;clear n_;(try clear hb);(try clear hb2);(try clear hk);(try clear hi)))
   go_meet
   case rel=>exact⟨_,(decide ((l1.length:Int) > 1500)),qq_8,H',⟨by first|omega|exact Nat.le_refl _⟩,⟨qq_b⟩⟩
  ·replace c5:=Bool.eq_false_iff.mpr c5;subst c5;rw[if_neg (show ¬(false=true)by decide)]at H;have H':=QA H;clear H
   go_wp2_with (first |((with_reducible refine Qju (f:=42) rfl ?_);refine Qhu (some 20) rfl rfl Tryz.func42 qq_6 rfl #[] rfl qq_1 ?_;(with_reducible refine(Qat.calls k  false _ A4.out).mono ?_);rintro e w7 ⟨rfl,hb⟩;refine⟨_,rfl,?_⟩;have n_:=qn1 (Qgk qq_b hb);clear HB;have HB:=n_;clear n_;(try clear hb);(try clear hb2);(try clear hk);(try clear hi)))
   go_meet
   case rel=>exact⟨_,(true),qq_8,H',⟨by first|omega|exact Nat.le_refl _⟩,⟨qq_b⟩⟩
 case rest =>
  clear aB
  try clear c1
  try clear c5
  obtain⟨kq,Z,rfl,HA,HJ2,HB⟩:=hcut
  cases kq with
  | zero=>exact absurd HA.out (by simp[Qas.j0])
  | succ kj2 =>
   have H:=HA.out;clear HA;simp only[Qas.j0]at H
   by_cases c8:Z=true
   ·subst c8;rw[if_pos rfl]at H;replace H:=Option.bind_eq_some_iff.mp H;obtain⟨bl,bj,H⟩:=H;have A9:=QA bj;clear bj;obtain rfl:=Option.some.inj H
    go_wp2_with (first |((with_reducible refine Qju (f:=42) rfl ?_);refine Qhu (some 27) rfl rfl Tryz.func42 qq_6 rfl #[] rfl qq_1 ?_;(with_reducible refine(Qat.calls kj2  bl _ A9.out).mono ?_);rintro e cb ⟨rfl,hb⟩;refine⟨_,rfl,?_⟩;have n_:=qn1 (Qgk qq_b hb);clear HB;have HB:=n_;clear n_;(try clear hb);(try clear hb2);(try clear hk);(try clear hi)))
    go_ret
    exact⟨qq_7,qq_b⟩
   ·replace c8 := Bool.eq_false_iff.mpr c8;subst c8;rw[if_neg (show ¬(false=true)by decide)]at H;replace H:=Option.bind_eq_some_iff.mp H;obtain⟨⟨b,d⟩,aC,H⟩:=H;replace H:((Qcw.f kj2 b d l1).bind fun bt843=>((Qcl.f kj2 b d (strOfNums l1)).bind fun bt849=>(if(strOfNums bt843.1).toList=bt849.1.toList then(if bt843.2.1=bt849.2.1 then(if bt843.2.2.1=bt849.2.2.1 then(Qas.j1 kj2 l1 bt843.1 bt843.2.2.1 bt843.2.2.2 (bt843.2.2.2 != bt849.2.2.2) b d)else(Qas.j1 kj2 l1 bt843.1 bt843.2.2.1 bt843.2.2.2 true b d))else(Qas.j1 kj2 l1 bt843.1 bt843.2.2.1 bt843.2.2.2 true b d))else(Qas.j1 kj2 l1 bt843.1 bt843.2.2.1 bt843.2.2.2 true b d))))=some r:=H;have bC:=QA aC;clear aC;replace H:=Option.bind_eq_some_iff.mp H;obtain⟨⟨q,E,t847,s⟩,aD,H⟩:=H;replace H:((Qcl.f kj2 b d (strOfNums l1)).bind fun bt849=>(if(strOfNums q).toList=bt849.1.toList then(if E=bt849.2.1 then(if t847=bt849.2.2.1 then(Qas.j1 kj2 l1 q t847 s (s != bt849.2.2.2) b d)else(Qas.j1 kj2 l1 q t847 s true b d))else(Qas.j1 kj2 l1 q t847 s true b d))else(Qas.j1 kj2 l1 q t847 s true b d)))=some r:=H;have bD:=QA aD;clear aD;replace H:=Option.bind_eq_some_iff.mp H;obtain⟨⟨J,L,M,am⟩,aE,H⟩:=H;replace H:(if(strOfNums q).toList=J.toList then(if E=L then(if t847=M then(Qas.j1 kj2 l1 q t847 s (s != am) b d)else(Qas.j1 kj2 l1 q t847 s true b d))else(Qas.j1 kj2 l1 q t847 s true b d))else(Qas.j1 kj2 l1 q t847 s true b d))=some r:=H;have bE:=QA aE;clear aE;have an:=QA H;clear H
    go_upto_region 6 with(first |((with_reducible refine Qju (f:=17) rfl ?_);refine Qhu (some 29) rfl rfl Tryz.func17 qq_6 rfl #[.int .u8 a0] rfl qq_1 ?_;(with_reducible refine(Qaq.calls a0 b d _ bC.out).mono ?_);rintro e cc ⟨rfl,hb⟩;refine⟨_,rfl,?_⟩;have n_:=qn1 (Qgk qq_b hb);clear HB;have HB:=n_;clear n_;(try clear hb);(try clear hb2);(try clear hk);(try clear hi)) |((with_reducible refine Qgv (N:=5) rfl ?_);(try(refine Qjl (by rfl) ?_;dsimp only));refine qq_e 5 #[.int .u8 0,.int .u32 0] 27 ?_;intro l hg cd hbox hb;have n_:=qn4 (Qgk qq_b hb) (hbox) (qq_s hg:w.heap.size≤l) (qq_s hg:w.heap.size≤l);clear HB;obtain⟨HB,a,bG,bH⟩:=n_;clear hb hbox hg;obtain⟨ax,ay⟩:=qc2 a.out;have aM:=Qeq a.out) |((with_reducible refine Qju (f:=45) rfl ?_);refine Qhu (some 33) rfl rfl Tryz.func45 qq_6 rfl #[.agg #[.int .u8 b,.int .u32 d],.slice A1 l1.length c1] rfl qq_1 ?_;(with_reducible refine(Qcw.calls kj2 b d _ _ l1 q E t847 s _ ?side1 ?side2 bD.out).mono ?_);(case side1=>exact Kd.C_below z.out qq_b);(case side2=>exact B.out);rintro e ce ⟨bn,rfl,j,hb⟩;refine⟨_,rfl,?_⟩;have n_:=qn3 (Kd.R_lower j (Qgj qq_b)) (Qfe (g:=l) (o:=.cells #[.int .u8 b,.int .u32 d] 27 (0,0)) qq_x hb) (Qgk qq_b hb);clear a HB;obtain⟨y,a,HB⟩:=n_;(try clear hb);(try clear hb2);(try clear hk);(try clear hi);(try clear j);obtain⟨az,aA⟩:=qc2 a.out;have aN:=Qeq a.out;have aO:=Kd.C_string (P:=Tryz.prog) (A:=A1) (c:=c1) Tryz.underlying52 Tryz.underlying5 Tryz.underlying9 (Kd.C_below z.out HB.out)) |((with_reducible refine Qju (f:=46) rfl ?_);refine Qhu (some 42) rfl rfl Tryz.func46 qq_6 rfl #[.agg #[.int .u8 b,.int .u32 d],.string (strOfNums l1)] rfl qq_1 ?_;(with_reducible refine(Qcl.calls kj2 b d (strOfNums l1) J L M am _ bE.out).mono ?_);rintro e cf ⟨rfl,hb⟩;refine⟨_,rfl,?_⟩;have n_:=qn3 (Kd.R_below qq_2 hb) (Qfe (g:=l) (o:=.cells #[.int .u8 b,.int .u32 d] 27 (0,0)) qq_0 hb) (Qgk qq_b hb);clear y a HB;obtain⟨y,a,HB⟩:=n_;(try clear hb);(try clear hb2);(try clear hk);(try clear hi)))
    (try simp only[Act.put,List.setIfInBounds_toArray,List.set_cons_zero,List.set_cons_succ])
    go_cut [65] (fun bF wc=>∃(kq:Nat) (T:Bool),bF=.bool T∧Aside0 (Qas.j1 kq l1 q t847 s T b d=some r)∧Aside0 (kq≤kj2)∧Aside0 (Kd.R (Kd.int .u8) 5 wc w.heap.size (fun _=>True) bn q)∧Aside0 (wc.heap[l]? = some (.cells #[.int .u8 b,.int .u32 d] 27 (0,0)))∧Aside0 (Below w.heap.size w wc))
    case first =>
     have H:=an.out;clear an
     by_cases U:(strOfNums q).toList=J.toList
     ·rw[if_pos U]at H;have I:((strOfNums q).toList == J.toList)=true:=beq_iff_eq.mpr U;have ap:((strOfNums q).toList != J.toList)=false:=bne_eq_false_iff_eq.mpr U;clear U
      (first|rw[I] |(simp only[Qhx,Qhy];rw[I])|skip)
      by_cases W:E=L
      ·rw[if_pos W]at H;have aq:(E == L)=true:=beq_iff_eq.mpr W;have ar:(E != L)=false:=bne_eq_false_iff_eq.mpr W;clear W
       by_cases X:t847=M
       ·rw[if_pos X]at H;have au:(t847 == M)=true:=beq_iff_eq.mpr X;have av:(t847 != M)=false:=bne_eq_false_iff_eq.mpr X;clear X;have H':=QA H;clear H;have aP:=Qea (P:=Tryz.prog) Tryz.underlying52 Tryz.underlying5 Tryz.underlying9 (Kd.own_of_R y.out);go_wp2
        go_meet
        case rel=>exact⟨_,((s != am)),qq_8,H',⟨by have:=HJ2.out;first|omega|exact Nat.le_refl _⟩,⟨by(with_reducible repeat(first|apply Kd.R_alloc|apply Kd.R_drewN|apply Kd.R_drew));exact y.out⟩,⟨by(with_reducible repeat(first|apply Qfd|apply Qfc|apply Qfb));exact a.out⟩,⟨qq_b⟩⟩
       ·rw[if_neg X]at H;have au:(t847 == M)=false:=beq_eq_false_iff_ne.mpr X;have av:(t847 != M)=true:=bne_iff_ne.mpr X;have H':=QA H;clear H;have aQ:=Qea (P:=Tryz.prog) Tryz.underlying52 Tryz.underlying5 Tryz.underlying9 (Kd.own_of_R y.out);go_wp2
        go_meet
        case rel=>exact⟨_,(true),qq_8,H',⟨by have:=HJ2.out;first|omega|exact Nat.le_refl _⟩,⟨by(with_reducible repeat(first|apply Kd.R_alloc|apply Kd.R_drewN|apply Kd.R_drew));exact y.out⟩,⟨by(with_reducible repeat(first|apply Qfd|apply Qfc|apply Qfb));exact a.out⟩,⟨qq_b⟩⟩
      ·rw[if_neg W]at H;have aq:(E == L)=false:=beq_eq_false_iff_ne.mpr W;have ar:(E != L)=true:=bne_iff_ne.mpr W;have H':=QA H;clear H;have aR:=Qea (P:=Tryz.prog) Tryz.underlying52 Tryz.underlying5 Tryz.underlying9 (Kd.own_of_R y.out);go_wp2
       go_meet
       case rel=>exact⟨_,(true),qq_8,H',⟨by have:=HJ2.out;first|omega|exact Nat.le_refl _⟩,⟨by(with_reducible repeat(first|apply Kd.R_alloc|apply Kd.R_drewN|apply Kd.R_drew));exact y.out⟩,⟨by(with_reducible repeat(first|apply Qfd|apply Qfc|apply Qfb));exact a.out⟩,⟨qq_b⟩⟩
     ·rw[if_neg U]at H;have I:((strOfNums q).toList == J.toList)=false:=beq_eq_false_iff_ne.mpr U;have ap:((strOfNums q).toList != J.toList)=true:=bne_iff_ne.mpr U
      (first|rw[I] |(simp only[Qhx,Qhy];rw[I])|skip)
      have H':=QA H;clear H;have aS:=Qea (P:=Tryz.prog) Tryz.underlying52 Tryz.underlying5 Tryz.underlying9 (Kd.own_of_R y.out);go_wp2
      go_meet
      case rel=>exact⟨_,(true),qq_8,H',⟨by have:=HJ2.out;first|omega|exact Nat.le_refl _⟩,⟨by(with_reducible repeat(first|apply Kd.R_alloc|apply Kd.R_drewN|apply Kd.R_drew));exact y.out⟩,⟨by(with_reducible repeat(first|apply Qfd|apply Qfc|apply Qfb));exact a.out⟩,⟨qq_b⟩⟩
    case rest =>
     clear an
     try clear c1
     try clear c5
     try clear c8
     try clear aO
     try clear U
     try clear I
     try clear ap
     try clear W
     try clear aq
     try clear ar
     try clear X
     try clear au
     try clear av
     try clear aP
     try clear aQ
     try clear aR
     try clear aS
     try clear ax
     try clear ay
     try clear az
     try clear aA
     try clear aM
     try clear aN
     obtain⟨kq,T,rfl,HA,HJ13,HO_6,a,HB⟩:=hcut
     cases kq with
     | zero=>exact absurd HA.out (by simp[Qas.j1])
     | succ kj13 =>
      have H:=HA.out;clear HA;simp only[Qas.j1]at H
      by_cases aw:T=true
      ·subst aw;rw[if_pos rfl]at H;obtain rfl:=Option.some.inj H;go_wp2;go_ret
       exact⟨qq_7,qq_b⟩
      ·replace aw:=Bool.eq_false_iff.mpr aw;subst aw;rw[if_neg (show ¬(false=true)by decide)]at H
       by_cases aj:0≤t847
       ·rw [if_pos aj]at H;have bI:=eq_true aj;have bJ:=decide_eq_true aj;clear aj
        by_cases ak:t847≤(l1.length:Int)
        ·rw [if_pos ak]at H;have bK:=eq_true ak;have bL:=decide_eq_true ak;clear ak;replace H:=Option.bind_eq_some_iff.mp H;obtain⟨⟨u,v,x⟩,aF,H⟩:=H;replace H:(if s=0 then(if x=0 then(if(strOfNums u).toList=(strOfNums q).toList then(if v=0 then((Qcy.f kj13 b d l1).bind fun bt859=>(if bt859.2.2=0 then(if t847=(l1.length:Int)then(some ((strOfNums bt859.1).toList == (strOfNums q).toList))else(some false))else(some true)))else(some false))else(some false))else(some false))else((Qcy.f kj13 b d l1).bind fun bt864=>(if bt864.2.2=0 then(some false)else(some true))))=some r:=H;have Y:=QA aF;clear aF
         by_cases aa:s=0
         ·rw [if_pos aa]at H;have aT:(s == 0)=true:=beq_iff_eq.mpr aa;have aU:(s != 0)=false:=bne_eq_false_iff_eq.mpr aa;clear aa
          by_cases ab:x=0
          ·rw [if_pos ab]at H;have aV:(x == 0)=true:=beq_iff_eq.mpr ab;have aW:(x != 0)=false:=bne_eq_false_iff_eq.mpr ab;clear ab
           by_cases ac:(strOfNums u).toList=(strOfNums q).toList
           ·rw [if_pos ac]at H;have aX:((strOfNums u).toList == (strOfNums q).toList)=true:=beq_iff_eq.mpr ac;have aY:((strOfNums u).toList != (strOfNums q).toList)=false:=bne_eq_false_iff_eq.mpr ac;clear ac
            by_cases ad:v=0
            ·rw[if_pos ad]at H;have aZ:(v == 0)=true:=beq_iff_eq.mpr ad;have ba:(v != 0)=false:=bne_eq_false_iff_eq.mpr ad;clear ad;replace H:=Option.bind_eq_some_iff.mp H;obtain⟨⟨ah,ao,D⟩,aG,H⟩:=H;replace H:(if D=0 then(if t847=(l1.length:Int)then(some ((strOfNums ah).toList == (strOfNums q).toList))else(some false))else(some true))=some r:=H;have aH:=QA aG;clear aG
             by_cases ae:D=0
             ·rw[if_pos ae]at H;have bb:(D == 0)=true:=beq_iff_eq.mpr ae;have bc:(D != 0)=false:=bne_eq_false_iff_eq.mpr ae;clear ae
              by_cases af:t847=(l1.length:Int)
              ·rw[if_pos af]at H;have bd:(t847 == (l1.length:Int))=true:=beq_iff_eq.mpr af;have be:(t847 != (l1.length:Int))=false:=bne_eq_false_iff_eq.mpr af;clear af;obtain rfl:=Option.some.inj H
               try go_wp2
               have n_:=qn3 (Kd.R_drew HO_6.out) (Qfc a.out) (Qgr HB.out);clear HO_6 a HB;obtain⟨HO_6,a,HB⟩:=n_;obtain⟨b3,hi041,_,hsz41,_⟩:=info_parts Qkd;obtain⟨hcut41,hA41,hC41⟩:=Qfi (P:=Tryz.prog) (Value.int .u8) 0 52 5 .i64 Tryz.underlying52 hi041 hsz41 A1 c1 l1 t847 (of_decide_eq_true qq_5) (of_decide_eq_true qq_5) B.out;have p:=QA (Kd.C_of_reads (h1:=fun _=>rfl) (hA41 _ (Kd.reads_of_C z.out)));have t:=QA hC41;clear hA41 hC41 hi041 hsz41;refine Qhk (n:=12) (S:=fun w'=>w'.cell? ⟨l,0,none⟩=some (.int .u8 b)∧w'.cell? ⟨l,1,none⟩=some (.int .u32 d)) (ds:=[]) (bm 12 0) qq_6 rfl rfl ⟨(Qep a.out 0).trans rfl,(Qep a.out 1).trans rfl⟩ (fun m=>?_);refine Qjb Qas.tab8 Qas.bits8 (fun HT_ HW_=>?_);generalize wc.drew=w40 at HO_6 a HB p m ⊢;refine pz_ (i:=1) (N:=some 68) (bm 12 2) (Qit HT_.out qq_6) ?_;refine pz_ (i:=2) (N:=some 69) (bm 12 6) (Qit HT_.out qq_6) ?_;refine pz_ (i:=3) (N:=some 70) (bm 12 14) (Qit HT_.out qq_6) ?_;refine tz_ (i:=0) (N:=some 67) (bm 12 15) (Qja HT_.out HW_.out qq_6) m ?_;refine one_ (i:=4) (N:=some 71) (bm 12 31) rfl rfl (Qiu HT_.out qq_6) (by decide) (fun K hK=>?_);refine Qht Tryz.func43 qq_6 rfl #[.agg #[.int .u8 b,.int .u32 d],.slice A1 (l1.take (t847:Int).toNat).length c1] (by rfl) rfl rfl qq_25 ?_;with_reducible refine(Qcy.calls kj13 b d _ _ (l1.take (t847:Int).toNat) u v x _ ?side1 ?side2 Y.out).mono ?_
               (case side1=>repeat(first|exact(Kd.C_below p.out HB.out) |(with_reducible refine Kd.C_alloc ?_ _) |(with_reducible refine Kd.C_drewN ?_ _) |(with_reducible refine Kd.C_drew ?_)))
               (case side2=>exact t.out)
               rintro e cg ⟨O,rfl,j,hb⟩;refine⟨_,rfl,?_⟩;have n_:=qn4 (Kd.R_elder' qq_2 (Kd.R_base j) hb) (Kd.R_lower (Kd.R_new' j (Kd.R_lt qq_2)) (Qgj qq_b)) (Qfe (g:=l) (o:=.cells #[.int .u8 b,.int .u32 d] 27 (0,0)) qq_0 hb) (Qgk qq_b hb);clear HO_6 a HB;obtain⟨HO_6,HO856,a,HB⟩:=n_
               (try clear hb)
               (try clear hb2)
               (try clear hk)
               (try clear hi)
               (try clear j)
               refine hK.out _ _ ⟨(Qep a.out 0).trans rfl,(Qep a.out 1).trans rfl⟩ (fun m=>?_);clear hK K;refine nzp_ 71 ?_;refine pz_ (i:=5) (N:=some 66) (bm 12 63) (Qit HT_.out qq_6) ?_;refine pz_ (i:=6) (N:=some 72) (bm 12 127) (Qit HT_.out qq_6) ?_;refine pz_ (i:=7) (N:=some 73) (bm 12 255) (Qit HT_.out qq_6) ?_;refine pz_ (i:=8) (N:=some 74) (bm 12 511) (Qit HT_.out qq_6) ?_;refine pz_ (i:=9) (N:=some 14) (bm 12 1023) (Qit HT_.out qq_6) ?_;refine pz_ (i:=10) (N:=some 15) (bm 12 2047) (Qit HT_.out qq_6) ?_;refine pz_ (i:=11) (N:=some 16) (bm 12 4095) (Qit HT_.out qq_6) ?_;refine Qhn (Qiw HT_.out qq_6) ?_;have bM:=Qea (P:=Tryz.prog) Tryz.underlying52 Tryz.underlying5 Tryz.underlying9 (Kd.own_of_R HO856.out);have bN:=Qea (P:=Tryz.prog) Tryz.underlying52 Tryz.underlying5 Tryz.underlying9 (Kd.own_of_R HO_6.out);obtain⟨bp,bq⟩:=qc2 a.out;have bO:=Qeq a.out
               try go_wp2_with (first |((with_reducible refine Qju (f:=43) rfl ?_);refine Qhu (some 95) rfl rfl Tryz.func43 qq_6 rfl #[.agg #[.int .u8 b,.int .u32 d],.slice A1 l1.length c1] rfl qq_1 ?_;(with_reducible refine(Qcy.calls kj13 b d _ _ l1 ah ao D _ ?side1 ?side2 aH.out).mono ?_);(case side1=>repeat(first|exact(Kd.C_below z.out HB.out) |(with_reducible refine Kd.C_alloc ?_ _) |(with_reducible refine Kd.C_drewN ?_ _) |(with_reducible refine Kd.C_drew ?_)));(case side2=>exact B.out);rintro e ch ⟨aI,rfl,j,hb⟩;refine⟨_,rfl,?_⟩;have n_:=qn5 (Kd.R_elder' qq_13 (Kd.R_base j) hb) (Kd.R_elder' qq_12 (Kd.R_base j) hb) (Kd.R_lower (Kd.R_new' (Kd.R_new' j (Kd.R_lt qq_13)) (Kd.R_lt qq_12)) (Qgj qq_b)) (Qfe (g:=l) (o:=.cells #[.int .u8 b,.int .u32 d] 27 (0,0)) qq_0 hb) (Qgk qq_b hb);clear HO_6 HO856 a HB;obtain⟨HO_6,HO856,ai,a,HB⟩:=n_;(try clear hb);(try clear hb2);(try clear hk);(try clear hi);(try clear j);have bP:=Qea (P:=Tryz.prog) Tryz.underlying52 Tryz.underlying5 Tryz.underlying9 (Kd.own_of_R ai.out);have bQ:=Qea (P:=Tryz.prog) Tryz.underlying52 Tryz.underlying5 Tryz.underlying9 (Kd.own_of_R HO_6.out)))
               go_ret
               exact⟨qq_7,qq_b⟩
              ·rw[if_neg af]at H;have bd:(t847 == (l1.length:Int))=false:=beq_eq_false_iff_ne.mpr af;have be:(t847 != (l1.length:Int))=true:=bne_iff_ne.mpr af;obtain rfl:=Option.some.inj H
               try go_wp2
               have n_:=qn3 (Kd.R_drew HO_6.out) (Qfc a.out) (Qgr HB.out);clear HO_6 a HB;obtain⟨HO_6,a,HB⟩:=n_;obtain⟨b4,hi050,_,hsz50,_⟩:=info_parts Qkd;obtain⟨hcut50,hA50,hC50⟩:=Qfi (P:=Tryz.prog) (Value.int .u8) 0 52 5 .i64 Tryz.underlying52 hi050 hsz50 A1 c1 l1 t847 (of_decide_eq_true qq_5) (of_decide_eq_true qq_5) B.out;have p:=QA (Kd.C_of_reads (h1:=fun _=>rfl) (hA50 _ (Kd.reads_of_C z.out)));have t:=QA hC50;clear hA50 hC50 hi050 hsz50;refine Qhk (n:=12) (S:=fun w'=>w'.cell? ⟨l,0,none⟩=some (.int .u8 b)∧w'.cell? ⟨l,1,none⟩=some (.int .u32 d)) (ds:=[]) (bm 12 0) qq_6 rfl rfl ⟨(Qep a.out 0).trans rfl,(Qep a.out 1).trans rfl⟩ (fun m=>?_);refine Qjb Qas.tab8 Qas.bits8 (fun HT_ HW_=>?_);generalize wc.drew=w49 at HO_6 a HB p m ⊢;refine pz_ (i:=1) (N:=some 68) (bm 12 2) (Qit HT_.out qq_6) ?_;refine pz_ (i:=2) (N:=some 69) (bm 12 6) (Qit HT_.out qq_6) ?_;refine pz_ (i:=3) (N:=some 70) (bm 12 14) (Qit HT_.out qq_6) ?_;refine tz_ (i:=0) (N:=some 67) (bm 12 15) (Qja HT_.out HW_.out qq_6) m ?_;refine one_ (i:=4) (N:=some 71) (bm 12 31) rfl rfl (Qiu HT_.out qq_6) (by decide) (fun K hK=>?_);refine Qht Tryz.func43 qq_6 rfl #[.agg #[.int .u8 b,.int .u32 d],.slice A1 (l1.take (t847:Int).toNat).length c1] (by rfl) rfl rfl qq_25 ?_;with_reducible refine(Qcy.calls kj13 b d _ _ (l1.take (t847:Int).toNat) u v x _ ?side1 ?side2 Y.out).mono ?_
               (case side1=>repeat(first|exact(Kd.C_below p.out HB.out) |(with_reducible refine Kd.C_alloc ?_ _) |(with_reducible refine Kd.C_drewN ?_ _) |(with_reducible refine Kd.C_drew ?_)))
               (case side2=>exact t.out)
               rintro e cj ⟨O,rfl,j,hb⟩;refine⟨_,rfl,?_⟩;have n_:=qn4 (Kd.R_elder' qq_2 (Kd.R_base j) hb) (Kd.R_lower (Kd.R_new' j (Kd.R_lt qq_2)) (Qgj qq_b)) (Qfe (g:=l) (o:=.cells #[.int .u8 b,.int .u32 d] 27 (0,0)) qq_0 hb) (Qgk qq_b hb);clear HO_6 a HB;obtain⟨HO_6,HO856,a,HB⟩:=n_
               (try clear hb)
               (try clear hb2)
               (try clear hk)
               (try clear hi)
               (try clear j)
               refine hK.out _ _ ⟨(Qep a.out 0).trans rfl,(Qep a.out 1).trans rfl⟩ (fun m=>?_);clear hK K;refine nzp_ 71 ?_;refine pz_ (i:=5) (N:=some 66) (bm 12 63) (Qit HT_.out qq_6) ?_;refine pz_ (i:=6) (N:=some 72) (bm 12 127) (Qit HT_.out qq_6) ?_;refine pz_ (i:=7) (N:=some 73) (bm 12 255) (Qit HT_.out qq_6) ?_;refine pz_ (i:=8) (N:=some 74) (bm 12 511) (Qit HT_.out qq_6) ?_;refine pz_ (i:=9) (N:=some 14) (bm 12 1023) (Qit HT_.out qq_6) ?_;refine pz_ (i:=10) (N:=some 15) (bm 12 2047) (Qit HT_.out qq_6) ?_;refine pz_ (i:=11) (N:=some 16) (bm 12 4095) (Qit HT_.out qq_6) ?_;refine Qhn (Qiw HT_.out qq_6) ?_;have bR:=Qea (P:=Tryz.prog) Tryz.underlying52 Tryz.underlying5 Tryz.underlying9 (Kd.own_of_R HO856.out);have bS:=Qea (P:=Tryz.prog) Tryz.underlying52 Tryz.underlying5 Tryz.underlying9 (Kd.own_of_R HO_6.out);obtain⟨br,bs⟩:=qc2 a.out;have bT:=Qeq a.out
               try go_wp2_with (first |((with_reducible refine Qju (f:=43) rfl ?_);refine Qhu (some 95) rfl rfl Tryz.func43 qq_6 rfl #[.agg #[.int .u8 b,.int .u32 d],.slice A1 l1.length c1] rfl qq_1 ?_;(with_reducible refine(Qcy.calls kj13 b d _ _ l1 ah ao D _ ?side1 ?side2 aH.out).mono ?_);(case side1=>repeat(first|exact(Kd.C_below z.out HB.out) |(with_reducible refine Kd.C_alloc ?_ _) |(with_reducible refine Kd.C_drewN ?_ _) |(with_reducible refine Kd.C_drew ?_)));(case side2=>exact B.out);rintro e ck ⟨aI,rfl,j,hb⟩;refine⟨_,rfl,?_⟩;have n_:=qn5 (Kd.R_elder' qq_13 (Kd.R_base j) hb) (Kd.R_elder' qq_12 (Kd.R_base j) hb) (Kd.R_lower (Kd.R_new' (Kd.R_new' j (Kd.R_lt qq_13)) (Kd.R_lt qq_12)) (Qgj qq_b)) (Qfe (g:=l) (o:=.cells #[.int .u8 b,.int .u32 d] 27 (0,0)) qq_0 hb) (Qgk qq_b hb);clear HO_6 HO856 a HB;obtain⟨HO_6,HO856,ai,a,HB⟩:=n_;(try clear hb);(try clear hb2);(try clear hk);(try clear hi);(try clear j)))
               go_ret
               exact⟨qq_7,qq_b⟩
             ·rw[if_neg ae]at H;have bb:(D == 0)=false:=beq_eq_false_iff_ne.mpr ae;have bc:(D != 0)=true:=bne_iff_ne.mpr ae;obtain rfl:=Option.some.inj H
              try go_wp2
              have n_:=qn3 (Kd.R_drew HO_6.out) (Qfc a.out) (Qgr HB.out);clear HO_6 a HB;obtain⟨HO_6,a,HB⟩:=n_;obtain⟨b5,hi057,_,hsz57,_⟩:=info_parts Qkd;obtain⟨hcut57,hA57,hC57⟩:=Qfi (P:=Tryz.prog) (Value.int .u8) 0 52 5 .i64 Tryz.underlying52 hi057 hsz57 A1 c1 l1 t847 (of_decide_eq_true qq_5) (of_decide_eq_true qq_5) B.out;have p:=QA (Kd.C_of_reads (h1:=fun _=>rfl) (hA57 _ (Kd.reads_of_C z.out)));have t:=QA hC57;clear hA57 hC57 hi057 hsz57;refine Qhk (n:=12) (S:=fun w'=>w'.cell? ⟨l,0,none⟩=some (.int .u8 b)∧w'.cell? ⟨l,1,none⟩=some (.int .u32 d)) (ds:=[]) (bm 12 0) qq_6 rfl rfl ⟨(Qep a.out 0).trans rfl,(Qep a.out 1).trans rfl⟩ (fun m=>?_);refine Qjb Qas.tab8 Qas.bits8 (fun HT_ HW_=>?_);generalize wc.drew=w56 at HO_6 a HB p m ⊢;refine pz_ (i:=1) (N:=some 68) (bm 12 2) (Qit HT_.out qq_6) ?_;refine pz_ (i:=2) (N:=some 69) (bm 12 6) (Qit HT_.out qq_6) ?_;refine pz_ (i:=3) (N:=some 70) (bm 12 14) (Qit HT_.out qq_6) ?_;refine tz_ (i:=0) (N:=some 67) (bm 12 15) (Qja HT_.out HW_.out qq_6) m ?_;refine one_ (i:=4) (N:=some 71) (bm 12 31) rfl rfl (Qiu HT_.out qq_6) (by decide) (fun K hK=>?_);refine Qht Tryz.func43 qq_6 rfl #[.agg #[.int .u8 b,.int .u32 d],.slice A1 (l1.take (t847:Int).toNat).length c1] (by rfl) rfl rfl qq_25 ?_;with_reducible refine(Qcy.calls kj13 b d _ _ (l1.take (t847:Int).toNat) u v x _ ?side1 ?side2 Y.out).mono ?_
              (case side1=>repeat(first|exact(Kd.C_below p.out HB.out) |(with_reducible refine Kd.C_alloc ?_ _) |(with_reducible refine Kd.C_drewN ?_ _) |(with_reducible refine Kd.C_drew ?_)))
              (case side2=>exact t.out)
              rintro e cl ⟨O,rfl,j,hb⟩;refine⟨_,rfl,?_⟩;have n_:=qn4 (Kd.R_elder' qq_2 (Kd.R_base j) hb) (Kd.R_lower (Kd.R_new' j (Kd.R_lt qq_2)) (Qgj qq_b)) (Qfe (g:=l) (o:=.cells #[.int .u8 b,.int .u32 d] 27 (0,0)) qq_0 hb) (Qgk qq_b hb);clear HO_6 a HB;obtain⟨HO_6,HO856,a,HB⟩:=n_
              (try clear hb)
              (try clear hb2)
              (try clear hk)
              (try clear hi)
              (try clear j)
              refine hK.out _ _ ⟨(Qep a.out 0).trans rfl,(Qep a.out 1).trans rfl⟩ (fun m=>?_);clear hK K;refine nzp_ 71 ?_;refine pz_ (i:=5) (N:=some 66) (bm 12 63) (Qit HT_.out qq_6) ?_;refine pz_ (i:=6) (N:=some 72) (bm 12 127) (Qit HT_.out qq_6) ?_;refine pz_ (i:=7) (N:=some 73) (bm 12 255) (Qit HT_.out qq_6) ?_;refine pz_ (i:=8) (N:=some 74) (bm 12 511) (Qit HT_.out qq_6) ?_;refine pz_ (i:=9) (N:=some 14) (bm 12 1023) (Qit HT_.out qq_6) ?_;refine pz_ (i:=10) (N:=some 15) (bm 12 2047) (Qit HT_.out qq_6) ?_;refine pz_ (i:=11) (N:=some 16) (bm 12 4095) (Qit HT_.out qq_6) ?_;refine Qhn (Qiw HT_.out qq_6) ?_;have bU:=Qea (P:=Tryz.prog) Tryz.underlying52 Tryz.underlying5 Tryz.underlying9 (Kd.own_of_R HO856.out);have bV:=Qea (P:=Tryz.prog) Tryz.underlying52 Tryz.underlying5 Tryz.underlying9 (Kd.own_of_R HO_6.out);obtain⟨bu,bv⟩:=qc2 a.out;have bW:=Qeq a.out
              try go_wp2_with (first |((with_reducible refine Qju (f:=43) rfl ?_);refine Qhu (some 95) rfl rfl Tryz.func43 qq_6 rfl #[.agg #[.int .u8 b,.int .u32 d],.slice A1 l1.length c1] rfl qq_1 ?_;(with_reducible refine(Qcy.calls kj13 b d _ _ l1 ah ao D _ ?side1 ?side2 aH.out).mono ?_);(case side1=>repeat(first|exact(Kd.C_below z.out HB.out) |(with_reducible refine Kd.C_alloc ?_ _) |(with_reducible refine Kd.C_drewN ?_ _) |(with_reducible refine Kd.C_drew ?_)));(case side2=>exact B.out);rintro e cm ⟨aI,rfl,j,hb⟩;refine⟨_,rfl,?_⟩;have n_:=qn5 (Kd.R_elder' qq_13 (Kd.R_base j) hb) (Kd.R_elder' qq_12 (Kd.R_base j) hb) (Kd.R_lower (Kd.R_new' (Kd.R_new' j (Kd.R_lt qq_13)) (Kd.R_lt qq_12)) (Qgj qq_b)) (Qfe (g:=l) (o:=.cells #[.int .u8 b,.int .u32 d] 27 (0,0)) qq_0 hb) (Qgk qq_b hb);clear HO_6 HO856 a HB;obtain⟨HO_6,HO856,ai,a,HB⟩:=n_;(try clear hb);(try clear hb2);(try clear hk);(try clear hi);(try clear j)))
              go_ret
              exact⟨qq_7,qq_b⟩
            ·rw[if_neg ad]at H;have aZ:(v == 0)=false:=beq_eq_false_iff_ne.mpr ad;have ba:(v != 0)=true:=bne_iff_ne.mpr ad;obtain rfl:=Option.some.inj H
             try go_wp2
             have n_:=qn3 (Kd.R_drew HO_6.out) (Qfc a.out) (Qgr HB.out);clear HO_6 a HB;obtain⟨HO_6,a,HB⟩:=n_;obtain⟨b6,hi064,_,hsz64,_⟩:=info_parts Qkd;obtain⟨hcut64,hA64,hC64⟩:=Qfi (P:=Tryz.prog) (Value.int .u8) 0 52 5 .i64 Tryz.underlying52 hi064 hsz64 A1 c1 l1 t847 (of_decide_eq_true qq_5) (of_decide_eq_true qq_5) B.out;have p:=QA (Kd.C_of_reads (h1:=fun _=>rfl) (hA64 _ (Kd.reads_of_C z.out)));have t:=QA hC64;clear hA64 hC64 hi064 hsz64;refine Qhk (n:=12) (S:=fun w'=>w'.cell? ⟨l,0,none⟩=some (.int .u8 b)∧w'.cell? ⟨l,1,none⟩=some (.int .u32 d)) (ds:=[]) (bm 12 0) qq_6 rfl rfl ⟨(Qep a.out 0).trans rfl,(Qep a.out 1).trans rfl⟩ (fun m=>?_);refine Qjb Qas.tab8 Qas.bits8 (fun HT_ HW_=>?_);generalize wc.drew=w63 at HO_6 a HB p m ⊢;refine pz_ (i:=1) (N:=some 68) (bm 12 2) (Qit HT_.out qq_6) ?_;refine pz_ (i:=2) (N:=some 69) (bm 12 6) (Qit HT_.out qq_6) ?_;refine pz_ (i:=3) (N:=some 70) (bm 12 14) (Qit HT_.out qq_6) ?_;refine tz_ (i:=0) (N:=some 67) (bm 12 15) (Qja HT_.out HW_.out qq_6) m ?_;refine one_ (i:=4) (N:=some 71) (bm 12 31) rfl rfl (Qiu HT_.out qq_6) (by decide) (fun K hK=>?_);refine Qht Tryz.func43 qq_6 rfl #[.agg #[.int .u8 b,.int .u32 d],.slice A1 (l1.take (t847:Int).toNat).length c1] (by rfl) rfl rfl qq_25 ?_;with_reducible refine(Qcy.calls kj13 b d _ _ (l1.take (t847:Int).toNat) u v x _ ?side1 ?side2 Y.out).mono ?_
             (case side1=>repeat(first|exact(Kd.C_below p.out HB.out) |(with_reducible refine Kd.C_alloc ?_ _) |(with_reducible refine Kd.C_drewN ?_ _) |(with_reducible refine Kd.C_drew ?_)))
             (case side2=>exact t.out)
             rintro e cn ⟨O,rfl,j,hb⟩;refine⟨_,rfl,?_⟩;have n_:=qn4 (Kd.R_elder' qq_2 (Kd.R_base j) hb) (Kd.R_lower (Kd.R_new' j (Kd.R_lt qq_2)) (Qgj qq_b)) (Qfe (g:=l) (o:=.cells #[.int .u8 b,.int .u32 d] 27 (0,0)) qq_0 hb) (Qgk qq_b hb);clear HO_6 a HB;obtain⟨HO_6,HO856,a,HB⟩:=n_
             (try clear hb)
             (try clear hb2)
             (try clear hk)
             (try clear hi)
             (try clear j)
             refine hK.out _ _ ⟨(Qep a.out 0).trans rfl,(Qep a.out 1).trans rfl⟩ (fun m=>?_);clear hK K;refine nzp_ 71 ?_;refine pz_ (i:=5) (N:=some 66) (bm 12 63) (Qit HT_.out qq_6) ?_;refine pz_ (i:=6) (N:=some 72) (bm 12 127) (Qit HT_.out qq_6) ?_;refine pz_ (i:=7) (N:=some 73) (bm 12 255) (Qit HT_.out qq_6) ?_;refine pz_ (i:=8) (N:=some 74) (bm 12 511) (Qit HT_.out qq_6) ?_;refine pz_ (i:=9) (N:=some 14) (bm 12 1023) (Qit HT_.out qq_6) ?_;refine pz_ (i:=10) (N:=some 15) (bm 12 2047) (Qit HT_.out qq_6) ?_;refine pz_ (i:=11) (N:=some 16) (bm 12 4095) (Qit HT_.out qq_6) ?_;refine Qhn (Qiw HT_.out qq_6) ?_;have bX:=Qea (P:=Tryz.prog) Tryz.underlying52 Tryz.underlying5 Tryz.underlying9 (Kd.own_of_R HO856.out);have bY:=Qea (P:=Tryz.prog) Tryz.underlying52 Tryz.underlying5 Tryz.underlying9 (Kd.own_of_R HO_6.out)
             try go_wp2
             go_ret
             exact⟨qq_7,qq_b⟩
           ·rw[if_neg ac]at H;have aX:((strOfNums u).toList == (strOfNums q).toList)=false:=beq_eq_false_iff_ne.mpr ac;have aY:((strOfNums u).toList != (strOfNums q).toList)=true:=bne_iff_ne.mpr ac;obtain rfl:=Option.some.inj H
            try go_wp2
            have n_:=qn3 (Kd.R_drew HO_6.out) (Qfc a.out) (Qgr HB.out);clear HO_6 a HB;obtain⟨HO_6,a,HB⟩:=n_;obtain⟨b7,hi069,_,hsz69,_⟩:=info_parts Qkd;obtain⟨hcut69,hA69,hC69⟩:=Qfi (P:=Tryz.prog) (Value.int .u8) 0 52 5 .i64 Tryz.underlying52 hi069 hsz69 A1 c1 l1 t847 (of_decide_eq_true qq_5) (of_decide_eq_true qq_5) B.out;have p:=QA (Kd.C_of_reads (h1:=fun _=>rfl) (hA69 _ (Kd.reads_of_C z.out)));have t:=QA hC69;clear hA69 hC69 hi069 hsz69;refine Qhk (n:=12) (S:=fun w'=>w'.cell? ⟨l,0,none⟩=some (.int .u8 b)∧w'.cell? ⟨l,1,none⟩=some (.int .u32 d)) (ds:=[]) (bm 12 0) qq_6 rfl rfl ⟨(Qep a.out 0).trans rfl,(Qep a.out 1).trans rfl⟩ (fun m=>?_);refine Qjb Qas.tab8 Qas.bits8 (fun HT_ HW_=>?_);generalize wc.drew=w68 at HO_6 a HB p m ⊢;refine pz_ (i:=1) (N:=some 68) (bm 12 2) (Qit HT_.out qq_6) ?_;refine pz_ (i:=2) (N:=some 69) (bm 12 6) (Qit HT_.out qq_6) ?_;refine pz_ (i:=3) (N:=some 70) (bm 12 14) (Qit HT_.out qq_6) ?_;refine tz_ (i:=0) (N:=some 67) (bm 12 15) (Qja HT_.out HW_.out qq_6) m ?_;refine one_ (i:=4) (N:=some 71) (bm 12 31) rfl rfl (Qiu HT_.out qq_6) (by decide) (fun K hK=>?_);refine Qht Tryz.func43 qq_6 rfl #[.agg #[.int .u8 b,.int .u32 d],.slice A1 (l1.take (t847:Int).toNat).length c1] (by rfl) rfl rfl qq_25 ?_;with_reducible refine(Qcy.calls kj13 b d _ _ (l1.take (t847:Int).toNat) u v x _ ?side1 ?side2 Y.out).mono ?_
            (case side1=>repeat(first|exact(Kd.C_below p.out HB.out) |(with_reducible refine Kd.C_alloc ?_ _) |(with_reducible refine Kd.C_drewN ?_ _) |(with_reducible refine Kd.C_drew ?_)))
            (case side2=>exact t.out)
            rintro e co ⟨O,rfl,j,hb⟩;refine⟨_,rfl,?_⟩;have n_:=qn4 (Kd.R_elder' qq_2 (Kd.R_base j) hb) (Kd.R_lower (Kd.R_new' j (Kd.R_lt qq_2)) (Qgj qq_b)) (Qfe (g:=l) (o:=.cells #[.int .u8 b,.int .u32 d] 27 (0,0)) qq_0 hb) (Qgk qq_b hb);clear HO_6 a HB;obtain⟨HO_6,HO856,a,HB⟩:=n_
            (try clear hb)
            (try clear hb2)
            (try clear hk)
            (try clear hi)
            (try clear j)
            refine hK.out _ _ ⟨(Qep a.out 0).trans rfl,(Qep a.out 1).trans rfl⟩ (fun m=>?_);clear hK K;refine nzp_ 71 ?_;refine pz_ (i:=5) (N:=some 66) (bm 12 63) (Qit HT_.out qq_6) ?_;refine pz_ (i:=6) (N:=some 72) (bm 12 127) (Qit HT_.out qq_6) ?_;refine pz_ (i:=7) (N:=some 73) (bm 12 255) (Qit HT_.out qq_6) ?_;refine pz_ (i:=8) (N:=some 74) (bm 12 511) (Qit HT_.out qq_6) ?_;refine pz_ (i:=9) (N:=some 14) (bm 12 1023) (Qit HT_.out qq_6) ?_;refine pz_ (i:=10) (N:=some 15) (bm 12 2047) (Qit HT_.out qq_6) ?_;refine pz_ (i:=11) (N:=some 16) (bm 12 4095) (Qit HT_.out qq_6) ?_;refine Qhn (Qiw HT_.out qq_6) ?_;have bZ:=Qea (P:=Tryz.prog) Tryz.underlying52 Tryz.underlying5 Tryz.underlying9 (Kd.own_of_R HO856.out);have b0:=Qea (P:=Tryz.prog) Tryz.underlying52 Tryz.underlying5 Tryz.underlying9 (Kd.own_of_R HO_6.out)
            try go_wp2
            go_ret
            exact⟨qq_7,qq_b⟩
          ·rw[if_neg ab]at H;have aV:(x == 0)=false:=beq_eq_false_iff_ne.mpr ab;have aW:(x != 0)=true:=bne_iff_ne.mpr ab;obtain rfl:=Option.some.inj H
           try go_wp2
           have n_:=qn3 (Kd.R_drew HO_6.out) (Qfc a.out) (Qgr HB.out);clear HO_6 a HB;obtain⟨HO_6,a,HB⟩:=n_;obtain⟨b8,hi074,_,hsz74,_⟩:=info_parts Qkd;obtain⟨hcut74,hA74,hC74⟩:=Qfi (P:=Tryz.prog) (Value.int .u8) 0 52 5 .i64 Tryz.underlying52 hi074 hsz74 A1 c1 l1 t847 (of_decide_eq_true qq_5) (of_decide_eq_true qq_5) B.out;have p:=QA (Kd.C_of_reads (h1:=fun _=>rfl) (hA74 _ (Kd.reads_of_C z.out)));have t:=QA hC74;clear hA74 hC74 hi074 hsz74;refine Qhk (n:=12) (S:=fun w'=>w'.cell? ⟨l,0,none⟩=some (.int .u8 b)∧w'.cell? ⟨l,1,none⟩=some (.int .u32 d)) (ds:=[]) (bm 12 0) qq_6 rfl rfl ⟨(Qep a.out 0).trans rfl,(Qep a.out 1).trans rfl⟩ (fun m=>?_);refine Qjb Qas.tab8 Qas.bits8 (fun HT_ HW_=>?_);generalize wc.drew=w73 at HO_6 a HB p m ⊢;refine pz_ (i:=1) (N:=some 68) (bm 12 2) (Qit HT_.out qq_6) ?_;refine pz_ (i:=2) (N:=some 69) (bm 12 6) (Qit HT_.out qq_6) ?_;refine pz_ (i:=3) (N:=some 70) (bm 12 14) (Qit HT_.out qq_6) ?_;refine tz_ (i:=0) (N:=some 67) (bm 12 15) (Qja HT_.out HW_.out qq_6) m ?_;refine one_ (i:=4) (N:=some 71) (bm 12 31) rfl rfl (Qiu HT_.out qq_6) (by decide) (fun K hK=>?_);refine Qht Tryz.func43 qq_6 rfl #[.agg #[.int .u8 b,.int .u32 d],.slice A1 (l1.take (t847:Int).toNat).length c1] (by rfl) rfl rfl qq_25 ?_;with_reducible refine(Qcy.calls kj13 b d _ _ (l1.take (t847:Int).toNat) u v x _ ?side1 ?side2 Y.out).mono ?_
           (case side1=>repeat(first|exact(Kd.C_below p.out HB.out) |(with_reducible refine Kd.C_alloc ?_ _) |(with_reducible refine Kd.C_drewN ?_ _) |(with_reducible refine Kd.C_drew ?_)))
           (case side2=>exact t.out)
           rintro e cp ⟨O,rfl,j,hb⟩;refine⟨_,rfl,?_⟩;have n_:=qn4 (Kd.R_elder' qq_2 (Kd.R_base j) hb) (Kd.R_lower (Kd.R_new' j (Kd.R_lt qq_2)) (Qgj qq_b)) (Qfe (g:=l) (o:=.cells #[.int .u8 b,.int .u32 d] 27 (0,0)) qq_0 hb) (Qgk qq_b hb);clear HO_6 a HB;obtain⟨HO_6,HO856,a,HB⟩:=n_
           (try clear hb)
           (try clear hb2)
           (try clear hk)
           (try clear hi)
           (try clear j)
           refine hK.out _ _ ⟨(Qep a.out 0).trans rfl,(Qep a.out 1).trans rfl⟩ (fun m=>?_);clear hK K;refine nzp_ 71 ?_;refine pz_ (i:=5) (N:=some 66) (bm 12 63) (Qit HT_.out qq_6) ?_;refine pz_ (i:=6) (N:=some 72) (bm 12 127) (Qit HT_.out qq_6) ?_;refine pz_ (i:=7) (N:=some 73) (bm 12 255) (Qit HT_.out qq_6) ?_;refine pz_ (i:=8) (N:=some 74) (bm 12 511) (Qit HT_.out qq_6) ?_;refine pz_ (i:=9) (N:=some 14) (bm 12 1023) (Qit HT_.out qq_6) ?_;refine pz_ (i:=10) (N:=some 15) (bm 12 2047) (Qit HT_.out qq_6) ?_;refine pz_ (i:=11) (N:=some 16) (bm 12 4095) (Qit HT_.out qq_6) ?_;refine Qhn (Qiw HT_.out qq_6) ?_
           try go_wp2
           go_ret
           exact⟨qq_7,qq_b⟩
         ·rw[if_neg aa]at H;have aT:(s == 0)=false:=beq_eq_false_iff_ne.mpr aa;have aU:(s != 0)=true:=bne_iff_ne.mpr aa;replace H:=Option.bind_eq_some_iff.mp H;obtain⟨⟨aJ,aK,G⟩,aL,H⟩:=H;replace H:(if G=0 then(some false)else(some true))=some r:=H;have bk:=QA aL;clear aL
          by_cases ag:G=0
          ·rw[if_pos ag]at H;have bf:(G == 0)=true:=beq_iff_eq.mpr ag;have bg:(G != 0)=false:=bne_eq_false_iff_eq.mpr ag;clear ag;obtain rfl:=Option.some.inj H
           try go_wp2
           have n_:=qn3 (Kd.R_drew HO_6.out) (Qfc a.out) (Qgr HB.out);clear HO_6 a HB;obtain⟨HO_6,a,HB⟩:=n_;obtain⟨b9,hi079,_,hsz79,_⟩:=info_parts Qkd;obtain⟨hcut79,hA79,hC79⟩:=Qfi (P:=Tryz.prog) (Value.int .u8) 0 52 5 .i64 Tryz.underlying52 hi079 hsz79 A1 c1 l1 t847 (of_decide_eq_true qq_5) (of_decide_eq_true qq_5) B.out;have p:=QA (Kd.C_of_reads (h1:=fun _=>rfl) (hA79 _ (Kd.reads_of_C z.out)));have t:=QA hC79;clear hA79 hC79 hi079 hsz79;refine Qhk (n:=12) (S:=fun w'=>w'.cell? ⟨l,0,none⟩=some (.int .u8 b)∧w'.cell? ⟨l,1,none⟩=some (.int .u32 d)) (ds:=[]) (bm 12 0) qq_6 rfl rfl ⟨(Qep a.out 0).trans rfl,(Qep a.out 1).trans rfl⟩ (fun m=>?_);refine Qjb Qas.tab8 Qas.bits8 (fun HT_ HW_=>?_);generalize wc.drew=w78 at HO_6 a HB p m ⊢;refine pz_ (i:=1) (N:=some 68) (bm 12 2) (Qit HT_.out qq_6) ?_;refine pz_ (i:=2) (N:=some 69) (bm 12 6) (Qit HT_.out qq_6) ?_;refine pz_ (i:=3) (N:=some 70) (bm 12 14) (Qit HT_.out qq_6) ?_;refine tz_ (i:=0) (N:=some 67) (bm 12 15) (Qja HT_.out HW_.out qq_6) m ?_;refine one_ (i:=4) (N:=some 71) (bm 12 31) rfl rfl (Qiu HT_.out qq_6) (by decide) (fun K hK=>?_);refine Qht Tryz.func43 qq_6 rfl #[.agg #[.int .u8 b,.int .u32 d],.slice A1 (l1.take (t847:Int).toNat).length c1] (by rfl) rfl rfl qq_25 ?_;with_reducible refine(Qcy.calls kj13 b d _ _ (l1.take (t847:Int).toNat) u v x _ ?side1 ?side2 Y.out).mono ?_
           (case side1=>repeat(first|exact(Kd.C_below p.out HB.out) |(with_reducible refine Kd.C_alloc ?_ _) |(with_reducible refine Kd.C_drewN ?_ _) |(with_reducible refine Kd.C_drew ?_)))
           (case side2=>exact t.out)
           rintro e cq ⟨O,rfl,j,hb⟩;refine⟨_,rfl,?_⟩;have n_:=qn4 (Kd.R_elder' qq_2 (Kd.R_base j) hb) (Kd.R_lower (Kd.R_new' j (Kd.R_lt qq_2)) (Qgj qq_b)) (Qfe (g:=l) (o:=.cells #[.int .u8 b,.int .u32 d] 27 (0,0)) qq_0 hb) (Qgk qq_b hb);clear HO_6 a HB;obtain⟨HO_6,HO856,a,HB⟩:=n_
           (try clear hb)
           (try clear hb2)
           (try clear hk)
           (try clear hi)
           (try clear j)
           refine hK.out _ _ ⟨(Qep a.out 0).trans rfl,(Qep a.out 1).trans rfl⟩ (fun m=>?_);clear hK K;refine nzp_ 71 ?_;refine pz_ (i:=5) (N:=some 66) (bm 12 63) (Qit HT_.out qq_6) ?_;refine pz_ (i:=6) (N:=some 72) (bm 12 127) (Qit HT_.out qq_6) ?_;refine pz_ (i:=7) (N:=some 73) (bm 12 255) (Qit HT_.out qq_6) ?_;refine pz_ (i:=8) (N:=some 74) (bm 12 511) (Qit HT_.out qq_6) ?_;refine pz_ (i:=9) (N:=some 14) (bm 12 1023) (Qit HT_.out qq_6) ?_;refine pz_ (i:=10) (N:=some 15) (bm 12 2047) (Qit HT_.out qq_6) ?_;refine pz_ (i:=11) (N:=some 16) (bm 12 4095) (Qit HT_.out qq_6) ?_;refine Qhn (Qiw HT_.out qq_6) ?_;obtain⟨bw,bx⟩:=qc2 a.out;have b1:=Qeq a.out
           try go_wp2_with (first |((with_reducible refine Qju (f:=43) rfl ?_);refine Qhu (some 95) rfl rfl Tryz.func43 qq_6 rfl #[.agg #[.int .u8 b,.int .u32 d],.slice A1 l1.length c1] rfl qq_1 ?_;(with_reducible refine(Qcy.calls kj13 b d _ _ l1 aJ aK G _ ?side1 ?side2 bk.out).mono ?_);(case side1=>repeat(first|exact(Kd.C_below z.out HB.out) |(with_reducible refine Kd.C_alloc ?_ _) |(with_reducible refine Kd.C_drewN ?_ _) |(with_reducible refine Kd.C_drew ?_)));(case side2=>exact B.out);rintro e cr ⟨bo,rfl,j,hb⟩;refine⟨_,rfl,?_⟩;have n_:=qn5 (Kd.R_elder' qq_13 (Kd.R_base j) hb) (Kd.R_elder' qq_12 (Kd.R_base j) hb) (Kd.R_lower (Kd.R_new' (Kd.R_new' j (Kd.R_lt qq_13)) (Kd.R_lt qq_12)) (Qgj qq_b)) (Qfe (g:=l) (o:=.cells #[.int .u8 b,.int .u32 d] 27 (0,0)) qq_0 hb) (Qgk qq_b hb);clear HO_6 HO856 a HB;obtain⟨HO_6,HO856,bh,a,HB⟩:=n_;(try clear hb);(try clear hb2);(try clear hk);(try clear hi);(try clear j)))
           go_ret
           exact⟨qq_7,qq_b⟩
          ·rw[if_neg ag]at H;have bf:(G == 0)=false:=beq_eq_false_iff_ne.mpr ag;have bg:(G != 0)=true:=bne_iff_ne.mpr ag;obtain rfl:=Option.some.inj H
           try go_wp2
           have n_:=qn3 (Kd.R_drew HO_6.out) (Qfc a.out) (Qgr HB.out);clear HO_6 a HB;obtain⟨HO_6,a,HB⟩:=n_;obtain⟨ca,hi084,_,hsz84,_⟩:=info_parts Qkd;obtain⟨hcut84,hA84,hC84⟩:=Qfi (P:=Tryz.prog) (Value.int .u8) 0 52 5 .i64 Tryz.underlying52 hi084 hsz84 A1 c1 l1 t847 (of_decide_eq_true qq_5) (of_decide_eq_true qq_5) B.out;have p:=QA (Kd.C_of_reads (h1:=fun _=>rfl) (hA84 _ (Kd.reads_of_C z.out)));have t:=QA hC84;clear hA84 hC84 hi084 hsz84;refine Qhk (n:=12) (S:=fun w'=>w'.cell? ⟨l,0,none⟩=some (.int .u8 b)∧w'.cell? ⟨l,1,none⟩=some (.int .u32 d)) (ds:=[]) (bm 12 0) qq_6 rfl rfl ⟨(Qep a.out 0).trans rfl,(Qep a.out 1).trans rfl⟩ (fun m=>?_);refine Qjb Qas.tab8 Qas.bits8 (fun HT_ HW_=>?_);generalize wc.drew=w83 at HO_6 a HB p m ⊢;refine pz_ (i:=1) (N:=some 68) (bm 12 2) (Qit HT_.out qq_6) ?_;refine pz_ (i:=2) (N:=some 69) (bm 12 6) (Qit HT_.out qq_6) ?_;refine pz_ (i:=3) (N:=some 70) (bm 12 14) (Qit HT_.out qq_6) ?_;refine tz_ (i:=0) (N:=some 67) (bm 12 15) (Qja HT_.out HW_.out qq_6) m ?_;refine one_ (i:=4) (N:=some 71) (bm 12 31) rfl rfl (Qiu HT_.out qq_6) (by decide) (fun K hK=>?_);refine Qht Tryz.func43 qq_6 rfl #[.agg #[.int .u8 b,.int .u32 d],.slice A1 (l1.take (t847:Int).toNat).length c1] (by rfl) rfl rfl qq_25 ?_;with_reducible refine(Qcy.calls kj13 b d _ _ (l1.take (t847:Int).toNat) u v x _ ?side1 ?side2 Y.out).mono ?_
           (case side1=>repeat(first|exact(Kd.C_below p.out HB.out) |(with_reducible refine Kd.C_alloc ?_ _) |(with_reducible refine Kd.C_drewN ?_ _) |(with_reducible refine Kd.C_drew ?_)))
           (case side2=>exact t.out)
           rintro e cs ⟨O,rfl,j,hb⟩;refine⟨_,rfl,?_⟩;have n_:=qn4 (Kd.R_elder' qq_2 (Kd.R_base j) hb) (Kd.R_lower (Kd.R_new' j (Kd.R_lt qq_2)) (Qgj qq_b)) (Qfe (g:=l) (o:=.cells #[.int .u8 b,.int .u32 d] 27 (0,0)) qq_0 hb) (Qgk qq_b hb);clear HO_6 a HB;obtain⟨HO_6,HO856,a,HB⟩:=n_
           (try clear hb)
           (try clear hb2)
           (try clear hk)
           (try clear hi)
           (try clear j)
           refine hK.out _ _ ⟨(Qep a.out 0).trans rfl,(Qep a.out 1).trans rfl⟩ (fun m=>?_);clear hK K;refine nzp_ 71 ?_;refine pz_ (i:=5) (N:=some 66) (bm 12 63) (Qit HT_.out qq_6) ?_;refine pz_ (i:=6) (N:=some 72) (bm 12 127) (Qit HT_.out qq_6) ?_;refine pz_ (i:=7) (N:=some 73) (bm 12 255) (Qit HT_.out qq_6) ?_;refine pz_ (i:=8) (N:=some 74) (bm 12 511) (Qit HT_.out qq_6) ?_;refine pz_ (i:=9) (N:=some 14) (bm 12 1023) (Qit HT_.out qq_6) ?_;refine pz_ (i:=10) (N:=some 15) (bm 12 2047) (Qit HT_.out qq_6) ?_;refine pz_ (i:=11) (N:=some 16) (bm 12 4095) (Qit HT_.out qq_6) ?_;refine Qhn (Qiw HT_.out qq_6) ?_;obtain⟨bz,bA⟩:=qc2 a.out;have b2:=Qeq a.out
           try go_wp2_with (first |((with_reducible refine Qju (f:=43) rfl ?_);refine Qhu (some 95) rfl rfl Tryz.func43 qq_6 rfl #[.agg #[.int .u8 b,.int .u32 d],.slice A1 l1.length c1] rfl qq_1 ?_;(with_reducible refine(Qcy.calls kj13 b d _ _ l1 aJ aK G _ ?side1 ?side2 bk.out).mono ?_);(case side1=>repeat(first|exact(Kd.C_below z.out HB.out) |(with_reducible refine Kd.C_alloc ?_ _) |(with_reducible refine Kd.C_drewN ?_ _) |(with_reducible refine Kd.C_drew ?_)));(case side2=>exact B.out);rintro e ct ⟨bo,rfl,j,hb⟩;refine⟨_,rfl,?_⟩;have n_:=qn5 (Kd.R_elder' qq_13 (Kd.R_base j) hb) (Kd.R_elder' qq_12 (Kd.R_base j) hb) (Kd.R_lower (Kd.R_new' (Kd.R_new' j (Kd.R_lt qq_13)) (Kd.R_lt qq_12)) (Qgj qq_b)) (Qfe (g:=l) (o:=.cells #[.int .u8 b,.int .u32 d] 27 (0,0)) qq_0 hb) (Qgk qq_b hb);clear HO_6 HO856 a HB;obtain⟨HO_6,HO856,bh,a,HB⟩:=n_;(try clear hb);(try clear hb2);(try clear hk);(try clear hi);(try clear j)))
           go_ret
           exact⟨qq_7,qq_b⟩
        ·rw[if_neg ak]at H;exact absurd H (by simp)
       ·rw[if_neg aj]at H;exact absurd H (by simp)
end Go.Proofs.YtnnofopfbeklbaaGreat.C
end
section
namespace Go.Proofs.YtnnofopfbeklbaaGreat.Open
open Go.RowKit Go.Proofs.YtnnofopfbeklbaaGreatW.PrintWords Go.ChangeShapes Go.WideShapes Go.Deep
structure Opens (P:Program) (t:TypeId) {α:Type} (d:Kd α) (G:α→Prop):Prop where
  sz:P.cellsOf t=d.sz
  out:∀ {H:Type} {enc:TypeId × Value→H} {w:World} {base:Nat} {spare:Nat→Bool} {held:Bool} {fuel:Nat} {cs:List Value} {x:DataW H × List MemPlace},
    DataW.trod enc P w base spare held fuel t cs=some x→(∀n∈DataW.weights P t x.1,n≤reachBytes)→∃v,d.K w v cs∧G v
theorem Qwg{P:Program}{t:TypeId}{k:IntKind}(ht:P.underlying t=some (.int k))(hc:P.cellsOf t=1):Opens P t (Kd.int k) (fun n=>(Lit.int k n).wf=true) :=
 ⟨hc,fun h _=>by
  obtain⟨b,rfl,_,hw⟩:=DataW.trod_int ht h
  exact⟨b,rfl,hw⟩⟩
theorem Qwh{H:Type}{P:Program}{e:TypeId}{n:Nat}:∀ {ds:List (DataW H)} {d:DataW H},d∈ds→n∈DataW.weights P e d→n∈DataW.weightsAll P e ds
 | [],_,h,_=>by simp at h
 | a :: r,d,h,hn=>by
  simp only[DataW.weightsAll]
  rcases List.mem_cons.1 h with rfl|h
  ·exact List.mem_append_left _ hn
  ·exact List.mem_append_right _ (Qwh h hn)
theorem Qwi{P:Program}{t e:TypeId}{α:Type}{d:Kd α}{G:α→Prop}{B:Nat}(ht:P.underlying t=some (.slice e))(hc:P.cellsOf t=1)(hB:P.bytesOf e=B)(he:Opens P e d G) :
  Opens P t (Kd.slice e d) (fun xs=>xs.length*B≤140737488351232∧∀x∈xs,G x) :=
 ⟨hc, fun {H enc w base spare held fuel cs x} h hs=>by
  rcases open_slice ht h with⟨rfl,rfl⟩ |⟨a,len,cap,m,n,D,Pl,rfl,hb,hl,hm,hmm,rfl,hx⟩
  ·exact⟨[],⟨none,0,rfl,Nat.zero_le _,rfl,by simp,fun hp=>absurd hp (by simp)⟩,by simp,by simp⟩
  have hlm:len≤m:=by rw[hmm];split<;>omega
  have hw:∀i,i<len→∃v,(∃cs',w.cells? base (a.add (i*P.cellsOf e)) (P.cellsOf e)=some cs'∧d.K w v cs')∧G v:=by
   intro i hi
   obtain⟨cs',h1,h2⟩:=hx i (by omega)
   obtain⟨v,hv,hg⟩:=he.out h2 (fun q hq=>hs q (by
    simp only[DataW.weights,ht]
    refine List.mem_cons_of_mem _ (List.mem_append_left _ (Qwh (d:=D i) ?_ hq))
    exact List.mem_map.2 ⟨i,List.mem_range.2 hi,rfl⟩))
   exact⟨v,⟨cs',h1,hv⟩,hg⟩
  have hw':∃xs:List α,xs.length=len∧∀i p,xs[i]? = some p→(∃cs',w.cells? base (a.add (i*P.cellsOf e)) (P.cellsOf e)=some cs'∧d.K w p cs')∧G p:=by
   clear hs hx hmm hlm hm hl h
   induction len with
   | zero=>exact⟨[],rfl,by simp⟩
   | succ q ih =>
    obtain⟨xs,hxl,hxs⟩:=ih (fun i hi=>hw i (by omega))
    obtain⟨v,hv⟩:=hw q (by omega)
    refine⟨xs++[v],by simp[hxl],fun i p hp=>?_⟩
    rcases Nat.lt_or_ge i xs.length with hi|hi
    ·rw[List.getElem?_append_left hi]at hp
     exact hxs i p hp
    ·have:i=q:=by
      have:=(List.getElem?_eq_some_iff.1 hp).1
      simp at this
      omega
     subst this
     rw[← hxl]at hp
     have:v=p:=by simpa using hp
     subst this
     exact hv
  obtain⟨xs,hxl,hxs⟩:=hw'
  have hlen:len*B≤140737488351232:=by
   have:=hs ((((List.range len).map D).length+((List.range (m-len)).map fun j=>D (len+j)).length)*P.bytesOf e) (by simp[DataW.weights,ht])
   rw[hB]at this
   have h2:(((List.range len).map D).length+((List.range (m-len)).map fun j=>D (len+j)).length)=m:=by simp;omega
   rw[h2]at this
   have h3:m*B≤140737488351232:=by simpa [reachBytes]using this
   exact Nat.le_trans (Nat.mul_le_mul_right _ hlm) h3
  refine⟨xs,⟨some a,cap,by rw[hxl],by rw[hxl];exact hl,rfl,?_,fun hp=>⟨a,rfl,fun j p hj=>?_⟩⟩,by rw[hxl];exact hlen,fun x hx=>?_⟩
  ·rw[hxl]
   exact Nat.le_trans hl (by simpa [maxLen]using hm)
  ·obtain⟨⟨cs',h1,h2⟩,_⟩:=hxs j p hj
   obtain⟨_,hcl,hcc⟩:=World.cells?_some h1
   refine⟨cs',by rw[hcl,he.sz],h2,fun i u hu=>?_⟩
   have hi:i<P.cellsOf e:=by rw[← hcl];exact(List.getElem?_eq_some_iff.1 hu).1
   rw[he.sz]at hcc hi
   have:=hcc i hi
   rw[Go.Deep.add_add]at this
   rw[this,hu]
  ·obtain⟨i,hi⟩:=List.getElem?_of_mem hx
   exact(hxs i x hi).2⟩
structure OpensFs (P:Program) (ts:List TypeId) {α:Type} (d:Kd α) (G:α→Prop):Prop where
  sz:(ts.map P.cellsOf).sum=d.sz
  out:∀ {H:Type} {enc:TypeId × Value→H} {w:World} {base:Nat} {spare:Nat→Bool} {held:Bool} {fuel:Nat} {cs:List Value} {xs:List (DataW H × List MemPlace)},
    cs.length=(ts.map P.cellsOf).sum→xs.length=ts.length →
    (∀i t,ts[i]? = some t→DataW.trod enc P w base spare held fuel t ((cs.drop ((ts.take i).map P.cellsOf).sum).take (P.cellsOf t))=xs[i]?) →
    (∀n∈DataW.weightsEach P ts (xs.map (·.1)),n≤reachBytes)→∃v,d.K w v cs∧G v
theorem Qwj{H:Type}{P:Program}:∀ {ts:List TypeId} {ds:List (DataW H)} {j:Nat} {t:TypeId} {d:DataW H},(DataW.weightsEach P ts ds).all (·≤reachBytes)=true→ts[j]? = some t→ds[j]? = some d→∀n∈DataW.weights P t d,n≤reachBytes
 | [],_,_,_,_,_,h,_=>by simp at h
 | _ :: _,[],_,_,_,_,_,h=>by simp at h
 | t0 :: ts,d0 :: ds,0,t,d,hz,h1,h2=>by
  simp at h1 h2
  subst h1 h2
  intro n hn
  simp only[DataW.weightsEach]at hz
  exact of_decide_eq_true (List.all_eq_true.1 hz n (List.mem_append_left _ hn))
 | t0 :: ts,d0 :: ds,j+1,t,d,hz,h1,h2=>by
  simp only[DataW.weightsEach]at hz
  refine Qwj (ts:=ts) (ds:=ds) (j:=j) ?_ (by simpa using h1) (by simpa using h2)
  rw[List.all_append]at hz
  exact(Bool.and_eq_true _ _ ▸ hz).2
theorem Qwk{H:Type}{enc:TypeId × Value→H}{P:Program}{w:World}{base:Nat}{spare:Nat→Bool}{held:Bool}{t e:TypeId}{α:Type}{d:Kd α}{G:List α→Prop}(op:Opens P t (Kd.slice e d) G){a:Option Addr}{len cap:Nat}{x:DataW H}{ps:List MemPlace}
  (h:DataW.Trod enc P w base spare held t (.slice a len cap) x ps) (hs:∀n∈DataW.weights P t x,n≤reachBytes):∃l:List α,len=l.length∧l.length≤cap∧d.C w a l.length l∧G l:=by
 obtain⟨fuel,hf⟩:=h
 obtain⟨l,⟨A,c,he,hc,hr⟩,hg⟩:=op.out hf hs
 have he':[Value.slice a len cap]=[.slice A l.length c]:=by simpa [Value.cells]using he
 simp only[List.cons.injEq,Value.slice.injEq,and_true]at he'
 obtain⟨rfl,rfl,rfl⟩:=he'
 exact⟨l,rfl,hc,hr,hg⟩
end Go.Proofs.YtnnofopfbeklbaaGreat.Open
end
section
namespace Go.Proofs.YtnnofopfbeklbaaGreat.C
open Go.RowKit Go.Proofs.YtnnofopfbeklbaaGreatW.PrintWords Go.Proofs.YtnnofopfbeklbaaGreatW.PrintLast Go.Proofs.YtnnofopfbeklbaaGreatW.PrintMore Go.Proofs.YtnnofopfbeklbaaGreat.Open
theorem opT5:Opens Tryz.prog 5 (Kd.int .u8) (fun x=>(Lit.int .u8 x).wf=true):=Qwg Tryz.underlying5 (by kernel_rfl)
theorem opT52:Opens Tryz.prog 52 (Kd.slice 5 (Kd.int .u8)) (fun x=>(x.length*1≤140737488351232∧∀z1∈x,(Lit.int .u8 z1).wf=true)):=Qwi (B:=1) Tryz.underlying52 (by kernel_rfl) (by kernel_rfl) opT5
def Qas.Pure:Prop:=∀(x0:Int) (x1:List Int),(Lit.int .u8 x0).wf=true→(x1.length*1≤140737488351232∧∀z2∈x1,(Lit.int .u8 z2).wf=true)→∃k,Qas.f k x0 x1=some true
end Go.Proofs.YtnnofopfbeklbaaGreat.C
end
