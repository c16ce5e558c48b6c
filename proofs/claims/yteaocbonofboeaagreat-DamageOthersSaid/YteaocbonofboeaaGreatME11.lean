/- Merged texts. -/
import Derived.Test.YteaocbonofboeaaGreatME02
import Derived.Test.YteaocbonofboeaaGreatME05
import Derived.Test.YteaocbonofboeaaGreatME09
import Derived.Test.YteaocbonofboeaaGreatME06
set_option linter.unusedVariables false
set_option linter.unusedSimpArgs false
set_option maxHeartbeats 8000000
set_option maxRecDepth 100000
section
namespace Go.Proofs.YteaocbonofboeaaGreat.C
open Go.RowKit Go.Proofs.YteaocbonofboeaaGreatW.PrintWords Go.Proofs.YteaocbonofboeaaGreatW.PrintLast Go.Proofs.YteaocbonofboeaaGreatW.PrintMore
attribute [local go_sem] Qie Qif Qig Qih Qii Qij Qik Qil
mutual
def Qbf.j0:Nat→ByteArray→Int→Int→Option (Int)
 | 0,_,_,_=>none
 | k+1,x1,x5,x6=>Qbf.l0 k x1 (IntKind.u64.wrap (x6+x5))
def Qbf.l0:Nat→ByteArray→Int→Option (Int)
 | 0,_,_=>none
 | k+1,x1,x6=>if(x1.size:Int)≥8 then(if 0≤8 then(if 8≤(x1.size:Int)then((Qbc.f k (x1.extract 0 8)).bind fun t136=>((Qbh.f k 0 t136).bind fun t137=>((Qbj.f k (Go.bits .xor .u64 x6 t137) 27).bind fun t138=>(Qbf.l0 k (x1.extract 8 x1.size) (IntKind.u64.wrap ((IntKind.u64.wrap (t138*11400714785074694791))+9650029242287828579))))))else(none))else(none))else(Qbf.l1 k x1 x6)
def Qbf.l1:Nat→ByteArray→Int→Option (Int)
 | 0,_,_=>none
 | k+1,x1,x6=>if(x1.size:Int)≥4 then(if 0≤4 then(if 4≤(x1.size:Int)then((Qbc.f k (x1.extract 0 4)).bind fun t139=>((Qbj.f k (Go.bits .xor .u64 x6 (IntKind.u64.wrap (t139*11400714785074694791))) 23).bind fun t140=>(Qbf.l1 k (x1.extract 4 x1.size) (IntKind.u64.wrap ((IntKind.u64.wrap (t140*14029467366897019727))+1609587929392839161)))))else(none))else(none))else(Qbf.l2 k x1 x6 0)
def Qbf.l2:Nat→ByteArray→Int→Int→Option (Int)
 | 0,_,_,_=>none
 | k+1,x1,x6,x8=>if x8<(x1.size:Int)then(if 0≤x8 then((Qbj.f k (Go.bits .xor .u64 x6 (IntKind.u64.wrap ((IntKind.u64.wrap (bt x1 x8))*2870177450012600261))) 11).bind fun t141=>(Qbf.l2 k x1 (IntKind.u64.wrap (t141*11400714785074694791)) (wrap64 (x8+1))))else(none))else((Qbi.f k x6 33).bind fun t142=>((Qbi.f k (IntKind.u64.wrap (t142*14029467366897019727)) 29).bind fun t143=>((Qbi.f k (IntKind.u64.wrap (t143*1609587929392839161)) 32).bind fun t144=>(some t144))))
end
def Qbf.f(k:Nat)(a0:Int)(a1:ByteArray):Option (Int):=if(a1.size:Int)≥32 then((Qbg.f a0 a1).bind fun bt134=>(Qbf.j0 k bt134.2 (IntKind.u64.wrap ((a1.size:Int))) bt134.1))else(Qbf.j0 k a1 (IntKind.u64.wrap ((a1.size:Int))) (IntKind.u64.wrap (a0+2870177450012600261)))
theorem Qbf.calls (k:Nat) (a0:Int) (a1:ByteArray) (r:Int) (w:World) (h:Qbf.f k a0 a1=some r) :
  Calls Tryz.prog 134 #[.int .u64 a0,.string a1] w fun e w'=>e=.returned (.int .u64 r)∧Below w.heap.size w w':=by
 have HB:=QA (Below.refl w.heap.size w);have H:(if(a1.size:Int)≥32 then((Qbg.f a0 a1).bind fun bt134=>(Qbf.j0 k bt134.2 (IntKind.u64.wrap ((a1.size:Int))) bt134.1))else(Qbf.j0 k a1 (IntKind.u64.wrap ((a1.size:Int))) (IntKind.u64.wrap (a0+2870177450012600261))))=some r:=h;clear h;have J:=QA H;clear H
 go_enter Tryz.func134,Tryz.ntmps134
 go_upto_if 17 with(fail)
 go_cut [1,6] (fun v1 v6 wc=>∃(kq:Nat) (a:ByteArray) (c:Int),v1=.string a∧v6=.int .u64 c∧Aside0 (Qbf.j0 kq a (IntKind.u64.wrap ((a1.size:Int))) c=some r)∧Aside0 (kq≤k)∧Aside0 (Below w.heap.size w wc))
 case first =>
  have H:=J.out;clear J
  by_cases c4:(a1.size:Int)≥32
  ·rw[if_pos c4]at H;have g:decide (32≤(a1.size:Int))=true:=decide_eq_true c4;have m:decide (32≤a1.size)=true:=decide_eq_true (by omega);clear c4
   (first|rw[g] |(simp only[Qgq,Qgr];rw[g])|skip)
   replace H:=Option.bind_eq_some_iff.mp H;obtain⟨⟨s,t⟩,al,H⟩:=H;replace H:(Qbf.j0 k t (IntKind.u64.wrap ((a1.size:Int))) s)=some r:=H;have A5:=QA al;clear al;have H':=QA H;clear H
   go_wp2_with (first |((with_reducible refine Qim (f:=190) rfl ?_);refine Qgo (some 21) rfl rfl Tryz.func190 qq_4 rfl #[.int .u64 a0,.string a1] rfl qq_1 ?_;(with_reducible refine(Qbg.calls a0 a1 s t _ A5.out).mono ?_);rintro e w6 ⟨rfl,hb⟩;refine⟨_,rfl,?_⟩;have n_:=qn1 (Qfi qq_b hb);clear HB;have HB:=n_;clear n_;(try clear hb);(try clear hb2);(try clear hk);(try clear hi)))
   go_meet
   case rel=>exact⟨_,(t),(s),qq_5,qq_5,H',⟨by first|omega|exact Nat.le_refl _⟩,⟨qq_b⟩⟩
  ·rw[if_neg c4]at H;have g:decide (32≤(a1.size:Int))=false:=decide_eq_false c4;have m:decide (32≤a1.size)=false:=decide_eq_false (by omega);clear c4
   (first|rw[g] |(simp only[Qgq,Qgr];rw[g])|skip)
   have H':=QA H;clear H;go_wp2
   go_meet
   case rel=>exact⟨_,(a1),(IntKind.u64.wrap (a0+2870177450012600261)),qq_5,qq_5,H',⟨by first|omega|exact Nat.le_refl _⟩,⟨qq_b⟩⟩
 case rest =>
  clear J
  try clear c4
  try clear g
  try clear m
  obtain⟨kq,a,c,rfl,rfl,HA,HJ2,HB⟩:=hcut
  cases kq with
  | zero=>exact absurd HA.out (by simp[Qbf.j0])
  | succ kj2 =>
   have H:=HA.out;clear HA;simp only[Qbf.j0]at H;have H':=QA H;clear H;go_wp2
   go_loopg [1,6] kj2 (fun kq v1 v6 w'=>∃(a:ByteArray) (c:Int),v1=.string a∧v6=.int .u64 c∧Aside0 (Qbf.l0 kq a c=some r)∧Aside0 (kq≤kj2)∧Aside0 (Below w.heap.size w w'))
   case atStart=>exact⟨(a),(IntKind.u64.wrap (c+(IntKind.u64.wrap ((a1.size:Int))))),qq_5,qq_5,H',⟨Nat.le_refl _⟩,⟨qq_b⟩⟩
   case round =>
    clear H'
    try clear c4
    try clear g
    try clear m
    obtain⟨a,c,rfl,rfl,HA,HK2,HB⟩:=hrel
    cases gk with
    | zero=>exact absurd HA.out (by simp[Qbf.l0])
    | succ k2 =>
     have H:=HA.out;clear HA;simp only[Qbf.l0]at H
     by_cases c7:(a.size:Int)≥8
     ·rw[if_pos c7]at H;have u:decide (8≤(a.size:Int))=true:=decide_eq_true c7;have v:decide (8≤a.size)=true:=decide_eq_true (by omega);clear c7
      by_cases c8:0≤8
      ·rw[if_pos c8]at H;have K:=eq_true c8;have L:=decide_eq_true c8;clear c8
       by_cases c9:8≤(a.size:Int)
       ·rw[if_pos c9]at H;have M:=eq_true c9;have O:=decide_eq_true c9;clear c9;replace H:=Option.bind_eq_some_iff.mp H;obtain⟨x,P,H⟩:=H;have ap:=QA P;clear P;replace H:=Option.bind_eq_some_iff.mp H;obtain⟨y,T,H⟩:=H;have aq:=QA T;clear T;replace H:=Option.bind_eq_some_iff.mp H;obtain⟨U,W,H⟩:=H;have ar:=QA W;clear W;have D:=eq_true (of_decide_eq_true qq_2:8≤(a.size:Int));have H':=QA H;clear H
        go_wp2_with (first |((with_reducible refine Qim (f:=186) rfl ?_);refine Qgo (some 33) rfl rfl Tryz.func186 qq_4 rfl #[.string (a.extract 0 8)] rfl qq_1 ?_;(with_reducible refine(Qbc.calls k2 (a.extract 0 8) x _ ap.out).mono ?_);rintro e w' ⟨rfl,⟨nd,rfl⟩⟩;refine⟨_,rfl,?_⟩) |((with_reducible refine Qim (f:=191) rfl ?_);refine Qgo (some 34) rfl rfl Tryz.func191 qq_4 rfl #[.int .u64 0,.int .u64 x] rfl qq_1 ?_;(with_reducible refine(Qbh.calls k2 0 x y _ aq.out).mono ?_);rintro e w' ⟨rfl,⟨nd,rfl⟩⟩;refine⟨_,rfl,?_⟩) |((with_reducible refine Qim (f:=192) rfl ?_);refine Qgo (some 37) rfl rfl Tryz.func192 qq_4 rfl #[.int .u64 (Go.bits .xor .u64 c y),.int .i64 27] rfl qq_1 ?_;(with_reducible refine(Qbj.calls k2 (Go.bits .xor .u64 c y) 27 U _ ar.out).mono ?_);rintro e w' ⟨rfl,⟨nd,rfl⟩⟩;refine⟨_,rfl,?_⟩))
        go_roundg k2
        case measure=>have:=HJ2.out;have:=HK2.out;omega
        case rel=>exact⟨(a.extract 8 a.size),(IntKind.u64.wrap ((IntKind.u64.wrap (U*11400714785074694791))+9650029242287828579)),qq_5,qq_5,H',⟨by have:=HJ2.out;have:=HK2.out;omega⟩,⟨qq_b⟩⟩
       ·rw[if_neg c9]at H;exact absurd H (by simp)
      ·rw[if_neg c8]at H;exact absurd H (by simp)
     ·rw [if_neg c7]at H;have u:decide (8≤(a.size:Int))=false:=decide_eq_false c7;have v:decide (8≤a.size)=false:=decide_eq_false (by omega);clear c7;have H':=QA H;clear H;go_wp2
      go_loopg [1,6] k2 (fun kq v1 v6 w'=>∃(b:ByteArray) (l:Int),v1=.string b∧v6=.int .u64 l∧Aside0 (Qbf.l1 kq b l=some r)∧Aside0 (kq≤k2)∧Aside0 (Below w.heap.size w w'))
      case atStart=>exact⟨(a),(c),qq_5,qq_5,H',⟨Nat.le_refl _⟩,⟨qq_b⟩⟩
      case round =>
       clear H'
       try clear c4
       try clear g
       try clear m
       try clear c7
       try clear u
       try clear v
       try clear c8
       try clear K
       try clear L
       try clear c9
       try clear M
       try clear O
       try clear D
       obtain⟨b,l,rfl,rfl,HA,HK3,HB⟩:=hrel
       cases gk with
       | zero=>exact absurd HA.out (by simp[Qbf.l1])
       | succ k3 =>
        have H:=HA.out;clear HA;simp only[Qbf.l1]at H
        by_cases n:(b.size:Int)≥4
        ·rw[if_pos n]at H;have E:decide (4≤(b.size:Int))=true:=decide_eq_true n;have G:decide (4≤b.size)=true:=decide_eq_true (by omega);clear n
         by_cases o:0≤4
         ·rw[if_pos o]at H;have af:=eq_true o;have ag:=decide_eq_true o;clear o
          by_cases p:4≤(b.size:Int)
          ·rw[if_pos p]at H;have ah:=eq_true p;have ai:=decide_eq_true p;clear p;replace H:=Option.bind_eq_some_iff.mp H;obtain⟨z,X,H⟩:=H;have au:=QA X;clear X;replace H:=Option.bind_eq_some_iff.mp H;obtain⟨Y,Z,H⟩:=H;have av:=QA Z;clear Z;have aj:=eq_true (of_decide_eq_true qq_2:4≤(b.size:Int));have H':=QA H;clear H
           go_wp2_with (first |((with_reducible refine Qim (f:=186) rfl ?_);refine Qgo (some 47) rfl rfl Tryz.func186 qq_4 rfl #[.string (b.extract 0 4)] rfl qq_1 ?_;(with_reducible refine(Qbc.calls k3 (b.extract 0 4) z _ au.out).mono ?_);rintro e w' ⟨rfl,⟨nd,rfl⟩⟩;refine⟨_,rfl,?_⟩) |((with_reducible refine Qim (f:=192) rfl ?_);refine Qgo (some 52) rfl rfl Tryz.func192 qq_4 rfl #[.int .u64 (Go.bits .xor .u64 l (IntKind.u64.wrap (z*11400714785074694791))),.int .i64 23] rfl qq_1 ?_;(with_reducible refine(Qbj.calls k3 (Go.bits .xor .u64 l (IntKind.u64.wrap (z*11400714785074694791))) 23 Y _ av.out).mono ?_);rintro e w' ⟨rfl,⟨nd,rfl⟩⟩;refine⟨_,rfl,?_⟩))
           go_roundg k3
           case measure=>have:=HJ2.out;have:=HK2.out;have:=HK3.out;omega
           case rel=>exact⟨(b.extract 4 b.size),(IntKind.u64.wrap ((IntKind.u64.wrap (Y*14029467366897019727))+1609587929392839161)),qq_5,qq_5,H',⟨by have:=HJ2.out;have:=HK2.out;have:=HK3.out;omega⟩,⟨qq_b⟩⟩
          ·rw[if_neg p]at H;exact absurd H (by simp)
         ·rw[if_neg o]at H;exact absurd H (by simp)
        ·rw [if_neg n]at H;have E:decide (4≤(b.size:Int))=false:=decide_eq_false n;have G:decide (4≤b.size)=false:=decide_eq_false (by omega);clear n;have H':=QA H;clear H;go_wp2
         go_loopg [6,8] k3 (fun kq v6 v8 w'=>∃(j:Int) (d:Int),v6=.int .u64 j∧v8=.int .i64 d∧Aside0 (Qbf.l2 kq b j d=some r)∧Aside0 (kq≤k3)∧Aside0 (Below w.heap.size w w'))
         case atStart=>exact⟨(l),(0),qq_5,qq_5,H',⟨Nat.le_refl _⟩,⟨qq_b⟩⟩
         case round =>
          clear H'
          try clear c4
          try clear g
          try clear m
          try clear c7
          try clear u
          try clear v
          try clear c8
          try clear K
          try clear L
          try clear c9
          try clear M
          try clear O
          try clear D
          try clear n
          try clear E
          try clear G
          try clear o
          try clear af
          try clear ag
          try clear p
          try clear ah
          try clear ai
          try clear aj
          obtain⟨j,d,rfl,rfl,HA,HK4,HB⟩:=hrel
          cases gk with
          | zero=>exact absurd HA.out (by simp[Qbf.l2])
          | succ k4 =>
           have H:=HA.out;clear HA;simp only[Qbf.l2]at H
           by_cases q:d<(b.size:Int)
           ·rw[if_pos q]at H;have ak:=decide_eq_true q;clear q
            by_cases I:0≤d
            ·rw[if_pos I]at H;have aA:=decide_eq_true I;clear I;replace H:=Option.bind_eq_some_iff.mp H;obtain⟨aa,ab,H⟩:=H;have aw:=QA ab;clear ab;have H':=QA H;clear H;have am:0≤(d:Int):=of_decide_eq_true qq_2;have an:d<(b.size:Int):=of_decide_eq_true qq_2;have aB:=Qcr b d;replace am:=eq_true am;replace an:=eq_true an
             go_wp2_with (first |((with_reducible refine Qim (f:=192) rfl ?_);refine Qgo (some 71) rfl rfl Tryz.func192 qq_4 rfl #[.int .u64 (Go.bits .xor .u64 j (IntKind.u64.wrap ((IntKind.u64.wrap (bt b d))*2870177450012600261))),.int .i64 11] rfl qq_1 ?_;(with_reducible refine(Qbj.calls k4 (Go.bits .xor .u64 j (IntKind.u64.wrap ((IntKind.u64.wrap (bt b d))*2870177450012600261))) 11 aa _ aw.out).mono ?_);rintro e w' ⟨rfl,⟨nd,rfl⟩⟩;refine⟨_,rfl,?_⟩))
             go_roundg k4
             case measure=>have:=HJ2.out;have:=HK2.out;have:=HK3.out;have:=HK4.out;omega
             case rel=>exact⟨(IntKind.u64.wrap (aa*11400714785074694791)),(wrap64 (d+1)),qq_5,qq_5,H',⟨by have:=HJ2.out;have:=HK2.out;have:=HK3.out;have:=HK4.out;omega⟩,⟨qq_b⟩⟩
            ·rw[if_neg I]at H;exact absurd H (by simp)
           ·rw[if_neg q]at H;have ak:=decide_eq_false q;clear q;replace H:=Option.bind_eq_some_iff.mp H;obtain⟨A,ac,H⟩:=H;have ax:=QA ac;clear ac;replace H:=Option.bind_eq_some_iff.mp H;obtain⟨B,ad,H⟩:=H;have ay:=QA ad;clear ad;replace H:=Option.bind_eq_some_iff.mp H;obtain⟨ao,ae,H⟩:=H;have az:=QA ae;clear ae;obtain rfl:=Option.some.inj H
            go_wp2_with (first |((with_reducible refine Qim (f:=193) rfl ?_);refine Qgo (some 74) rfl rfl Tryz.func193 qq_4 rfl #[.int .u64 j,.int .i64 33] rfl qq_1 ?_;(with_reducible refine(Qbi.calls k4 j 33 A _ ax.out).mono ?_);rintro e w' ⟨rfl,⟨nd,rfl⟩⟩;refine⟨_,rfl,?_⟩) |((with_reducible refine Qim (f:=193) rfl ?_);refine Qgo (some 77) rfl rfl Tryz.func193 qq_4 rfl #[.int .u64 (IntKind.u64.wrap (A*14029467366897019727)),.int .i64 29] rfl qq_1 ?_;(with_reducible refine(Qbi.calls k4 (IntKind.u64.wrap (A*14029467366897019727)) 29 B _ ay.out).mono ?_);rintro e w' ⟨rfl,⟨nd,rfl⟩⟩;refine⟨_,rfl,?_⟩) |((with_reducible refine Qim (f:=193) rfl ?_);refine Qgo (some 80) rfl rfl Tryz.func193 qq_4 rfl #[.int .u64 (IntKind.u64.wrap (B*1609587929392839161)),.int .i64 32] rfl qq_1 ?_;(with_reducible refine(Qbi.calls k4 (IntKind.u64.wrap (B*1609587929392839161)) 32 ao _ az.out).mono ?_);rintro e w' ⟨rfl,⟨nd,rfl⟩⟩;refine⟨_,rfl,?_⟩))
            go_ret
            exact⟨qq_6,qq_b⟩
def Qbl.f(k:Nat)(a0_0:Bool)(a0_1:Int)(a0_2:ByteArray)(a0_3:ByteArray):Option (ByteArray):=if a0_0=true then((Qbd.f k a0_1).bind fun t156=>(if 1+t156.size≤9223372036854775807 then((Qbe.f k a0_2).bind fun t157=>(if((⟨#[3]⟩:ByteArray)++t156).size+t157.size≤9223372036854775807 then(some (((⟨#[3]⟩:ByteArray)++t156)++t157))else(none)))else(none)))else((Qbd.f k a0_1).bind fun t158=>(if 1+t158.size≤9223372036854775807 then((Qbe.f k a0_2).bind fun t159=>(if((⟨#[2]⟩:ByteArray)++t158).size+t159.size≤9223372036854775807 then((Qbe.f k a0_3).bind fun t160=>(if(((⟨#[2]⟩:ByteArray)++t158)++t159).size+t160.size≤9223372036854775807 then(some ((((⟨#[2]⟩:ByteArray)++t158)++t159)++t160))else(none)))else(none)))else(none)))
def Qbl.T2:Bool × List (List Nat × List Nat):=(true,[([],[]),([0],[0]),([1],[1]),([2],[2]),([],[]),([4],[4]),([5,2],[5]),([3,6],[3,6]),([7,6,0,1,2,3,4,5,6,7],[7])])
def Qbl.B2:List Nat:=[0,1,3,7,0,16,55,127,255]
theorem Qbl.tab2:rtab .any (Qhw Tryz.f82 2)=Qbl.T2:=by kernel_rfl
theorem Qbl.bits2:Qhq Qbl.T2.2 Qbl.B2=true:=by kernel_rfl
def Qbl.T3:Bool × List (List Nat × List Nat):=(true,[([],[]),([0],[0]),([1],[1]),([2],[2]),([],[]),([4],[4]),([5,2],[5]),([3,6],[3,6]),([],[]),([8],[8]),([9,6],[9]),([7,10],[7,10]),([11,10,0,1,2,3,4,5,6,7,8,9,10,11],[11])])
def Qbl.B3:List Nat:=[0,1,3,7,0,16,55,127,0,256,887,2047,4095]
theorem Qbl.tab3:rtab .any (Qhw Tryz.f82 3)=Qbl.T3:=by kernel_rfl
theorem Qbl.bits3:Qhq Qbl.T3.2 Qbl.B3=true:=by kernel_rfl
theorem Qbl.calls(k:Nat)(u:Bool)(c:Int)(d:ByteArray)(l:ByteArray)(r:ByteArray)(w:World)(h:Qbl.f k u c d l=some r) :
  Calls Tryz.prog 82 #[.agg #[.bool u,.int .u64 c,.string d,.string l]] w fun e w'=>e=.returned (.string r)∧Below w.heap.size w w':=by
 have hu37:=Tryz.underlying37;have HB:=QA (Below.refl w.heap.size w);have H:(if u=true then((Qbd.f k c).bind fun p=>(if 1+p.size≤9223372036854775807 then((Qbe.f k d).bind fun s=>(if((⟨#[3]⟩:ByteArray)++p).size+s.size≤9223372036854775807 then(some (((⟨#[3]⟩:ByteArray)++p)++s))else(none)))else(none)))else((Qbd.f k c).bind fun m=>(if 1+m.size≤9223372036854775807 then((Qbe.f k d).bind fun q=>(if((⟨#[2]⟩:ByteArray)++m).size+q.size≤9223372036854775807 then((Qbe.f k l).bind fun t=>(if(((⟨#[2]⟩:ByteArray)++m)++q).size+t.size≤9223372036854775807 then(some ((((⟨#[2]⟩:ByteArray)++m)++q)++t))else(none)))else(none)))else(none))))=some r:=h;clear h
 by_cases c2:u=true
 ·subst c2;rw[if_pos rfl]at H;replace H:=Option.bind_eq_some_iff.mp H;obtain⟨p,T,H⟩:=H;have A3:=QA T;clear T
  by_cases c4:1+p.size≤9223372036854775807
  ·rw[if_pos c4]at H;have au:=eq_true c4;have av:=decide_eq_true c4
   try have aw:(9223372036854775807<1+p.size)=False:=eq_false (Nat.not_lt.2 c4)
   replace H:=Option.bind_eq_some_iff.mp H;obtain⟨s,U,H⟩:=H;have A5:=QA U;clear U
   by_cases c6:((⟨#[3]⟩:ByteArray)++p).size+s.size≤9223372036854775807
   ·rw[if_pos c6]at H;have ax:=eq_true c6;have ay:=decide_eq_true c6
    try have B:(9223372036854775807<((⟨#[3]⟩:ByteArray)++p).size+s.size)=False:=eq_false (Nat.not_lt.2 c6)
    try have W:=B
    try simp only[ByteArray.size_append,(show ∀x_:UInt8,(⟨#[x_]⟩:ByteArray).size=1 from fun _=>rfl),(show ∀x_ y_:UInt8,(⟨#[x_,y_]⟩:ByteArray).size=2 from fun _ _=>rfl)]at W
    try have X:=B
    try simp only[ByteArray.size_append,ByteArray.size_extract,(show ∀x_:UInt8,(⟨#[x_]⟩:ByteArray).size=1 from fun _=>rfl),(show ∀x_ y_:UInt8,(⟨#[x_,y_]⟩:ByteArray).size=2 from fun _ _=>rfl)]at X
    obtain rfl:=Option.some.inj H
    go_enter Tryz.func82,Tryz.ntmps82
    try go_wp2_with (first |((with_reducible refine Qft (N:=1) rfl ?_);refine qq_e 1 #[.bool true,.int .u64 c,.string d,.string l] 37 ?_;intro b hg w7 hbox hb;have n_:=qn4 (Qfi qq_b hb) (hbox) (qq_s hg:w.heap.size≤b) (qq_s hg:w.heap.size≤b);clear HB;obtain⟨HB,a,I,J⟩:=n_;clear hb hbox hg;obtain⟨ac,ad,ae,af⟩:=qc4 a.out;have az:=Qds a.out))
    have n_:=qn2 (Qee a.out) (Qfo HB.out);clear a HB;obtain⟨a,HB⟩:=n_;refine Qgf (n:=9) (S:=fun w'=>w'.cell? ⟨b,0,none⟩=some (.bool true)∧w'.cell? ⟨b,1,none⟩=some (.int .u64 c)∧w'.cell? ⟨b,2,none⟩=some (.string d)∧w'.cell? ⟨b,3,none⟩=some (.string l)) (ds:=[]) (bm 9 0) qq_4 rfl rfl ⟨(Qdr a.out 0).trans rfl,(Qdr a.out 1).trans rfl,(Qdr a.out 2).trans rfl,(Qdr a.out 3).trans rfl⟩ (fun j=>?_);refine Qhu Qbl.tab2 Qbl.bits2 (fun HT_ HW_=>?_);generalize w7.drew=w9 at a HB j ⊢;refine pz_ (i:=0) (N:=some 5) (bm 9 1) (Qhm HT_.out qq_4) ?_;refine pz_ (i:=4) (N:=some 9) (bm 9 17) (Qhm HT_.out qq_4) ?_;refine tz_ (i:=1) (N:=some 6) (bm 9 19) (Qht HT_.out HW_.out qq_4) j ?_;refine tz_ (i:=5) (N:=some 10) (bm 9 51) (Qht HT_.out HW_.out qq_4) j ?_;refine one_ (i:=2) (N:=some 7) (bm 9 55) rfl rfl (Qhn HT_.out qq_4) (by decide) (fun K hK=>?_);refine Qgn Tryz.func135 qq_4 rfl #[.int .u64 c] (by rfl) rfl rfl qq_1 ?_;with_reducible refine(Qbd.calls k c p _ A3.out).mono ?_
    rintro e aA ⟨rfl,hb⟩;refine⟨_,rfl,?_⟩;have n_:=qn2 (Qeg (g:=b) (o:=.cells #[.bool true,.int .u64 c,.string d,.string l] 37 (0,0)) qq_0 hb) (Qfi qq_b hb);clear a HB;obtain⟨a,HB⟩:=n_
    (try clear hb)
    (try clear hb2)
    (try clear hk)
    (try clear hi)
    refine hK.out _ _ ⟨(Qdr a.out 0).trans rfl,(Qdr a.out 1).trans rfl,(Qdr a.out 2).trans rfl,(Qdr a.out 3).trans rfl⟩ (fun j=>?_);clear hK K;refine nzp_ 7 ?_;refine pz_ (i:=3) (N:=some 8) (bm 9 63) (Qhm HT_.out qq_4) ?_;refine one_ (i:=6) (N:=some 11) (bm 9 127) rfl rfl (Qhn HT_.out qq_4) (by decide) (fun K hK=>?_);refine Qgn Tryz.func136 qq_4 rfl #[.string d] (by rfl) rfl rfl qq_1 ?_;with_reducible refine(Qbe.calls k d s _ A5.out).mono ?_
    rintro e aB ⟨rfl,hb⟩;refine⟨_,rfl,?_⟩;have n_:=qn2 (Qeg (g:=b) (o:=.cells #[.bool true,.int .u64 c,.string d,.string l] 37 (0,0)) qq_0 hb) (Qfi qq_b hb);clear a HB;obtain⟨a,HB⟩:=n_
    (try clear hb)
    (try clear hb2)
    (try clear hk)
    (try clear hi)
    refine hK.out _ _ ⟨(Qdr a.out 0).trans rfl,(Qdr a.out 1).trans rfl,(Qdr a.out 2).trans rfl,(Qdr a.out 3).trans rfl⟩ (fun j=>?_);clear hK K;refine nzp_ 11 ?_;refine pz_ (i:=7) (N:=some 12) (bm 9 255) (Qhm HT_.out qq_4) ?_;refine pz_ (i:=8) (N:=some 2) (bm 9 511) (Qhm HT_.out qq_4) ?_;refine Qgj (Qhp HT_.out qq_4) ?_
    try go_wp2
    go_ret
    exact⟨qq_6,qq_b⟩
   ·rw[if_neg c6]at H;exact absurd H (by simp)
  ·rw[if_neg c4]at H;exact absurd H (by simp)
 ·replace c2:=Bool.eq_false_iff.mpr c2;subst c2;rw[if_neg (show ¬(false=true)by decide)]at H;replace H:=Option.bind_eq_some_iff.mp H;obtain⟨m,D,H⟩:=H;have ag:=QA D;clear D
  by_cases v:1+m.size≤9223372036854775807
  ·rw[if_pos v]at H;have ak:=eq_true v;have al:=decide_eq_true v
   try have am:(9223372036854775807<1+m.size)=False:=eq_false (Nat.not_lt.2 v)
   replace H:=Option.bind_eq_some_iff.mp H;obtain⟨q,E,H⟩:=H;have ah:=QA E;clear E
   by_cases x:((⟨#[2]⟩:ByteArray)++m).size+q.size≤9223372036854775807
   ·rw[if_pos x]at H;have an:=eq_true x;have ao:=decide_eq_true x
    try have z:(9223372036854775807<((⟨#[2]⟩:ByteArray)++m).size+q.size)=False:=eq_false (Nat.not_lt.2 x)
    try have L:=z
    try simp only[ByteArray.size_append,(show ∀x_:UInt8,(⟨#[x_]⟩:ByteArray).size=1 from fun _=>rfl),(show ∀x_ y_:UInt8,(⟨#[x_,y_]⟩:ByteArray).size=2 from fun _ _=>rfl)]at L
    try have M:=z
    try simp only[ByteArray.size_append,ByteArray.size_extract,(show ∀x_:UInt8,(⟨#[x_]⟩:ByteArray).size=1 from fun _=>rfl),(show ∀x_ y_:UInt8,(⟨#[x_,y_]⟩:ByteArray).size=2 from fun _ _=>rfl)]at M
    replace H:=Option.bind_eq_some_iff.mp H;obtain⟨t,G,H⟩:=H;have ai:=QA G;clear G
    by_cases y:(((⟨#[2]⟩:ByteArray)++m)++q).size+t.size≤9223372036854775807
    ·rw[if_pos y]at H;have ap:=eq_true y;have aq:=decide_eq_true y
     try have A:(9223372036854775807<(((⟨#[2]⟩:ByteArray)++m)++q).size+t.size)=False:=eq_false (Nat.not_lt.2 y)
     try have O:=A
     try simp only[ByteArray.size_append,(show ∀x_:UInt8,(⟨#[x_]⟩:ByteArray).size=1 from fun _=>rfl),(show ∀x_ y_:UInt8,(⟨#[x_,y_]⟩:ByteArray).size=2 from fun _ _=>rfl)]at O
     try have P:=A
     try simp only[ByteArray.size_append,ByteArray.size_extract,(show ∀x_:UInt8,(⟨#[x_]⟩:ByteArray).size=1 from fun _=>rfl),(show ∀x_ y_:UInt8,(⟨#[x_,y_]⟩:ByteArray).size=2 from fun _ _=>rfl)]at P
     obtain rfl:=Option.some.inj H
     go_enter Tryz.func82,Tryz.ntmps82
     try go_wp2_with (first |((with_reducible refine Qft (N:=1) rfl ?_);refine qq_e 1 #[.bool false,.int .u64 c,.string d,.string l] 37 ?_;intro b hg aj hbox hb;have n_:=qn4 (Qfi qq_b hb) (hbox) (qq_s hg:w.heap.size≤b) (qq_s hg:w.heap.size≤b);clear HB;obtain⟨HB,a,I,J⟩:=n_;clear hb hbox hg;obtain⟨Y,Z,aa,ab⟩:=qc4 a.out;have ar:=Qds a.out))
     have n_:=qn2 (Qee a.out) (Qfo HB.out);clear a HB;obtain⟨a,HB⟩:=n_;refine Qgf (n:=13) (S:=fun w'=>w'.cell? ⟨b,0,none⟩=some (.bool false)∧w'.cell? ⟨b,1,none⟩=some (.int .u64 c)∧w'.cell? ⟨b,2,none⟩=some (.string d)∧w'.cell? ⟨b,3,none⟩=some (.string l)) (ds:=[]) (bm 13 0) qq_4 rfl rfl ⟨(Qdr a.out 0).trans rfl,(Qdr a.out 1).trans rfl,(Qdr a.out 2).trans rfl,(Qdr a.out 3).trans rfl⟩ (fun j=>?_);refine Qhu Qbl.tab3 Qbl.bits3 (fun HT_ HW_=>?_);generalize aj.drew=w20 at a HB j ⊢;refine pz_ (i:=0) (N:=some 13) (bm 13 1) (Qhm HT_.out qq_4) ?_;refine pz_ (i:=4) (N:=some 17) (bm 13 17) (Qhm HT_.out qq_4) ?_;refine pz_ (i:=8) (N:=some 21) (bm 13 273) (Qhm HT_.out qq_4) ?_;refine tz_ (i:=1) (N:=some 14) (bm 13 275) (Qht HT_.out HW_.out qq_4) j ?_;refine tz_ (i:=5) (N:=some 18) (bm 13 307) (Qht HT_.out HW_.out qq_4) j ?_;refine tz_ (i:=9) (N:=some 22) (bm 13 819) (Qht HT_.out HW_.out qq_4) j ?_;refine one_ (i:=2) (N:=some 15) (bm 13 823) rfl rfl (Qhn HT_.out qq_4) (by decide) (fun K hK=>?_);refine Qgn Tryz.func135 qq_4 rfl #[.int .u64 c] (by rfl) rfl rfl qq_1 ?_;with_reducible refine(Qbd.calls k c m _ ag.out).mono ?_
     rintro e aC ⟨rfl,hb⟩;refine⟨_,rfl,?_⟩;have n_:=qn2 (Qeg (g:=b) (o:=.cells #[.bool false,.int .u64 c,.string d,.string l] 37 (0,0)) qq_0 hb) (Qfi qq_b hb);clear a HB;obtain⟨a,HB⟩:=n_
     (try clear hb)
     (try clear hb2)
     (try clear hk)
     (try clear hi)
     refine hK.out _ _ ⟨(Qdr a.out 0).trans rfl,(Qdr a.out 1).trans rfl,(Qdr a.out 2).trans rfl,(Qdr a.out 3).trans rfl⟩ (fun j=>?_);clear hK K;refine nzp_ 15 ?_;refine pz_ (i:=3) (N:=some 16) (bm 13 831) (Qhm HT_.out qq_4) ?_;refine one_ (i:=6) (N:=some 19) (bm 13 895) rfl rfl (Qhn HT_.out qq_4) (by decide) (fun K hK=>?_);refine Qgn Tryz.func136 qq_4 rfl #[.string d] (by rfl) rfl rfl qq_1 ?_;with_reducible refine(Qbe.calls k d q _ ah.out).mono ?_
     rintro e aD ⟨rfl,hb⟩;refine⟨_,rfl,?_⟩;have n_:=qn2 (Qeg (g:=b) (o:=.cells #[.bool false,.int .u64 c,.string d,.string l] 37 (0,0)) qq_0 hb) (Qfi qq_b hb);clear a HB;obtain⟨a,HB⟩:=n_
     (try clear hb)
     (try clear hb2)
     (try clear hk)
     (try clear hi)
     refine hK.out _ _ ⟨(Qdr a.out 0).trans rfl,(Qdr a.out 1).trans rfl,(Qdr a.out 2).trans rfl,(Qdr a.out 3).trans rfl⟩ (fun j=>?_);clear hK K;refine nzp_ 19 ?_;refine pz_ (i:=7) (N:=some 20) (bm 13 1023) (Qhm HT_.out qq_4) ?_;refine one_ (i:=10) (N:=some 23) (bm 13 2047) rfl rfl (Qhn HT_.out qq_4) (by decide) (fun K hK=>?_);refine Qgn Tryz.func136 qq_4 rfl #[.string l] (by rfl) rfl rfl qq_1 ?_;with_reducible refine(Qbe.calls k l t _ ai.out).mono ?_
     rintro e aE ⟨rfl,hb⟩;refine⟨_,rfl,?_⟩;have n_:=qn2 (Qeg (g:=b) (o:=.cells #[.bool false,.int .u64 c,.string d,.string l] 37 (0,0)) qq_0 hb) (Qfi qq_b hb);clear a HB;obtain⟨a,HB⟩:=n_
     (try clear hb)
     (try clear hb2)
     (try clear hk)
     (try clear hi)
     refine hK.out _ _ ⟨(Qdr a.out 0).trans rfl,(Qdr a.out 1).trans rfl,(Qdr a.out 2).trans rfl,(Qdr a.out 3).trans rfl⟩ (fun j=>?_);clear hK K;refine nzp_ 23 ?_;refine pz_ (i:=11) (N:=some 24) (bm 13 4095) (Qhm HT_.out qq_4) ?_;refine pz_ (i:=12) (N:=some 2) (bm 13 8191) (Qhm HT_.out qq_4) ?_;refine Qgj (Qhp HT_.out qq_4) ?_
     try go_wp2
     go_ret
     exact⟨qq_6,qq_b⟩
    ·rw[if_neg y]at H;exact absurd H (by simp)
   ·rw[if_neg x]at H;exact absurd H (by simp)
  ·rw[if_neg v]at H;exact absurd H (by simp)
def Qbn.f(k:Nat)(a0:ByteArray):Option (ByteArray):=(Qbf.f k 0 a0).bind fun t145=>((Qbb.f k t145 8).bind fun t146=>(if a0.size+t146.size≤9223372036854775807 then((Qbk.f k (a0++t146)).bind fun t147=>(if t147.size+1≤9223372036854775807 then(some (t147++(⟨#[0]⟩:ByteArray)))else(none)))else(none)))
theorem Qbn.calls(k:Nat)(a0:ByteArray)(r:ByteArray)(w:World)(h:Qbn.f k a0=some r) :
  Calls Tryz.prog 81 #[.string a0] w fun e w'=>e=.returned (.string r)∧Below w.heap.size w w':=by
 have HB:=QA (Below.refl w.heap.size w);have H:((Qbf.f k 0 a0).bind fun c=>((Qbb.f k c 8).bind fun a=>(if a0.size+a.size≤9223372036854775807 then((Qbk.f k (a0++a)).bind fun b=>(if b.size+1≤9223372036854775807 then(some (b++(⟨#[0]⟩:ByteArray)))else(none)))else(none))))=some r:=h;clear h;replace H:=Option.bind_eq_some_iff.mp H;obtain⟨c,d,H⟩:=H;have A2:=QA d;clear d;replace H:=Option.bind_eq_some_iff.mp H;obtain⟨a,g,H⟩:=H;have A3:=QA g;clear g
 by_cases c4:a0.size+a.size≤9223372036854775807
 ·rw[if_pos c4]at H;have l:=eq_true c4;have m:=decide_eq_true c4
  try have n:(9223372036854775807<a0.size+a.size)=False:=eq_false (Nat.not_lt.2 c4)
  replace H:=Option.bind_eq_some_iff.mp H;obtain⟨b,j,H⟩:=H;have A5:=QA j;clear j
  by_cases c6:b.size+1≤9223372036854775807
  ·rw[if_pos c6]at H;have o:=eq_true c6;have p:=decide_eq_true c6
   try have q:(9223372036854775807<b.size+1)=False:=eq_false (Nat.not_lt.2 c6)
   obtain rfl:=Option.some.inj H
   go_enter Tryz.func81,Tryz.ntmps81
   go_wp2_with (first |((with_reducible refine Qim (f:=134) rfl ?_);refine Qgo (some 5) rfl rfl Tryz.func134 qq_4 rfl #[.int .u64 0,.string a0] rfl qq_1 ?_;(with_reducible refine(Qbf.calls k 0 a0 c _ A2.out).mono ?_);rintro e w7 ⟨rfl,hb⟩;refine⟨_,rfl,?_⟩;have n_:=qn1 (Qfi qq_b hb);clear HB;have HB:=n_;clear n_;(try clear hb);(try clear hb2);(try clear hk);(try clear hi)) |((with_reducible refine Qim (f:=133) rfl ?_);refine Qgo (some 6) rfl rfl Tryz.func133 qq_4 rfl #[.int .u64 c,.int .i64 8] rfl qq_1 ?_;(with_reducible refine(Qbb.calls k c 8 a _ A3.out).mono ?_);rintro e w8 ⟨rfl,hb⟩;refine⟨_,rfl,?_⟩;have n_:=qn1 (Qfi qq_b hb);clear HB;have HB:=n_;clear n_;(try clear hb);(try clear hb2);(try clear hk);(try clear hi)) |((with_reducible refine Qim (f:=132) rfl ?_);refine Qgo (some 8) rfl rfl Tryz.func132 qq_4 rfl #[.string (a0++a)] rfl qq_1 ?_;(with_reducible refine(Qbk.calls k (a0++a) b _ A5.out).mono ?_);rintro e w9 ⟨rfl,hb⟩;refine⟨_,rfl,?_⟩;have n_:=qn1 (Qfi qq_b hb);clear HB;have HB:=n_;clear n_;(try clear hb);(try clear hb2);(try clear hk);(try clear hi)))
   go_ret
   exact⟨qq_6,qq_b⟩
  ·rw[if_neg c6]at H;exact absurd H (by simp)
 ·rw[if_neg c4]at H;exact absurd H (by simp)
def Qbm.f(k:Nat)(a0_0:Bool)(a0_1:Int)(a0_2:ByteArray)(a0_3:ByteArray):Option (ByteArray):=(Qbl.f k a0_0 a0_1 a0_2 a0_3).bind fun t162=>((Qbn.f k t162).bind fun t163=>(some t163))
theorem Qbm.calls(k:Nat)(a:Bool)(b:Int)(c:ByteArray)(d:ByteArray)(r:ByteArray)(w:World)(h:Qbm.f k a b c d=some r) :
  Calls Tryz.prog 37 #[.agg #[.bool a,.int .u64 b,.string c,.string d]] w fun e w'=>e=.returned (.string r)∧Below w.heap.size w w':=by
 have hu37:=Tryz.underlying37;have HB:=QA (Below.refl w.heap.size w);have H:((Qbl.f k a b c d).bind fun m=>((Qbn.f k m).bind fun n=>(some n)))=some r:=h;clear h;replace H:=Option.bind_eq_some_iff.mp H;obtain⟨m,p,H⟩:=H;have A2:=QA p;clear p;replace H:=Option.bind_eq_some_iff.mp H;obtain⟨n,q,H⟩:=H;have A3:=QA q;clear q;obtain rfl:=Option.some.inj H
 go_enter Tryz.func37,Tryz.ntmps37
 go_wp2_with (first |((with_reducible refine Qft (N:=1) rfl ?_);refine qq_e 1 #[.bool a,.int .u64 b,.string c,.string d] 37 ?_;intro l hg w4 hbox hb;have n_:=qn4 (Qfi qq_b hb) (hbox) (qq_s hg:w.heap.size≤l) (qq_s hg:w.heap.size≤l);clear HB;obtain⟨HB,j,x,y⟩:=n_;clear hb hbox hg;obtain⟨s,t,u,v⟩:=qc4 j.out;have z:=Qds j.out) |((with_reducible refine Qim (f:=82) rfl ?_);refine Qgo (some 4) rfl rfl Tryz.func82 qq_4 rfl #[.agg #[.bool a,.int .u64 b,.string c,.string d]] rfl qq_1 ?_;(with_reducible refine(Qbl.calls k a b c d m _ A2.out).mono ?_);rintro e w6 ⟨rfl,hb⟩;refine⟨_,rfl,?_⟩;have n_:=qn2 (Qeg (g:=l) (o:=.cells #[.bool a,.int .u64 b,.string c,.string d] 37 (0,0)) qq_0 hb) (Qfi qq_b hb);clear j HB;obtain⟨j,HB⟩:=n_;(try clear hb);(try clear hb2);(try clear hk);(try clear hi)) |((with_reducible refine Qim (f:=81) rfl ?_);refine Qgo (some 5) rfl rfl Tryz.func81 qq_4 rfl #[.string m] rfl qq_1 ?_;(with_reducible refine(Qbn.calls k m n _ A3.out).mono ?_);rintro e w7 ⟨rfl,hb⟩;refine⟨_,rfl,?_⟩;have n_:=qn2 (Qeg (g:=l) (o:=.cells #[.bool a,.int .u64 b,.string c,.string d] 37 (0,0)) qq_0 hb) (Qfi qq_b hb);clear j HB;obtain⟨j,HB⟩:=n_;(try clear hb);(try clear hb2);(try clear hk);(try clear hi)))
 go_ret
 exact⟨qq_6,qq_b⟩
def fascicleref09_Head.T1:Bool × List (List Nat × List Nat):=(true,[([],[]),([0],[0]),([1],[1]),([2],[2]),([3],[3]),([],[]),([5],[5]),([6],[6]),([7],[7]),([4,8],[4,8]),([],[]),([10,8],[10]),([9,11],[9,11]),([12,11],[12]),([13,13,0,1,2,3,4,5,6,7,8,9,10,11,12,13],[13])])
def fascicleref09_Head.B1:List Nat:=[0,1,3,7,15,0,32,96,224,511,0,1504,4095,8191,16383]
def fascicleref14_Empty.T1:Bool × List (List Nat × List Nat):=(true,[([],[]),([],[]),([],[]),([],[]),([2,3],[2,3]),([4],[4]),([0,1,5],[0,1,5]),([6,4,0,1,2,3,4,5,6],[6])])
def fascicleref14_Empty.B1:List Nat:=[0,0,0,0,12,28,63,127]
def fascicleref09_Open.T7:Bool × List (List Nat × List Nat):=(true,[([],[]),([],[]),([0,1],[0,1]),([2],[2]),([],[]),([],[]),([4,5],[4,5]),([6,3],[6]),([3,7],[3,7])])
def fascicleref09_Open.B7:List Nat:=[0,0,3,7,0,0,48,127,255]
def fascicleref13_Text.T1:Bool × List (List Nat × List Nat):=(true,[([],[]),([0],[0]),([1],[1]),([2],[2]),([3],[3]),([4],[4]),([],[]),([6],[6]),([7],[7]),([8,4],[8]),([5,9],[5,9]),([10,9,0,1,2,3,4,5,6,7,8,9,10],[10])])
def fascicleref13_Text.B1:List Nat:=[0,1,3,7,15,31,0,64,192,479,1023,2047]
def fascicleref13_Text.T2:Bool × List (List Nat × List Nat):=(true,[([],[]),([],[]),([1],[1]),([2],[2]),([0,3],[0,3]),([],[]),([5],[5]),([6,3],[6]),([7,7],[7]),([4,8],[4,8]),([9,8],[9]),([10,10,0,1,2,3,4,5,6,7,8,9,10],[10])])
def fascicleref13_Text.B2:List Nat:=[0,0,2,6,15,0,32,110,238,511,1023,2047]
end Go.Proofs.YteaocbonofboeaaGreat.C
end
