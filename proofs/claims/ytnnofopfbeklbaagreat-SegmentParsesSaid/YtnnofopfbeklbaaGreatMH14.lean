/- Texts of this claim's author and of the print of its functions, merged by merge.py. -/
import Derived.Test.YtnnofopfbeklbaaGreatMH02
import Derived.Test.YtnnofopfbeklbaaGreatMH11
import Derived.Test.YtnnofopfbeklbaaGreatMH03
set_option linter.unusedVariables false
set_option linter.unusedSimpArgs false
set_option maxHeartbeats 8000000
set_option maxRecDepth 100000
section
namespace Go.Proofs.YtnnofopfbeklbaaGreat.C
open Go.RowKit Go.Proofs.YtnnofopfbeklbaaGreatW.PrintWords Go.Proofs.YtnnofopfbeklbaaGreatW.PrintLast Go.Proofs.YtnnofopfbeklbaaGreatW.PrintMore
attribute [local go_sem] Qif Qig Qih Qii Qij Qik Qil Qim
mutual
def Qbd.j0:Nat→ByteArray→Int→Int→Option (Int)
 | 0,_,_,_=>none
 | k+1,x1,x5,x6=>Qbd.l0 k x1 (IntKind.u64.wrap (x6+x5))
def Qbd.l0:Nat→ByteArray→Int→Option (Int)
 | 0,_,_=>none
 | k+1,x1,x6=>if(x1.size:Int)≥8 then(if 0≤8 then(if 8≤(x1.size:Int)then((Qay.f k (x1.extract 0 8)).bind fun t274=>((Qbf.f k 0 t274).bind fun t275=>((Qbh.f k (Go.bits .xor .u64 x6 t275) 27).bind fun t276=>(Qbd.l0 k (x1.extract 8 x1.size) (IntKind.u64.wrap ((IntKind.u64.wrap (t276*11400714785074694791))+9650029242287828579))))))else(none))else(none))else(Qbd.l1 k x1 x6)
def Qbd.l1:Nat→ByteArray→Int→Option (Int)
 | 0,_,_=>none
 | k+1,x1,x6=>if(x1.size:Int)≥4 then(if 0≤4 then(if 4≤(x1.size:Int)then((Qay.f k (x1.extract 0 4)).bind fun t277=>((Qbh.f k (Go.bits .xor .u64 x6 (IntKind.u64.wrap (t277*11400714785074694791))) 23).bind fun t278=>(Qbd.l1 k (x1.extract 4 x1.size) (IntKind.u64.wrap ((IntKind.u64.wrap (t278*14029467366897019727))+1609587929392839161)))))else(none))else(none))else(Qbd.l2 k x1 x6 0)
def Qbd.l2:Nat→ByteArray→Int→Int→Option (Int)
 | 0,_,_,_=>none
 | k+1,x1,x6,x8=>if x8<(x1.size:Int)then(if 0≤x8 then((Qbh.f k (Go.bits .xor .u64 x6 (IntKind.u64.wrap ((IntKind.u64.wrap (bt x1 x8))*2870177450012600261))) 11).bind fun t279=>(Qbd.l2 k x1 (IntKind.u64.wrap (t279*11400714785074694791)) (wrap64 (x8+1))))else(none))else((Qbg.f k x6 33).bind fun t280=>((Qbg.f k (IntKind.u64.wrap (t280*14029467366897019727)) 29).bind fun t281=>((Qbg.f k (IntKind.u64.wrap (t281*1609587929392839161)) 32).bind fun t282=>(some t282))))
end
def Qbd.f(k:Nat)(a0:Int)(a1:ByteArray):Option (Int):=if(a1.size:Int)≥32 then((Qbe.f a0 a1).bind fun bt272=>(Qbd.j0 k bt272.2 (IntKind.u64.wrap ((a1.size:Int))) bt272.1))else(Qbd.j0 k a1 (IntKind.u64.wrap ((a1.size:Int))) (IntKind.u64.wrap (a0+2870177450012600261)))
theorem Qbd.calls (k:Nat) (a0:Int) (a1:ByteArray) (r:Int) (w:World) (h:Qbd.f k a0 a1=some r) :
  Calls Tryz.prog 65 #[.int .u64 a0,.string a1] w fun e w'=>e=.returned (.int .u64 r)∧Below w.heap.size w w':=by
 have HB:=QA (Below.refl w.heap.size w)
 have H:(if(a1.size:Int)≥32 then((Qbe.f a0 a1).bind fun bt272=>(Qbd.j0 k bt272.2 (IntKind.u64.wrap ((a1.size:Int))) bt272.1))else(Qbd.j0 k a1 (IntKind.u64.wrap ((a1.size:Int))) (IntKind.u64.wrap (a0+2870177450012600261))))=some r:=h
 clear h
 have HC3:=QA H
 clear H
 go_enter Tryz.func65,Tryz.ntmps65
 go_upto_if 17 with(fail)
 go_cut [1,6] (fun v1 v6 wc=>∃(kq:Nat) (x1_2:ByteArray) (x6_2:Int),v1=.string x1_2∧v6=.int .u64 x6_2∧Aside0 (Qbd.j0 kq x1_2 (IntKind.u64.wrap ((a1.size:Int))) x6_2=some r)∧Aside0 (kq≤k)∧Aside0 (Below w.heap.size w wc))
 case first =>
  have H:=HC3.out
  clear HC3
  by_cases c4:(a1.size:Int)≥32
  ·rw[if_pos c4]at H
   have c4b0:decide (32≤(a1.size:Int))=true:=decide_eq_true c4
   have c4b1:decide (32≤a1.size)=true:=decide_eq_true (by omega)
   clear c4
   (first|rw[c4b0] |(simp only[Qgr,Qgs];rw[c4b0])|skip)
   replace H:=Option.bind_eq_some_iff.mp H
   obtain⟨⟨t272,t273⟩,A50,H⟩:=H
   replace H:(Qbd.j0 k t273 (IntKind.u64.wrap ((a1.size:Int))) t272)=some r:=H
   have A5:=QA A50
   clear A50
   have H':=QA H
   clear H
   go_wp2_with (first |((with_reducible refine Qin (f:=105) rfl ?_);refine Qgp (some 21) rfl rfl Tryz.func105 qq_6 rfl #[.int .u64 a0,.string a1] rfl qq_1 ?_;(with_reducible refine(Qbe.calls a0 a1 t272 t273 _ A5.out).mono ?_);rintro e w6 ⟨rfl,hb⟩;refine⟨_,rfl,?_⟩;have n0_:=QA (Qfh qq_b hb);clear HB;have HB:=n0_;clear n0_;(try clear hb);(try clear hb2);(try clear hk);(try clear hi)))
   go_meet
   case rel=>exact⟨_,(t273),(t272),qq_5,qq_5,H',⟨by first|omega|exact Nat.le_refl _⟩,⟨qq_b⟩⟩
  ·rw[if_neg c4]at H
   have c4b0:decide (32≤(a1.size:Int))=false:=decide_eq_false c4
   have c4b1:decide (32≤a1.size)=false:=decide_eq_false (by omega)
   clear c4
   (first|rw[c4b0] |(simp only[Qgr,Qgs];rw[c4b0])|skip)
   have H':=QA H
   clear H
   go_wp2
   go_meet
   case rel=>exact⟨_,(a1),(IntKind.u64.wrap (a0+2870177450012600261)),qq_5,qq_5,H',⟨by first|omega|exact Nat.le_refl _⟩,⟨qq_b⟩⟩
 case rest =>
  clear HC3
  try clear c4
  try clear c4b0
  try clear c4b1
  obtain⟨kq,x1_2,x6_2,rfl,rfl,HA,HJ2,HB⟩:=hcut
  cases kq with
  | zero=>exact absurd HA.out (by simp[Qbd.j0])
  | succ kj2 =>
   have H:=HA.out
   clear HA
   simp only[Qbd.j0]at H
   have H':=QA H
   clear H
   go_wp2
   go_loopg [1,6] kj2 (fun kq v1 v6 w'=>∃(x1_2:ByteArray) (x6_2:Int),v1=.string x1_2∧v6=.int .u64 x6_2∧Aside0 (Qbd.l0 kq x1_2 x6_2=some r)∧Aside0 (kq≤kj2)∧Aside0 (Below w.heap.size w w'))
   case atStart=>exact⟨(x1_2),(IntKind.u64.wrap (x6_2+(IntKind.u64.wrap ((a1.size:Int))))),qq_5,qq_5,H',⟨Nat.le_refl _⟩,⟨qq_b⟩⟩
   case round =>
    clear H'
    try clear c4
    try clear c4b0
    try clear c4b1
    obtain⟨x1_2,x6_2,rfl,rfl,HA,HK2,HB⟩:=hrel
    cases gk with
    | zero=>exact absurd HA.out (by simp[Qbd.l0])
    | succ k2 =>
     have H:=HA.out
     clear HA
     simp only[Qbd.l0]at H
     by_cases c7:(x1_2.size:Int)≥8
     ·rw[if_pos c7]at H
      have c7b0:decide (8≤(x1_2.size:Int))=true:=decide_eq_true c7
      have c7b1:decide (8≤x1_2.size)=true:=decide_eq_true (by omega)
      clear c7
      by_cases c8:0≤8
      ·rw[if_pos c8]at H
       have c8b0:=eq_true c8
       have c8b1:decide (0≤8)=true:=decide_eq_true c8
       clear c8
       by_cases c9:8≤(x1_2.size:Int)
       ·rw[if_pos c9]at H
        have c9b0:=eq_true c9
        have c9b1:decide (8≤(x1_2.size:Int))=true:=decide_eq_true c9
        clear c9
        replace H:=Option.bind_eq_some_iff.mp H
        obtain⟨t274,A100,H⟩:=H
        replace H:((Qbf.f k2 0 t274).bind fun t275=>((Qbh.f k2 (Go.bits .xor .u64 x6_2 t275) 27).bind fun t276=>(Qbd.l0 k2 (x1_2.extract 8 x1_2.size) (IntKind.u64.wrap ((IntKind.u64.wrap (t276*11400714785074694791))+9650029242287828579)))))=some r:=H
        have A10:=QA A100
        clear A100
        replace H:=Option.bind_eq_some_iff.mp H
        obtain⟨t275,A110,H⟩:=H
        replace H:((Qbh.f k2 (Go.bits .xor .u64 x6_2 t275) 27).bind fun t276=>(Qbd.l0 k2 (x1_2.extract 8 x1_2.size) (IntKind.u64.wrap ((IntKind.u64.wrap (t276*11400714785074694791))+9650029242287828579))))=some r:=H
        have A11:=QA A110
        clear A110
        replace H:=Option.bind_eq_some_iff.mp H
        obtain⟨t276,A120,H⟩:=H
        replace H:(Qbd.l0 k2 (x1_2.extract 8 x1_2.size) (IntKind.u64.wrap ((IntKind.u64.wrap (t276*11400714785074694791))+9650029242287828579)))=some r:=H
        have A12:=QA A120
        clear A120
        have c13b0:=eq_true (of_decide_eq_true qq_4:8≤(x1_2.size:Int))
        have H':=QA H
        clear H
        go_wp2_with (first |((with_reducible refine Qin (f:=107) rfl ?_);refine Qgp (some 33) rfl rfl Tryz.func107 qq_6 rfl #[.string (x1_2.extract 0 8)] rfl qq_1 ?_;(with_reducible refine(Qay.calls k2 (x1_2.extract 0 8) t274 _ A10.out).mono ?_);rintro e w' ⟨rfl,⟨nd,rfl⟩⟩;refine⟨_,rfl,?_⟩) |((with_reducible refine Qin (f:=106) rfl ?_);refine Qgp (some 34) rfl rfl Tryz.func106 qq_6 rfl #[.int .u64 0,.int .u64 t274] rfl qq_1 ?_;(with_reducible refine(Qbf.calls k2 0 t274 t275 _ A11.out).mono ?_);rintro e w' ⟨rfl,⟨nd,rfl⟩⟩;refine⟨_,rfl,?_⟩) |((with_reducible refine Qin (f:=108) rfl ?_);refine Qgp (some 37) rfl rfl Tryz.func108 qq_6 rfl #[.int .u64 (Go.bits .xor .u64 x6_2 t275),.int .i64 27] rfl qq_1 ?_;(with_reducible refine(Qbh.calls k2 (Go.bits .xor .u64 x6_2 t275) 27 t276 _ A12.out).mono ?_);rintro e w' ⟨rfl,⟨nd,rfl⟩⟩;refine⟨_,rfl,?_⟩))
        go_roundg k2
        case measure=>have:=HJ2.out;have:=HK2.out;omega
        case rel=>exact⟨(x1_2.extract 8 x1_2.size),(IntKind.u64.wrap ((IntKind.u64.wrap (t276*11400714785074694791))+9650029242287828579)),qq_5,qq_5,H',⟨by have:=HJ2.out;have:=HK2.out;omega⟩,⟨qq_b⟩⟩
       ·rw[if_neg c9]at H
        exact absurd H (by simp)
      ·rw[if_neg c8]at H
       exact absurd H (by simp)
     ·rw [if_neg c7]at H
      have c7b0:decide (8≤(x1_2.size:Int))=false:=decide_eq_false c7
      have c7b1:decide (8≤x1_2.size)=false:=decide_eq_false (by omega)
      clear c7
      have H':=QA H
      clear H
      go_wp2
      go_loopg [1,6] k2 (fun kq v1 v6 w'=>∃(x1_3:ByteArray) (x6_3:Int),v1=.string x1_3∧v6=.int .u64 x6_3∧Aside0 (Qbd.l1 kq x1_3 x6_3=some r)∧Aside0 (kq≤k2)∧Aside0 (Below w.heap.size w w'))
      case atStart=>exact⟨(x1_2),(x6_2),qq_5,qq_5,H',⟨Nat.le_refl _⟩,⟨qq_b⟩⟩
      case round =>
       clear H'
       try clear c4
       try clear c4b0
       try clear c4b1
       try clear c7
       try clear c7b0
       try clear c7b1
       try clear c8
       try clear c8b0
       try clear c8b1
       try clear c9
       try clear c9b0
       try clear c9b1
       try clear c13b0
       obtain⟨x1_3,x6_3,rfl,rfl,HA,HK3,HB⟩:=hrel
       cases gk with
       | zero=>exact absurd HA.out (by simp[Qbd.l1])
       | succ k3 =>
        have H:=HA.out
        clear HA
        simp only[Qbd.l1]at H
        by_cases c14:(x1_3.size:Int)≥4
        ·rw[if_pos c14]at H
         have c14b0:decide (4≤(x1_3.size:Int))=true:=decide_eq_true c14
         have c14b1:decide (4≤x1_3.size)=true:=decide_eq_true (by omega)
         clear c14
         by_cases c15:0≤4
         ·rw[if_pos c15]at H
          have c15b0:=eq_true c15
          have c15b1:decide (0≤4)=true:=decide_eq_true c15
          clear c15
          by_cases c16:4≤(x1_3.size:Int)
          ·rw[if_pos c16]at H
           have c16b0:=eq_true c16
           have c16b1:decide (4≤(x1_3.size:Int))=true:=decide_eq_true c16
           clear c16
           replace H:=Option.bind_eq_some_iff.mp H
           obtain⟨t277,A170,H⟩:=H
           replace H:((Qbh.f k3 (Go.bits .xor .u64 x6_3 (IntKind.u64.wrap (t277*11400714785074694791))) 23).bind fun t278=>(Qbd.l1 k3 (x1_3.extract 4 x1_3.size) (IntKind.u64.wrap ((IntKind.u64.wrap (t278*14029467366897019727))+1609587929392839161))))=some r:=H
           have A17:=QA A170
           clear A170
           replace H:=Option.bind_eq_some_iff.mp H
           obtain⟨t278,A180,H⟩:=H
           replace H:(Qbd.l1 k3 (x1_3.extract 4 x1_3.size) (IntKind.u64.wrap ((IntKind.u64.wrap (t278*14029467366897019727))+1609587929392839161)))=some r:=H
           have A18:=QA A180
           clear A180
           have c19b0:=eq_true (of_decide_eq_true qq_4:4≤(x1_3.size:Int))
           have H':=QA H
           clear H
           go_wp2_with (first |((with_reducible refine Qin (f:=107) rfl ?_);refine Qgp (some 47) rfl rfl Tryz.func107 qq_6 rfl #[.string (x1_3.extract 0 4)] rfl qq_1 ?_;(with_reducible refine(Qay.calls k3 (x1_3.extract 0 4) t277 _ A17.out).mono ?_);rintro e w' ⟨rfl,⟨nd,rfl⟩⟩;refine⟨_,rfl,?_⟩) |((with_reducible refine Qin (f:=108) rfl ?_);refine Qgp (some 52) rfl rfl Tryz.func108 qq_6 rfl #[.int .u64 (Go.bits .xor .u64 x6_3 (IntKind.u64.wrap (t277*11400714785074694791))),.int .i64 23] rfl qq_1 ?_;(with_reducible refine(Qbh.calls k3 (Go.bits .xor .u64 x6_3 (IntKind.u64.wrap (t277*11400714785074694791))) 23 t278 _ A18.out).mono ?_);rintro e w' ⟨rfl,⟨nd,rfl⟩⟩;refine⟨_,rfl,?_⟩))
           go_roundg k3
           case measure=>have:=HJ2.out;have:=HK2.out;have:=HK3.out;omega
           case rel=>exact⟨(x1_3.extract 4 x1_3.size),(IntKind.u64.wrap ((IntKind.u64.wrap (t278*14029467366897019727))+1609587929392839161)),qq_5,qq_5,H',⟨by have:=HJ2.out;have:=HK2.out;have:=HK3.out;omega⟩,⟨qq_b⟩⟩
          ·rw[if_neg c16]at H
           exact absurd H (by simp)
         ·rw[if_neg c15]at H
          exact absurd H (by simp)
        ·rw [if_neg c14]at H
         have c14b0:decide (4≤(x1_3.size:Int))=false:=decide_eq_false c14
         have c14b1:decide (4≤x1_3.size)=false:=decide_eq_false (by omega)
         clear c14
         have H':=QA H
         clear H
         go_wp2
         go_loopg [6,8] k3 (fun kq v6 v8 w'=>∃(x6_4:Int) (x8_4:Int),v6=.int .u64 x6_4∧v8=.int .i64 x8_4∧Aside0 (Qbd.l2 kq x1_3 x6_4 x8_4=some r)∧Aside0 (kq≤k3)∧Aside0 (Below w.heap.size w w'))
         case atStart=>exact⟨(x6_3),(0),qq_5,qq_5,H',⟨Nat.le_refl _⟩,⟨qq_b⟩⟩
         case round =>
          clear H'
          try clear c4
          try clear c4b0
          try clear c4b1
          try clear c7
          try clear c7b0
          try clear c7b1
          try clear c8
          try clear c8b0
          try clear c8b1
          try clear c9
          try clear c9b0
          try clear c9b1
          try clear c13b0
          try clear c14
          try clear c14b0
          try clear c14b1
          try clear c15
          try clear c15b0
          try clear c15b1
          try clear c16
          try clear c16b0
          try clear c16b1
          try clear c19b0
          obtain⟨x6_4,x8_4,rfl,rfl,HA,HK4,HB⟩:=hrel
          cases gk with
          | zero=>exact absurd HA.out (by simp[Qbd.l2])
          | succ k4 =>
           have H:=HA.out
           clear HA
           simp only[Qbd.l2]at H
           by_cases c20:x8_4<(x1_3.size:Int)
           ·rw[if_pos c20]at H
            have c20b0:decide (x8_4<(x1_3.size:Int))=true:=decide_eq_true c20
            clear c20
            by_cases c21:0≤x8_4
            ·rw[if_pos c21]at H
             have c21b0:decide (0≤x8_4)=true:=decide_eq_true c21
             clear c21
             replace H:=Option.bind_eq_some_iff.mp H
             obtain⟨t279,A230,H⟩:=H
             replace H:(Qbd.l2 k4 x1_3 (IntKind.u64.wrap (t279*11400714785074694791)) (wrap64 (x8_4+1)))=some r:=H
             have A23:=QA A230
             clear A230
             have H':=QA H
             clear H
             have p22:0≤(x8_4:Int):=of_decide_eq_true qq_4
             have q22:x8_4<(x1_3.size:Int):=of_decide_eq_true qq_4
             have hx22:=Qct x1_3 x8_4
             replace p22:=eq_true p22
             replace q22:=eq_true q22
             go_wp2_with (first |((with_reducible refine Qin (f:=108) rfl ?_);refine Qgp (some 71) rfl rfl Tryz.func108 qq_6 rfl #[.int .u64 (Go.bits .xor .u64 x6_4 (IntKind.u64.wrap ((IntKind.u64.wrap (bt x1_3 x8_4))*2870177450012600261))),.int .i64 11] rfl qq_1 ?_;(with_reducible refine(Qbh.calls k4 (Go.bits .xor .u64 x6_4 (IntKind.u64.wrap ((IntKind.u64.wrap (bt x1_3 x8_4))*2870177450012600261))) 11 t279 _ A23.out).mono ?_);rintro e w' ⟨rfl,⟨nd,rfl⟩⟩;refine⟨_,rfl,?_⟩))
             go_roundg k4
             case measure=>have:=HJ2.out;have:=HK2.out;have:=HK3.out;have:=HK4.out;omega
             case rel=>exact⟨(IntKind.u64.wrap (t279*11400714785074694791)),(wrap64 (x8_4+1)),qq_5,qq_5,H',⟨by have:=HJ2.out;have:=HK2.out;have:=HK3.out;have:=HK4.out;omega⟩,⟨qq_b⟩⟩
            ·rw[if_neg c21]at H
             exact absurd H (by simp)
           ·rw[if_neg c20]at H
            have c20b0:decide (x8_4<(x1_3.size:Int))=false:=decide_eq_false c20
            clear c20
            replace H:=Option.bind_eq_some_iff.mp H
            obtain⟨t280,A240,H⟩:=H
            replace H:((Qbg.f k4 (IntKind.u64.wrap (t280*14029467366897019727)) 29).bind fun t281=>((Qbg.f k4 (IntKind.u64.wrap (t281*1609587929392839161)) 32).bind fun t282=>(some t282)))=some r:=H
            have A24:=QA A240
            clear A240
            replace H:=Option.bind_eq_some_iff.mp H
            obtain⟨t281,A250,H⟩:=H
            replace H:((Qbg.f k4 (IntKind.u64.wrap (t281*1609587929392839161)) 32).bind fun t282=>(some t282))=some r:=H
            have A25:=QA A250
            clear A250
            replace H:=Option.bind_eq_some_iff.mp H
            obtain⟨t282,A260,H⟩:=H
            replace H:(some t282)=some r:=H
            have A26:=QA A260
            clear A260
            obtain rfl:=Option.some.inj H
            go_wp2_with (first |((with_reducible refine Qin (f:=109) rfl ?_);refine Qgp (some 74) rfl rfl Tryz.func109 qq_6 rfl #[.int .u64 x6_4,.int .i64 33] rfl qq_1 ?_;(with_reducible refine(Qbg.calls k4 x6_4 33 t280 _ A24.out).mono ?_);rintro e w' ⟨rfl,⟨nd,rfl⟩⟩;refine⟨_,rfl,?_⟩) |((with_reducible refine Qin (f:=109) rfl ?_);refine Qgp (some 77) rfl rfl Tryz.func109 qq_6 rfl #[.int .u64 (IntKind.u64.wrap (t280*14029467366897019727)),.int .i64 29] rfl qq_1 ?_;(with_reducible refine(Qbg.calls k4 (IntKind.u64.wrap (t280*14029467366897019727)) 29 t281 _ A25.out).mono ?_);rintro e w' ⟨rfl,⟨nd,rfl⟩⟩;refine⟨_,rfl,?_⟩) |((with_reducible refine Qin (f:=109) rfl ?_);refine Qgp (some 80) rfl rfl Tryz.func109 qq_6 rfl #[.int .u64 (IntKind.u64.wrap (t281*1609587929392839161)),.int .i64 32] rfl qq_1 ?_;(with_reducible refine(Qbg.calls k4 (IntKind.u64.wrap (t281*1609587929392839161)) 32 t282 _ A26.out).mono ?_);rintro e w' ⟨rfl,⟨nd,rfl⟩⟩;refine⟨_,rfl,?_⟩))
            go_ret
            exact⟨by first|rfl |(simp[Qis,Qit]<;>rfl) |(simp[*,Qis,Qit]<;>rfl),qq_b⟩
def Qbt.f(k:Nat)(a0:ByteArray):Option (ByteArray):=(Qbd.f k 0 a0).bind fun t289=>((Qaw.f k t289 8).bind fun t290=>(if a0.size+t290.size≤9223372036854775807 then((Qbi.f k (a0++t290)).bind fun t291=>(if t291.size+1≤9223372036854775807 then(some (t291++(⟨#[0]⟩:ByteArray)))else(none)))else(none)))
theorem Qbt.calls(k:Nat)(a0:ByteArray)(r:ByteArray)(w:World)(h:Qbt.f k a0=some r) :
  Calls Tryz.prog 61 #[.string a0] w fun e w'=>e=.returned (.string r)∧Below w.heap.size w w':=by
 have HB:=QA (Below.refl w.heap.size w)
 have H:((Qbd.f k 0 a0).bind fun t289=>((Qaw.f k t289 8).bind fun t290=>(if a0.size+t290.size≤9223372036854775807 then((Qbi.f k (a0++t290)).bind fun t291=>(if t291.size+1≤9223372036854775807 then(some (t291++(⟨#[0]⟩:ByteArray)))else(none)))else(none))))=some r:=h
 clear h
 replace H:=Option.bind_eq_some_iff.mp H
 obtain⟨t289,A20,H⟩:=H
 replace H:((Qaw.f k t289 8).bind fun t290=>(if a0.size+t290.size≤9223372036854775807 then((Qbi.f k (a0++t290)).bind fun t291=>(if t291.size+1≤9223372036854775807 then(some (t291++(⟨#[0]⟩:ByteArray)))else(none)))else(none)))=some r:=H
 have A2:=QA A20
 clear A20
 replace H:=Option.bind_eq_some_iff.mp H
 obtain⟨t290,A30,H⟩:=H
 replace H:(if a0.size+t290.size≤9223372036854775807 then((Qbi.f k (a0++t290)).bind fun t291=>(if t291.size+1≤9223372036854775807 then(some (t291++(⟨#[0]⟩:ByteArray)))else(none)))else(none))=some r:=H
 have A3:=QA A30
 clear A30
 by_cases c4:a0.size+t290.size≤9223372036854775807
 ·rw[if_pos c4]at H
  have c4b0:=eq_true c4
  have c4b1:decide (a0.size+t290.size≤9223372036854775807)=true:=decide_eq_true c4
  try have c4b2:(9223372036854775807<a0.size+t290.size)=False:=eq_false (Nat.not_lt.2 c4)
  replace H:=Option.bind_eq_some_iff.mp H
  obtain⟨t291,A50,H⟩:=H
  replace H:(if t291.size+1≤9223372036854775807 then(some (t291++(⟨#[0]⟩:ByteArray)))else(none))=some r:=H
  have A5:=QA A50
  clear A50
  by_cases c6:t291.size+1≤9223372036854775807
  ·rw[if_pos c6]at H
   have c6b0:=eq_true c6
   have c6b1:decide (t291.size+1≤9223372036854775807)=true:=decide_eq_true c6
   try have c6b2:(9223372036854775807<t291.size+1)=False:=eq_false (Nat.not_lt.2 c6)
   obtain rfl:=Option.some.inj H
   go_enter Tryz.func61,Tryz.ntmps61
   go_wp2_with (first |((with_reducible refine Qin (f:=65) rfl ?_);refine Qgp (some 5) rfl rfl Tryz.func65 qq_6 rfl #[.int .u64 0,.string a0] rfl qq_1 ?_;(with_reducible refine(Qbd.calls k 0 a0 t289 _ A2.out).mono ?_);rintro e w7 ⟨rfl,hb⟩;refine⟨_,rfl,?_⟩;have n0_:=QA (Qfh qq_b hb);clear HB;have HB:=n0_;clear n0_;(try clear hb);(try clear hb2);(try clear hk);(try clear hi)) |((with_reducible refine Qin (f:=103) rfl ?_);refine Qgp (some 6) rfl rfl Tryz.func103 qq_6 rfl #[.int .u64 t289,.int .i64 8] rfl qq_1 ?_;(with_reducible refine(Qaw.calls k t289 8 t290 _ A3.out).mono ?_);rintro e w8 ⟨rfl,hb⟩;refine⟨_,rfl,?_⟩;have n0_:=QA (Qfh qq_b hb);clear HB;have HB:=n0_;clear n0_;(try clear hb);(try clear hb2);(try clear hk);(try clear hi)) |((with_reducible refine Qin (f:=102) rfl ?_);refine Qgp (some 8) rfl rfl Tryz.func102 qq_6 rfl #[.string (a0++t290)] rfl qq_1 ?_;(with_reducible refine(Qbi.calls k (a0++t290) t291 _ A5.out).mono ?_);rintro e w9 ⟨rfl,hb⟩;refine⟨_,rfl,?_⟩;have n0_:=QA (Qfh qq_b hb);clear HB;have HB:=n0_;clear n0_;(try clear hb);(try clear hb2);(try clear hk);(try clear hi)))
   go_ret
   exact⟨by first|rfl |(simp[Qis,Qit]<;>rfl) |(simp[*,Qis,Qit]<;>rfl),qq_b⟩
  ·rw[if_neg c6]at H
   exact absurd H (by simp)
 ·rw[if_neg c4]at H
  exact absurd H (by simp)
end Go.Proofs.YtnnofopfbeklbaaGreat.C
end
