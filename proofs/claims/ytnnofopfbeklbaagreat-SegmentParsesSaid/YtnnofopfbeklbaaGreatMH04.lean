/- Texts of this claim's author and of the print of its functions, merged by merge.py. -/
import Derived.Test.YtnnofopfbeklbaaGreatMH02
import Derived.Test.YtnnofopfbeklbaaGreatMH03
set_option linter.unusedVariables false
set_option linter.unusedSimpArgs false
set_option maxHeartbeats 8000000
set_option maxRecDepth 100000
section
namespace Go.Proofs.YtnnofopfbeklbaaGreat.C
open Go.RowKit Go.Proofs.YtnnofopfbeklbaaGreatW.PrintWords Go.Proofs.YtnnofopfbeklbaaGreatW.PrintLast Go.Proofs.YtnnofopfbeklbaaGreatW.PrintMore
attribute [local go_sem] Qif Qig Qih Qii Qij Qik Qil Qim
mutual
def Qbj.l0:Nat→ByteArray→Int→Option (ByteArray × Int)
 | 0,_,_=>none
 | k+1,x0,x4=>if x4<(x0.size:Int)then(if 0≤x4 then(if(bt x0 x4)=0 then(some ((⟨#[]⟩:ByteArray),4))else(Qbj.l0 k x0 (wrap64 (x4+1))))else(none))else(if x0.toList=([]:List UInt8)then(some ((⟨#[]⟩:ByteArray),2))else(Qbj.l1 k x0 (⟨#[]⟩:ByteArray) x0))
def Qbj.l1:Nat→ByteArray→ByteArray→ByteArray→Option (ByteArray × Int)
 | 0,_,_,_=>none
 | k+1,x0,x5,x6=>if x6.toList=([]:List UInt8)then((Qbi.f k x5).bind fun t633=>(if t633.toList=x0.toList then(some (x5,0))else(some ((⟨#[]⟩:ByteArray),4))))else(if 0<(x6.size:Int)then(if(wrap64 (bt x6 0)) > (x6.size:Int)then(some ((⟨#[]⟩:ByteArray),2))else(if 1≤(wrap64 (bt x6 0))then(if(wrap64 (bt x6 0))≤(x6.size:Int)then(if x5.size+(x6.extract 1 ((wrap64 (bt x6 0)):Int).toNat).size≤9223372036854775807 then(if 0≤(wrap64 (bt x6 0))then(if(wrap64 (bt x6 0))<255 then(if(x6.extract ((wrap64 (bt x6 0)):Int).toNat x6.size).toList=([]:List UInt8)then(Qbj.l1 k x0 (x5++(x6.extract 1 ((wrap64 (bt x6 0)):Int).toNat)) (x6.extract ((wrap64 (bt x6 0)):Int).toNat x6.size))else(if(x5++(x6.extract 1 ((wrap64 (bt x6 0)):Int).toNat)).size+1≤9223372036854775807 then(Qbj.l1 k x0 ((x5++(x6.extract 1 ((wrap64 (bt x6 0)):Int).toNat))++(⟨#[0]⟩:ByteArray)) (x6.extract ((wrap64 (bt x6 0)):Int).toNat x6.size))else(none)))else(Qbj.l1 k x0 (x5++(x6.extract 1 ((wrap64 (bt x6 0)):Int).toNat)) (x6.extract ((wrap64 (bt x6 0)):Int).toNat x6.size)))else(none))else(none))else(none))else(none)))else(none))
end
def Qbj.f(k:Nat)(a0:ByteArray):Option (ByteArray × Int):=Qbj.l0 k a0 0
theorem Qbj.calls (k:Nat) (a0:ByteArray) (r1:ByteArray) (r2:Int) (w:World) (h:Qbj.f k a0=some (r1,r2)) :
  Calls Tryz.prog 186 #[.string a0] w fun e w'=>e=.returned (.tuple #[.string r1,.int .i64 r2])∧Below w.heap.size w w':=by
 have HB:=QA (Below.refl w.heap.size w)
 have H:(Qbj.l0 k a0 0)=some (r1,r2):=h
 clear h
 have H':=QA H
 clear H
 go_enter Tryz.func186,Tryz.ntmps186
 go_wp2
 go_loopg [4] k (fun kq v4 w'=>∃(x4_1:Int),v4=.int .i64 x4_1∧Aside0 (Qbj.l0 kq a0 x4_1=some (r1,r2))∧Aside0 (kq≤k)∧Aside0 (Below w.heap.size w w'))
 case atStart=>exact⟨(0),qq_5,H',⟨Nat.le_refl _⟩,⟨qq_b⟩⟩
 case round =>
  clear H'
  obtain⟨x4_1,rfl,HA,HK1,HB⟩:=hrel
  cases gk with
  | zero=>exact absurd HA.out (by simp[Qbj.l0])
  | succ k1 =>
   have H:=HA.out
   clear HA
   simp only[Qbj.l0]at H
   by_cases c2:x4_1<(a0.size:Int)
   ·rw[if_pos c2]at H
    have c2b0:decide (x4_1<(a0.size:Int))=true:=decide_eq_true c2
    clear c2
    by_cases c3:0≤x4_1
    ·rw[if_pos c3]at H
     have c3b0:decide (0≤x4_1)=true:=decide_eq_true c3
     clear c3
     by_cases c5:(bt a0 x4_1)=0
     ·rw[if_pos c5]at H
      have c5b0:((bt a0 x4_1) == 0)=true:=beq_iff_eq.mpr c5
      have c5b1:((bt a0 x4_1) != 0)=false:=bne_eq_false_iff_eq.mpr c5
      clear c5
      simp only[Option.some.injEq,Prod.mk.injEq]at H
      obtain⟨rfl,rfl⟩:=H
      have p4:0≤(x4_1:Int):=of_decide_eq_true qq_4
      have q4:x4_1<(a0.size:Int):=of_decide_eq_true qq_4
      have hx4:=Qct a0 x4_1
      replace p4:=eq_true p4
      replace q4:=eq_true q4
      go_wp2
      go_ret2
      exact⟨by first|rfl |(simp[Qis,Qit]<;>rfl) |(simp[*,Qis,Qit]<;>rfl),qq_b⟩
     ·rw[if_neg c5]at H
      have c5b0:((bt a0 x4_1) == 0)=false:=beq_eq_false_iff_ne.mpr c5
      have c5b1:((bt a0 x4_1) != 0)=true:=bne_iff_ne.mpr c5
      have H':=QA H
      clear H
      have p4:0≤(x4_1:Int):=of_decide_eq_true qq_4
      have q4:x4_1<(a0.size:Int):=of_decide_eq_true qq_4
      have hx4:=Qct a0 x4_1
      replace p4:=eq_true p4
      replace q4:=eq_true q4
      go_wp2
      go_roundg k1
      case measure=>have:=HK1.out;omega
      case rel=>exact⟨(wrap64 (x4_1+1)),qq_5,H',⟨by have:=HK1.out;omega⟩,⟨qq_b⟩⟩
    ·rw[if_neg c3]at H
     exact absurd H (by simp)
   ·rw [if_neg c2]at H
    have c2b0:decide (x4_1<(a0.size:Int))=false:=decide_eq_false c2
    clear c2
    by_cases c6:a0.toList=([]:List UInt8)
    ·rw[if_pos c6]at H
     have c6b0:(a0.toList == ([]:List UInt8))=true:=beq_iff_eq.mpr c6
     have c6b1:(a0.toList != ([]:List UInt8))=false:=bne_eq_false_iff_eq.mpr c6
     clear c6
     simp only[Option.some.injEq,Prod.mk.injEq]at H
     obtain⟨rfl,rfl⟩:=H
     go_wp2
     go_ret2
     exact⟨by first|rfl |(simp[Qis,Qit]<;>rfl) |(simp[*,Qis,Qit]<;>rfl),qq_b⟩
    ·rw [if_neg c6]at H
     have c6b0:(a0.toList == ([]:List UInt8))=false:=beq_eq_false_iff_ne.mpr c6
     have c6b1:(a0.toList != ([]:List UInt8))=true:=bne_iff_ne.mpr c6
     have H':=QA H
     clear H
     go_wp2
     go_loopg [5,6] k1 (fun kq v5 v6 w'=>∃(x5_2:ByteArray) (x6_2:ByteArray),v5=.string x5_2∧v6=.string x6_2∧Aside0 (Qbj.l1 kq a0 x5_2 x6_2=some (r1,r2))∧Aside0 (kq≤k1)∧Aside0 (Below w.heap.size w w'))
     case atStart=>exact⟨((⟨#[]⟩:ByteArray)),(a0),qq_5,qq_5,H',⟨Nat.le_refl _⟩,⟨qq_b⟩⟩
     case round =>
      clear H'
      try clear c2
      try clear c2b0
      try clear c3
      try clear c3b0
      try clear p4
      try clear q4
      try clear hx4
      try clear c5
      try clear c5b0
      try clear c5b1
      try clear c6
      try clear c6b0
      try clear c6b1
      try clear p4
      try clear q4
      obtain⟨x5_2,x6_2,rfl,rfl,HA,HK2,HB⟩:=hrel
      cases gk with
      | zero=>exact absurd HA.out (by simp[Qbj.l1])
      | succ k2 =>
       have H:=HA.out
       clear HA
       simp only[Qbj.l1]at H
       by_cases c7:x6_2.toList=([]:List UInt8)
       ·rw[if_pos c7]at H
        have c7b0:(x6_2.toList == ([]:List UInt8))=true:=beq_iff_eq.mpr c7
        have c7b1:(x6_2.toList != ([]:List UInt8))=false:=bne_eq_false_iff_eq.mpr c7
        clear c7
        replace H:=Option.bind_eq_some_iff.mp H
        obtain⟨t633,A80,H⟩:=H
        replace H:(if t633.toList=a0.toList then(some (x5_2,0))else(some ((⟨#[]⟩:ByteArray),4)))=some (r1,r2):=H
        have A8:=QA A80
        clear A80
        by_cases c9:t633.toList=a0.toList
        ·rw[if_pos c9]at H
         have c9b0:(t633.toList == a0.toList)=true:=beq_iff_eq.mpr c9
         have c9b1:(t633.toList != a0.toList)=false:=bne_eq_false_iff_eq.mpr c9
         clear c9
         simp only[Option.some.injEq,Prod.mk.injEq]at H
         obtain⟨rfl,rfl⟩:=H
         go_wp2_with (first |((with_reducible refine Qin (f:=102) rfl ?_);refine Qgp (some 47) rfl rfl Tryz.func102 qq_6 rfl #[.string x5_2] rfl qq_1 ?_;(with_reducible refine(Qbi.calls k2 x5_2 t633 _ A8.out).mono ?_);rintro e w10 ⟨rfl,hb⟩;refine⟨_,rfl,?_⟩;have n0_:=QA (Qfh qq_b hb);clear HB;have HB:=n0_;clear n0_;(try clear hb);(try clear hb2);(try clear hk);(try clear hi)))
         go_ret2
         exact⟨by first|rfl |(simp[Qis,Qit]<;>rfl) |(simp[*,Qis,Qit]<;>rfl),qq_b⟩
        ·rw[if_neg c9]at H
         have c9b0:(t633.toList == a0.toList)=false:=beq_eq_false_iff_ne.mpr c9
         have c9b1:(t633.toList != a0.toList)=true:=bne_iff_ne.mpr c9
         simp only[Option.some.injEq,Prod.mk.injEq]at H
         obtain⟨rfl,rfl⟩:=H
         go_wp2_with (first |((with_reducible refine Qin (f:=102) rfl ?_);refine Qgp (some 47) rfl rfl Tryz.func102 qq_6 rfl #[.string x5_2] rfl qq_1 ?_;(with_reducible refine(Qbi.calls k2 x5_2 t633 _ A8.out).mono ?_);rintro e w11 ⟨rfl,hb⟩;refine⟨_,rfl,?_⟩;have n0_:=QA (Qfh qq_b hb);clear HB;have HB:=n0_;clear n0_;(try clear hb);(try clear hb2);(try clear hk);(try clear hi)))
         go_ret2
         exact⟨by first|rfl |(simp[Qis,Qit]<;>rfl) |(simp[*,Qis,Qit]<;>rfl),qq_b⟩
       ·rw [if_neg c7]at H
        have c7b0:(x6_2.toList == ([]:List UInt8))=false:=beq_eq_false_iff_ne.mpr c7
        have c7b1:(x6_2.toList != ([]:List UInt8))=true:=bne_iff_ne.mpr c7
        by_cases c12:0<(x6_2.size:Int)
        ·rw [if_pos c12]at H
         have c12b0:decide (0<(x6_2.size:Int))=true:=decide_eq_true c12
         have c12b1:decide (0<x6_2.size)=true:=decide_eq_true (by omega)
         clear c12
         by_cases c14:(wrap64 (bt x6_2 0)) > (x6_2.size:Int)
         ·rw[if_pos c14]at H
          have c14b0:decide ((x6_2.size:Int)<(wrap64 (bt x6_2 0)))=true:=decide_eq_true c14
          clear c14
          simp only[Option.some.injEq,Prod.mk.injEq]at H
          obtain⟨rfl,rfl⟩:=H
          have p13:0≤(0:Int):=(by omega)
          have q13:0<x6_2.size:=(by have:(0:Int)<(x6_2.size:Int):=of_decide_eq_true qq_4;omega)
          have hx13:∀h:0<x6_2.size,((x6_2[0]'h).toNat:Int)=bt x6_2 0:=Qct x6_2 0
          clear p13
          have qi13:(0<(x6_2.size:Int))=True:=eq_true (of_decide_eq_true qq_4)
          replace q13:=eq_true q13
          go_wp2
          go_ret2
          exact⟨by first|rfl |(simp[Qis,Qit]<;>rfl) |(simp[*,Qis,Qit]<;>rfl),qq_b⟩
         ·rw [if_neg c14]at H
          have c14b0:decide ((x6_2.size:Int)<(wrap64 (bt x6_2 0)))=false:=decide_eq_false c14
          clear c14
          by_cases c15:1≤(wrap64 (bt x6_2 0))
          ·rw [if_pos c15]at H
           have c15b0:=eq_true c15
           have c15b1:decide (1≤(wrap64 (bt x6_2 0)))=true:=decide_eq_true c15
           clear c15
           by_cases c16:(wrap64 (bt x6_2 0))≤(x6_2.size:Int)
           ·rw [if_pos c16]at H
            have c16b0:=eq_true c16
            have c16b1:decide ((wrap64 (bt x6_2 0))≤(x6_2.size:Int))=true:=decide_eq_true c16
            clear c16
            by_cases c17:x5_2.size+(x6_2.extract 1 ((wrap64 (bt x6_2 0)):Int).toNat).size≤9223372036854775807
            ·rw [if_pos c17]at H
             have c17b0:=eq_true c17
             have c17b1:decide (x5_2.size+(x6_2.extract 1 ((wrap64 (bt x6_2 0)):Int).toNat).size≤9223372036854775807)=true:=decide_eq_true c17
             try have c17b2:(9223372036854775807<x5_2.size+(x6_2.extract 1 ((wrap64 (bt x6_2 0)):Int).toNat).size)=False:=eq_false (Nat.not_lt.2 c17)
             obtain⟨ji18,hji18⟩:∃j_:Int,(wrap64 (bt x6_2 0))=j_:=⟨_,rfl⟩
             replace H:(if 0≤(ji18)then(if(ji18)<255 then(if(x6_2.extract ((ji18):Int).toNat x6_2.size).toList=([]:List UInt8)then(Qbj.l1 k2 a0 (x5_2++(x6_2.extract 1 ((ji18):Int).toNat)) (x6_2.extract ((ji18):Int).toNat x6_2.size))else(if(x5_2++(x6_2.extract 1 ((ji18):Int).toNat)).size+1≤9223372036854775807 then(Qbj.l1 k2 a0 ((x5_2++(x6_2.extract 1 ((ji18):Int).toNat))++(⟨#[0]⟩:ByteArray)) (x6_2.extract ((ji18):Int).toNat x6_2.size))else(none)))else(Qbj.l1 k2 a0 (x5_2++(x6_2.extract 1 ((ji18):Int).toNat)) (x6_2.extract ((ji18):Int).toNat x6_2.size)))else(none))=some (r1,r2):=by first |(rw[hji18]at H;exact H) |(simp only[hji18]at H ⊢;exact H)
             (try rw[hji18]at c14b0)
             (try rw[hji18]at c15b0)
             (try rw[hji18]at c15b1)
             (try rw[hji18]at c16b0)
             (try rw[hji18]at c16b1)
             (try rw[hji18]at c17b0)
             (try rw[hji18]at c17b1)
             (try rw[hji18]at c17)
             have hji18w:(IntKind.i64.wrap (bt x6_2 0))=ji18:=(Qgr _).trans hji18
             by_cases c19:0≤(ji18)
             ·rw [if_pos c19]at H
              have c19b0:=eq_true c19
              have c19b1:decide (0≤(ji18))=true:=decide_eq_true c19
              clear c19
              have c20b0:=eq_true (of_decide_eq_true qq_4:(ji18)≤(x6_2.size:Int))
              by_cases c21:(ji18)<255
              ·rw[if_pos c21]at H
               have c21b0:decide ((ji18)<255)=true:=decide_eq_true c21
               clear c21
               by_cases c22:(x6_2.extract ((ji18):Int).toNat x6_2.size).toList=([]:List UInt8)
               ·rw[if_pos c22]at H
                have c22b0:((x6_2.extract ((ji18):Int).toNat x6_2.size).toList == ([]:List UInt8))=true:=beq_iff_eq.mpr c22
                have c22b1:((x6_2.extract ((ji18):Int).toNat x6_2.size).toList != ([]:List UInt8))=false:=bne_eq_false_iff_eq.mpr c22
                clear c22
                have H':=QA H
                clear H
                have p13:0≤(0:Int):=(by omega)
                have q13:0<x6_2.size:=(by have:(0:Int)<(x6_2.size:Int):=of_decide_eq_true qq_4;omega)
                have hx13:∀h:0<x6_2.size,((x6_2[0]'h).toNat:Int)=bt x6_2 0:=Qct x6_2 0
                clear p13
                have qi13:(0<(x6_2.size:Int))=True:=eq_true (of_decide_eq_true qq_4)
                replace q13:=eq_true q13
                go_wp2
                go_roundg k2
                case measure=>have:=HK1.out;have:=HK2.out;omega
                case rel=>exact⟨(x5_2++(x6_2.extract 1 ((ji18):Int).toNat)),(x6_2.extract ((ji18):Int).toNat x6_2.size),qq_15,qq_15,H',⟨by have:=HK1.out;have:=HK2.out;omega⟩,⟨qq_b⟩⟩
               ·rw[if_neg c22]at H
                have c22b0:((x6_2.extract ((ji18):Int).toNat x6_2.size).toList == ([]:List UInt8))=false:=beq_eq_false_iff_ne.mpr c22
                have c22b1:((x6_2.extract ((ji18):Int).toNat x6_2.size).toList != ([]:List UInt8))=true:=bne_iff_ne.mpr c22
                by_cases c23:(x5_2++(x6_2.extract 1 ((ji18):Int).toNat)).size+1≤9223372036854775807
                ·rw[if_pos c23]at H
                 have c23b0:=eq_true c23
                 have c23b1:decide ((x5_2++(x6_2.extract 1 ((ji18):Int).toNat)).size+1≤9223372036854775807)=true:=decide_eq_true c23
                 have c23b9:(9223372036854775807<x5_2.size+(ji18.toNat-1)+1)=False:=eq_false (by have z:=of_decide_eq_true (show decide (ji18≤(x6_2.size:Int))=true by assumption);have z2:=c23;simp only[ByteArray.size_append,ByteArray.size_extract]at z2;omega)
                 try have c23b2:(9223372036854775807<(x5_2++(x6_2.extract 1 ((ji18):Int).toNat)).size+1)=False:=eq_false (Nat.not_lt.2 c23)
                 try have c23b3:=c23b2
                 try simp only[ByteArray.size_append,(show ∀x_:UInt8,(⟨#[x_]⟩:ByteArray).size=1 from fun _=>rfl),(show ∀x_ y_:UInt8,(⟨#[x_,y_]⟩:ByteArray).size=2 from fun _ _=>rfl)]at c23b3
                 try have c23b4:=c23b2
                 try simp only[ByteArray.size_append,ByteArray.size_extract,(show ∀x_:UInt8,(⟨#[x_]⟩:ByteArray).size=1 from fun _=>rfl),(show ∀x_ y_:UInt8,(⟨#[x_,y_]⟩:ByteArray).size=2 from fun _ _=>rfl)]at c23b4
                 have H':=QA H
                 clear H
                 have p13:0≤(0:Int):=(by omega)
                 have q13:0<x6_2.size:=(by have:(0:Int)<(x6_2.size:Int):=of_decide_eq_true qq_4;omega)
                 have hx13:∀h:0<x6_2.size,((x6_2[0]'h).toNat:Int)=bt x6_2 0:=Qct x6_2 0
                 clear p13
                 have qi13:(0<(x6_2.size:Int))=True:=eq_true (of_decide_eq_true qq_4)
                 replace q13:=eq_true q13
                 go_wp2
                 go_roundg k2
                 case measure=>have:=HK1.out;have:=HK2.out;omega
                 case rel=>exact⟨((x5_2++(x6_2.extract 1 ((ji18):Int).toNat))++(⟨#[0]⟩:ByteArray)),(x6_2.extract ((ji18):Int).toNat x6_2.size),qq_15,qq_15,H',⟨by have:=HK1.out;have:=HK2.out;omega⟩,⟨qq_b⟩⟩
                ·rw[if_neg c23]at H
                 exact absurd H (by simp)
              ·rw[if_neg c21]at H
               have c21b0:decide ((ji18)<255)=false:=decide_eq_false c21
               clear c21
               have H':=QA H
               clear H
               have p13:0≤(0:Int):=(by omega)
               have q13:0<x6_2.size:=(by have:(0:Int)<(x6_2.size:Int):=of_decide_eq_true qq_4;omega)
               have hx13:∀h:0<x6_2.size,((x6_2[0]'h).toNat:Int)=bt x6_2 0:=Qct x6_2 0
               clear p13
               have qi13:(0<(x6_2.size:Int))=True:=eq_true (of_decide_eq_true qq_4)
               replace q13:=eq_true q13
               go_wp2
               go_roundg k2
               case measure=>have:=HK1.out;have:=HK2.out;omega
               case rel=>exact⟨(x5_2++(x6_2.extract 1 ((ji18):Int).toNat)),(x6_2.extract ((ji18):Int).toNat x6_2.size),qq_15,qq_15,H',⟨by have:=HK1.out;have:=HK2.out;omega⟩,⟨qq_b⟩⟩
             ·rw[if_neg c19]at H
              exact absurd H (by simp)
            ·rw[if_neg c17]at H
             exact absurd H (by simp)
           ·rw[if_neg c16]at H
            exact absurd H (by simp)
          ·rw[if_neg c15]at H
           exact absurd H (by simp)
        ·rw[if_neg c12]at H
         exact absurd H (by simp)
def Qal.f(a0:Int):Option (Int):=if a0≤0 then(some 1)else(some (wrap64 ((wrap64 (a0+1))+(wrap64 (Int.tdiv (wrap64 (a0-1)) 254)))))
theorem Qal.calls(a0:Int)(r:Int)(w:World)(h:Qal.f a0=some r) :
  Calls Tryz.prog 197 #[.int .i64 a0] w fun e w'=>e=.returned (.int .i64 r)∧Drawn0 w w':=by
 have H:(if a0≤0 then(some 1)else(some (wrap64 ((wrap64 (a0+1))+(wrap64 (Int.tdiv (wrap64 (a0-1)) 254))))))=some r:=h
 clear h
 by_cases c2:a0≤0
 ·rw[if_pos c2]at H
  have c2b0:decide (a0≤0)=true:=decide_eq_true c2
  clear c2
  obtain rfl:=Option.some.inj H
  go_enter Tryz.func197,Tryz.ntmps197
  go_wp2
  go_ret
  exact⟨by first|rfl |(simp;done) |(simp[*];done),by repeat(first|exact Drawn0.refl _|apply Drawn0.step)⟩
 ·rw[if_neg c2]at H
  have c2b0:decide (a0≤0)=false:=decide_eq_false c2
  clear c2
  obtain rfl:=Option.some.inj H
  go_enter Tryz.func197,Tryz.ntmps197
  go_wp2
  go_ret
  exact⟨by first|rfl |(simp;done) |(simp[*];done),by repeat(first|exact Drawn0.refl _|apply Drawn0.step)⟩
def Qao.f(a0_0:Int)(a0_1:Int):Option (Int):=if a0_0<12 then(some 1)else(if a0_0 > 24 then(some 1)else(if a0_1<1 then(some 1)else(if a0_1 > 65536 then(some 1)else(some 0))))
theorem Qao.calls(a0_0:Int)(a0_1:Int)(r:Int)(w:World)(h:Qao.f a0_0 a0_1=some r) :
  Calls Tryz.prog 85 #[.agg #[.int .u8 a0_0,.int .u32 a0_1]] w fun e w'=>e=.returned (.int .i64 r)∧Below w.heap.size w w':=by
 have hu27:=Tryz.underlying27
 have HB:=QA (Below.refl w.heap.size w)
 have H:(if a0_0<12 then(some 1)else(if a0_0 > 24 then(some 1)else(if a0_1<1 then(some 1)else(if a0_1 > 65536 then(some 1)else(some 0)))))=some r:=h
 clear h
 by_cases c2:a0_0<12
 ·rw[if_pos c2]at H
  have c2b0:decide (a0_0<12)=true:=decide_eq_true c2
  clear c2
  obtain rfl:=Option.some.inj H
  go_enter Tryz.func85,Tryz.ntmps85
  go_wp2_with (first |((with_reducible refine Qfs (N:=1) rfl ?_);refine qq_e 1 #[.int .u8 a0_0,.int .u32 a0_1] 27 ?_;intro gb103 hg w3 hbox hb;have n0_:=QA (Qfh qq_b hb);have n1_:=QA (hbox);have n2_:=QA (qq_s hg:w.heap.size≤gb103);have n3_:=n2_;clear HB;have HB:=n0_;have BK103:=n1_;have GW103:=n2_;have GE103:=n3_;clear n0_ n1_ n2_ n3_ hb hbox hg;have hcz4_0:=qq_c (.int .u8 a0_0) BK103.out 0 rfl;have hcz4_1:=qq_c (.int .u32 a0_1) BK103.out 1 rfl;have hfz4_0:=Qdt BK103.out 0;have hfz4_1:=Qdt BK103.out 1))
  go_ret
  exact⟨by first|rfl |(simp[Qis,Qit]<;>rfl) |(simp[*,Qis,Qit]<;>rfl),qq_b⟩
 ·rw [if_neg c2]at H
  have c2b0:decide (a0_0<12)=false:=decide_eq_false c2
  clear c2
  by_cases c5:a0_0 > 24
  ·rw[if_pos c5]at H
   have c5b0:decide (24<a0_0)=true:=decide_eq_true c5
   clear c5
   obtain rfl:=Option.some.inj H
   go_enter Tryz.func85,Tryz.ntmps85
   go_wp2_with (first |((with_reducible refine Qfs (N:=1) rfl ?_);refine qq_e 1 #[.int .u8 a0_0,.int .u32 a0_1] 27 ?_;intro gb103 hg w6 hbox hb;have n0_:=QA (Qfh qq_b hb);have n1_:=QA (hbox);have n2_:=QA (qq_s hg:w.heap.size≤gb103);have n3_:=n2_;clear HB;have HB:=n0_;have BK103:=n1_;have GW103:=n2_;have GE103:=n3_;clear n0_ n1_ n2_ n3_ hb hbox hg;have hcz7_0:=qq_c (.int .u8 a0_0) BK103.out 0 rfl;have hcz7_1:=qq_c (.int .u32 a0_1) BK103.out 1 rfl;have hfz7_0:=Qdt BK103.out 0;have hfz7_1:=Qdt BK103.out 1))
   go_ret
   exact⟨by first|rfl |(simp[Qis,Qit]<;>rfl) |(simp[*,Qis,Qit]<;>rfl),qq_b⟩
  ·rw[if_neg c5]at H
   have c5b0:decide (24<a0_0)=false:=decide_eq_false c5
   clear c5
   by_cases c8:a0_1<1
   ·rw[if_pos c8]at H
    have c8b0:decide (a0_1<1)=true:=decide_eq_true c8
    clear c8
    obtain rfl:=Option.some.inj H
    go_enter Tryz.func85,Tryz.ntmps85
    go_wp2_with (first |((with_reducible refine Qfs (N:=1) rfl ?_);refine qq_e 1 #[.int .u8 a0_0,.int .u32 a0_1] 27 ?_;intro gb103 hg w9 hbox hb;have n0_:=QA (Qfh qq_b hb);have n1_:=QA (hbox);have n2_:=QA (qq_s hg:w.heap.size≤gb103);have n3_:=n2_;clear HB;have HB:=n0_;have BK103:=n1_;have GW103:=n2_;have GE103:=n3_;clear n0_ n1_ n2_ n3_ hb hbox hg;have hcz10_0:=qq_c (.int .u8 a0_0) BK103.out 0 rfl;have hcz10_1:=qq_c (.int .u32 a0_1) BK103.out 1 rfl;have hfz10_0:=Qdt BK103.out 0;have hfz10_1:=Qdt BK103.out 1))
    go_ret
    exact⟨by first|rfl |(simp[Qis,Qit]<;>rfl) |(simp[*,Qis,Qit]<;>rfl),qq_b⟩
   ·rw[if_neg c8]at H
    have c8b0:decide (a0_1<1)=false:=decide_eq_false c8
    clear c8
    by_cases c11:a0_1 > 65536
    ·rw[if_pos c11]at H
     have c11b0:decide (65536<a0_1)=true:=decide_eq_true c11
     clear c11
     obtain rfl:=Option.some.inj H
     go_enter Tryz.func85,Tryz.ntmps85
     go_wp2_with (first |((with_reducible refine Qfs (N:=1) rfl ?_);refine qq_e 1 #[.int .u8 a0_0,.int .u32 a0_1] 27 ?_;intro gb103 hg w12 hbox hb;have n0_:=QA (Qfh qq_b hb);have n1_:=QA (hbox);have n2_:=QA (qq_s hg:w.heap.size≤gb103);have n3_:=n2_;clear HB;have HB:=n0_;have BK103:=n1_;have GW103:=n2_;have GE103:=n3_;clear n0_ n1_ n2_ n3_ hb hbox hg;have hcz13_0:=qq_c (.int .u8 a0_0) BK103.out 0 rfl;have hcz13_1:=qq_c (.int .u32 a0_1) BK103.out 1 rfl;have hfz13_0:=Qdt BK103.out 0;have hfz13_1:=Qdt BK103.out 1))
     go_ret
     exact⟨by first|rfl |(simp[Qis,Qit]<;>rfl) |(simp[*,Qis,Qit]<;>rfl),qq_b⟩
    ·rw[if_neg c11]at H
     have c11b0:decide (65536<a0_1)=false:=decide_eq_false c11
     clear c11
     obtain rfl:=Option.some.inj H
     go_enter Tryz.func85,Tryz.ntmps85
     go_wp2_with (first |((with_reducible refine Qfs (N:=1) rfl ?_);refine qq_e 1 #[.int .u8 a0_0,.int .u32 a0_1] 27 ?_;intro gb103 hg w14 hbox hb;have n0_:=QA (Qfh qq_b hb);have n1_:=QA (hbox);have n2_:=QA (qq_s hg:w.heap.size≤gb103);have n3_:=n2_;clear HB;have HB:=n0_;have BK103:=n1_;have GW103:=n2_;have GE103:=n3_;clear n0_ n1_ n2_ n3_ hb hbox hg;have hcz15_0:=qq_c (.int .u8 a0_0) BK103.out 0 rfl;have hcz15_1:=qq_c (.int .u32 a0_1) BK103.out 1 rfl;have hfz15_0:=Qdt BK103.out 0;have hfz15_1:=Qdt BK103.out 1))
     go_ret
     exact⟨by first|rfl |(simp[Qis,Qit]<;>rfl) |(simp[*,Qis,Qit]<;>rfl),qq_b⟩
def Qcj.f(a0_0:Int)(a0_1:Int)(a1:Int):Option (Int):=(Qao.f a0_0 a0_1).bind fun t105=>(if t105=0 then(if a1≥a0_1 then(some 1)else(some 0))else(some 1))
theorem Qcj.calls(a0_0:Int)(a0_1:Int)(a1:Int)(r:Int)(w:World)(h:Qcj.f a0_0 a0_1 a1=some r) :
  Calls Tryz.prog 93 #[.agg #[.int .u8 a0_0,.int .u32 a0_1],.int .u32 a1] w fun e w'=>e=.returned (.int .i64 r)∧Below w.heap.size w w':=by
 have hu27:=Tryz.underlying27
 have HB:=QA (Below.refl w.heap.size w)
 have H:((Qao.f a0_0 a0_1).bind fun t105=>(if t105=0 then(if a1≥a0_1 then(some 1)else(some 0))else(some 1)))=some r:=h
 clear h
 replace H:=Option.bind_eq_some_iff.mp H
 obtain⟨t105,A30,H⟩:=H
 replace H:(if t105=0 then(if a1≥a0_1 then(some 1)else(some 0))else(some 1))=some r:=H
 have A3:=QA A30
 clear A30
 by_cases c4:t105=0
 ·rw[if_pos c4]at H
  have c4b0:(t105 == 0)=true:=beq_iff_eq.mpr c4
  have c4b1:(t105 != 0)=false:=bne_eq_false_iff_eq.mpr c4
  clear c4
  by_cases c5:a1≥a0_1
  ·rw[if_pos c5]at H
   have c5b0:decide (a0_1≤a1)=true:=decide_eq_true c5
   clear c5
   obtain rfl:=Option.some.inj H
   go_enter Tryz.func93,Tryz.ntmps93
   go_wp2_with (first |((with_reducible refine Qfs (N:=2) rfl ?_);refine qq_e 2 #[.int .u8 a0_0,.int .u32 a0_1] 27 ?_;intro gb104 hg w6 hbox hb;have n0_:=QA (Qfh qq_b hb);have n1_:=QA (hbox);have n2_:=QA (qq_s hg:w.heap.size≤gb104);have n3_:=n2_;clear HB;have HB:=n0_;have BK104:=n1_;have GW104:=n2_;have GE104:=n3_;clear n0_ n1_ n2_ n3_ hb hbox hg;have hcz7_0:=qq_c (.int .u8 a0_0) BK104.out 0 rfl;have hcz7_1:=qq_c (.int .u32 a0_1) BK104.out 1 rfl;have hfz7_0:=Qdt BK104.out 0;have hfz7_1:=Qdt BK104.out 1) |((with_reducible refine Qin (f:=85) rfl ?_);refine Qgp (some 6) rfl rfl Tryz.func85 qq_6 rfl #[.agg #[.int .u8 a0_0,.int .u32 a0_1]] rfl qq_1 ?_;(with_reducible refine(Qao.calls a0_0 a0_1 t105 _ A3.out).mono ?_);rintro e w8 ⟨rfl,hb⟩;refine⟨_,rfl,?_⟩;have n0_:=QA (Qeh (g:=gb104) (o:=.cells #[.int .u8 a0_0,.int .u32 a0_1] 27 (0,0)) qq_0 hb);have n1_:=QA (Qfh qq_b hb);clear BK104 HB;have BK104:=n0_;have HB:=n1_;clear n0_ n1_;(try clear hb);(try clear hb2);(try clear hk);(try clear hi);have hcz9_0:=qq_c (.int .u8 a0_0) BK104.out 0 rfl;have hcz9_1:=qq_c (.int .u32 a0_1) BK104.out 1 rfl;have hfz9_0:=Qdt BK104.out 0;have hfz9_1:=Qdt BK104.out 1))
   go_ret
   exact⟨by first|rfl |(simp[Qis,Qit]<;>rfl) |(simp[*,Qis,Qit]<;>rfl),qq_b⟩
  ·rw[if_neg c5]at H
   have c5b0:decide (a0_1≤a1)=false:=decide_eq_false c5
   clear c5
   obtain rfl:=Option.some.inj H
   go_enter Tryz.func93,Tryz.ntmps93
   go_wp2_with (first |((with_reducible refine Qfs (N:=2) rfl ?_);refine qq_e 2 #[.int .u8 a0_0,.int .u32 a0_1] 27 ?_;intro gb104 hg w10 hbox hb;have n0_:=QA (Qfh qq_b hb);have n1_:=QA (hbox);have n2_:=QA (qq_s hg:w.heap.size≤gb104);have n3_:=n2_;clear HB;have HB:=n0_;have BK104:=n1_;have GW104:=n2_;have GE104:=n3_;clear n0_ n1_ n2_ n3_ hb hbox hg;have hcz11_0:=qq_c (.int .u8 a0_0) BK104.out 0 rfl;have hcz11_1:=qq_c (.int .u32 a0_1) BK104.out 1 rfl;have hfz11_0:=Qdt BK104.out 0;have hfz11_1:=Qdt BK104.out 1) |((with_reducible refine Qin (f:=85) rfl ?_);refine Qgp (some 6) rfl rfl Tryz.func85 qq_6 rfl #[.agg #[.int .u8 a0_0,.int .u32 a0_1]] rfl qq_1 ?_;(with_reducible refine(Qao.calls a0_0 a0_1 t105 _ A3.out).mono ?_);rintro e w12 ⟨rfl,hb⟩;refine⟨_,rfl,?_⟩;have n0_:=QA (Qeh (g:=gb104) (o:=.cells #[.int .u8 a0_0,.int .u32 a0_1] 27 (0,0)) qq_0 hb);have n1_:=QA (Qfh qq_b hb);clear BK104 HB;have BK104:=n0_;have HB:=n1_;clear n0_ n1_;(try clear hb);(try clear hb2);(try clear hk);(try clear hi);have hcz13_0:=qq_c (.int .u8 a0_0) BK104.out 0 rfl;have hcz13_1:=qq_c (.int .u32 a0_1) BK104.out 1 rfl;have hfz13_0:=Qdt BK104.out 0;have hfz13_1:=Qdt BK104.out 1))
   go_ret
   exact⟨by first|rfl |(simp[Qis,Qit]<;>rfl) |(simp[*,Qis,Qit]<;>rfl),qq_b⟩
 ·rw[if_neg c4]at H
  have c4b0:(t105 == 0)=false:=beq_eq_false_iff_ne.mpr c4
  have c4b1:(t105 != 0)=true:=bne_iff_ne.mpr c4
  obtain rfl:=Option.some.inj H
  go_enter Tryz.func93,Tryz.ntmps93
  go_wp2_with (first |((with_reducible refine Qfs (N:=2) rfl ?_);refine qq_e 2 #[.int .u8 a0_0,.int .u32 a0_1] 27 ?_;intro gb104 hg w14 hbox hb;have n0_:=QA (Qfh qq_b hb);have n1_:=QA (hbox);have n2_:=QA (qq_s hg:w.heap.size≤gb104);have n3_:=n2_;clear HB;have HB:=n0_;have BK104:=n1_;have GW104:=n2_;have GE104:=n3_;clear n0_ n1_ n2_ n3_ hb hbox hg;have hcz15_0:=qq_c (.int .u8 a0_0) BK104.out 0 rfl;have hcz15_1:=qq_c (.int .u32 a0_1) BK104.out 1 rfl;have hfz15_0:=Qdt BK104.out 0;have hfz15_1:=Qdt BK104.out 1) |((with_reducible refine Qin (f:=85) rfl ?_);refine Qgp (some 6) rfl rfl Tryz.func85 qq_6 rfl #[.agg #[.int .u8 a0_0,.int .u32 a0_1]] rfl qq_1 ?_;(with_reducible refine(Qao.calls a0_0 a0_1 t105 _ A3.out).mono ?_);rintro e w16 ⟨rfl,hb⟩;refine⟨_,rfl,?_⟩;have n0_:=QA (Qeh (g:=gb104) (o:=.cells #[.int .u8 a0_0,.int .u32 a0_1] 27 (0,0)) qq_0 hb);have n1_:=QA (Qfh qq_b hb);clear BK104 HB;have BK104:=n0_;have HB:=n1_;clear n0_ n1_;(try clear hb);(try clear hb2);(try clear hk);(try clear hi)))
  go_ret
  exact⟨by first|rfl |(simp[Qis,Qit]<;>rfl) |(simp[*,Qis,Qit]<;>rfl),qq_b⟩
def Qau.f(a0_0:ByteArray)(a0_1:Int)(a0_2:Int)(a1:Int):Option (ByteArray × Int × Int):=if a0_2=0 then(some (a0_0,a0_1,a1))else(some (a0_0,a0_1,a0_2))
theorem Qau.calls(a0_0:ByteArray)(a0_1:Int)(a0_2:Int)(a1:Int)(r1:ByteArray)(r2:Int)(r3:Int)(w:World)(h:Qau.f a0_0 a0_1 a0_2 a1=some (r1,r2,r3)) :
  Calls Tryz.prog 222 #[.agg #[.string a0_0,.int .i64 a0_1,.int .i64 a0_2],.int .i64 a1] w fun e w'=>e=.returned (.agg #[.string r1,.int .i64 r2,.int .i64 r3])∧Below w.heap.size w w':=by
 have hu257:=Tryz.underlying257
 have HB:=QA (Below.refl w.heap.size w)
 have H:(if a0_2=0 then(some (a0_0,a0_1,a1))else(some (a0_0,a0_1,a0_2)))=some (r1,r2,r3):=h
 clear h
 by_cases c3:a0_2=0
 ·rw[if_pos c3]at H
  have c3b0:(a0_2 == 0)=true:=beq_iff_eq.mpr c3
  have c3b1:(a0_2 != 0)=false:=bne_eq_false_iff_eq.mpr c3
  clear c3
  simp only[Option.some.injEq,Prod.mk.injEq]at H
  obtain⟨rfl,rfl,rfl⟩:=H
  go_enter Tryz.func222,Tryz.ntmps222
  go_wp2_with (first |((with_reducible refine Qfs (N:=2) rfl ?_);refine qq_e 2 #[.string a0_0,.int .i64 a0_1,.int .i64 a0_2] 257 ?_;intro gb648 hg w4 hbox hb;have n0_:=QA (Qfh qq_b hb);have n1_:=QA (hbox);have n2_:=QA (qq_s hg:w.heap.size≤gb648);have n3_:=n2_;clear HB;have HB:=n0_;have BK648:=n1_;have GW648:=n2_;have GE648:=n3_;clear n0_ n1_ n2_ n3_;clear hb hbox hg) |((with_reducible refine Qfs (N:=4) rfl ?_);refine qq_e 4 #[.string (⟨#[]⟩:ByteArray),.int .i64 0,.int .i64 0] 257 ?_;intro gb649 hg w5 hbox hb;have n0_:=QA (Qeh (g:=gb648) (o:=.cells #[.string a0_0,.int .i64 a0_1,.int .i64 a0_2] 257 (0,0)) qq_0 hb);have n1_:=QA (Qfh qq_b hb);have n2_:=QA (hbox);have n3_:=QA (qq_s hg:w.heap.size≤gb649);have n4_:=n3_;have n5_:=QA ((by rw[hg];exact Nat.ne_of_lt (Qdr (g:=gb648) (o:=.cells #[.string a0_0,.int .i64 a0_1,.int .i64 a0_2] 257 (0,0)) qq_0):gb648≠gb649));have n6_:=QA ((by rw[hg];exact Nat.ne_of_gt (Qdr (g:=gb648) (o:=.cells #[.string a0_0,.int .i64 a0_1,.int .i64 a0_2] 257 (0,0)) qq_0):gb649≠gb648));clear BK648 HB;have BK648:=n0_;have HB:=n1_;have BK649:=n2_;have GW649:=n3_;have GE649:=n4_;have NB648_649:=n5_;have NB649_648:=n6_;clear n0_ n1_ n2_ n3_ n4_ n5_ n6_ hb hbox hg;have hnb6:=NB648_649.out;have hnc6:=NB649_648.out;have hcz7_0:=qq_c (.string a0_0) BK648.out 0 rfl;have hcz7_1:=qq_c (.int .i64 a0_1) BK648.out 1 rfl;have hcz7_2:=qq_c (.int .i64 a0_2) BK648.out 2 rfl;have hfz7_0:=Qdt BK648.out 0;have hfz7_1:=Qdt BK648.out 1;have hfz7_2:=Qdt BK648.out 2;have hcz8_0:=qq_c (.string (⟨#[]⟩:ByteArray)) BK649.out 0 rfl;have hcz8_1:=qq_c (.int .i64 0) BK649.out 1 rfl;have hcz8_2:=qq_c (.int .i64 0) BK649.out 2 rfl;have hfz8_0:=Qdt BK649.out 0;have hfz8_1:=Qdt BK649.out 1;have hfz8_2:=Qdt BK649.out 2))
  refine bodyPost_ret (results_cell_row rfl _ _ gb649 257 #[.string a0_0,.int .i64 a0_1,.int .i64 a1] (0,0) _ rfl (by(with_reducible repeat(first|apply Qeg|apply Qef|apply Qee));refine Qfn (cs:=#[.string a0_0,.int .i64 a0_1,.int .i64 0]) ?_ 2 _ rfl;(with_reducible repeat(first|apply Qeg|apply Qef|apply Qee));refine Qfn (cs:=#[.string a0_0,.int .i64 0,.int .i64 0]) ?_ 1 _ rfl;(with_reducible repeat(first|apply Qeg|apply Qef|apply Qee));refine Qfn (cs:=#[.string (⟨#[]⟩:ByteArray),.int .i64 0,.int .i64 0]) ?_ 0 _ rfl;(with_reducible repeat(first|apply Qeg|apply Qef|apply Qee));refine Qdq ?_ NB649_648.out _;(with_reducible repeat(first|apply Qeg|apply Qef|apply Qee));exact BK649.out) Tryz.underlying257 rfl qq_6) rfl ?_
  exact⟨by first|rfl |(simp[Qis,Qit]<;>rfl) |(simp[*,Qis,Qit]<;>rfl),qq_b⟩
 ·rw[if_neg c3]at H
  have c3b0:(a0_2 == 0)=false:=beq_eq_false_iff_ne.mpr c3
  have c3b1:(a0_2 != 0)=true:=bne_iff_ne.mpr c3
  simp only[Option.some.injEq,Prod.mk.injEq]at H
  obtain⟨rfl,rfl,rfl⟩:=H
  go_enter Tryz.func222,Tryz.ntmps222
  go_wp2_with (first |((with_reducible refine Qfs (N:=2) rfl ?_);refine qq_e 2 #[.string a0_0,.int .i64 a0_1,.int .i64 a0_2] 257 ?_;intro gb648 hg w9 hbox hb;have n0_:=QA (Qfh qq_b hb);have n1_:=QA (hbox);have n2_:=QA (qq_s hg:w.heap.size≤gb648);have n3_:=n2_;clear HB;have HB:=n0_;have BK648:=n1_;have GW648:=n2_;have GE648:=n3_;clear n0_ n1_ n2_ n3_;clear hb hbox hg) |((with_reducible refine Qfs (N:=4) rfl ?_);refine qq_e 4 #[.string (⟨#[]⟩:ByteArray),.int .i64 0,.int .i64 0] 257 ?_;intro gb649 hg w10 hbox hb;have n0_:=QA (Qeh (g:=gb648) (o:=.cells #[.string a0_0,.int .i64 a0_1,.int .i64 a0_2] 257 (0,0)) qq_0 hb);have n1_:=QA (Qfh qq_b hb);have n2_:=QA (hbox);have n3_:=QA (qq_s hg:w.heap.size≤gb649);have n4_:=n3_;have n5_:=QA ((by rw[hg];exact Nat.ne_of_lt (Qdr (g:=gb648) (o:=.cells #[.string a0_0,.int .i64 a0_1,.int .i64 a0_2] 257 (0,0)) qq_0):gb648≠gb649));have n6_:=QA ((by rw[hg];exact Nat.ne_of_gt (Qdr (g:=gb648) (o:=.cells #[.string a0_0,.int .i64 a0_1,.int .i64 a0_2] 257 (0,0)) qq_0):gb649≠gb648));clear BK648 HB;have BK648:=n0_;have HB:=n1_;have BK649:=n2_;have GW649:=n3_;have GE649:=n4_;have NB648_649:=n5_;have NB649_648:=n6_;clear n0_ n1_ n2_ n3_ n4_ n5_ n6_ hb hbox hg;have hnb11:=NB648_649.out;have hnc11:=NB649_648.out;have hcz12_0:=qq_c (.string a0_0) BK648.out 0 rfl;have hcz12_1:=qq_c (.int .i64 a0_1) BK648.out 1 rfl;have hcz12_2:=qq_c (.int .i64 a0_2) BK648.out 2 rfl;have hfz12_0:=Qdt BK648.out 0;have hfz12_1:=Qdt BK648.out 1;have hfz12_2:=Qdt BK648.out 2;have hcz13_0:=qq_c (.string (⟨#[]⟩:ByteArray)) BK649.out 0 rfl;have hcz13_1:=qq_c (.int .i64 0) BK649.out 1 rfl;have hcz13_2:=qq_c (.int .i64 0) BK649.out 2 rfl;have hfz13_0:=Qdt BK649.out 0;have hfz13_1:=Qdt BK649.out 1;have hfz13_2:=Qdt BK649.out 2))
  refine bodyPost_ret (results_cell_row rfl _ _ gb649 257 #[.string a0_0,.int .i64 a0_1,.int .i64 a0_2] (0,0) _ rfl (by(with_reducible repeat(first|apply Qeg|apply Qef|apply Qee));refine Qfn (cs:=#[.string a0_0,.int .i64 a0_1,.int .i64 0]) ?_ 2 _ rfl;(with_reducible repeat(first|apply Qeg|apply Qef|apply Qee));refine Qfn (cs:=#[.string a0_0,.int .i64 0,.int .i64 0]) ?_ 1 _ rfl;(with_reducible repeat(first|apply Qeg|apply Qef|apply Qee));refine Qfn (cs:=#[.string (⟨#[]⟩:ByteArray),.int .i64 0,.int .i64 0]) ?_ 0 _ rfl;(with_reducible repeat(first|apply Qeg|apply Qef|apply Qee));exact BK649.out) Tryz.underlying257 rfl qq_6) rfl ?_
  exact⟨by first|rfl |(simp[Qis,Qit]<;>rfl) |(simp[*,Qis,Qit]<;>rfl),qq_b⟩
def Qat.f(a0_0:ByteArray)(a0_1:Int)(a0_2:Int):Option (ByteArray × Int × Int):=if a0_0.toList=([]:List UInt8)then(some (a0_0,a0_1,a0_2))else((Qau.f a0_0 a0_1 a0_2 3).bind fun bt685=>(some (bt685.1,bt685.2.1,bt685.2.2)))
theorem Qat.calls(a0_0:ByteArray)(a0_1:Int)(a0_2:Int)(r1:ByteArray)(r2:Int)(r3:Int)(w:World)(h:Qat.f a0_0 a0_1 a0_2=some (r1,r2,r3)) :
  Calls Tryz.prog 189 #[.agg #[.string a0_0,.int .i64 a0_1,.int .i64 a0_2]] w fun e w'=>e=.returned (.agg #[.string r1,.int .i64 r2,.int .i64 r3])∧Below w.heap.size w w':=by
 have hu257:=Tryz.underlying257
 have HB:=QA (Below.refl w.heap.size w)
 have H:(if a0_0.toList=([]:List UInt8)then(some (a0_0,a0_1,a0_2))else((Qau.f a0_0 a0_1 a0_2 3).bind fun bt685=>(some (bt685.1,bt685.2.1,bt685.2.2))))=some (r1,r2,r3):=h
 clear h
 by_cases c2:a0_0.toList=([]:List UInt8)
 ·rw[if_pos c2]at H
  have c2b0:(a0_0.toList == ([]:List UInt8))=true:=beq_iff_eq.mpr c2
  have c2b1:(a0_0.toList != ([]:List UInt8))=false:=bne_eq_false_iff_eq.mpr c2
  clear c2
  simp only[Option.some.injEq,Prod.mk.injEq]at H
  obtain⟨rfl,rfl,rfl⟩:=H
  go_enter Tryz.func189,Tryz.ntmps189
  go_wp2_with (first |((with_reducible refine Qfs (N:=1) rfl ?_);refine qq_e 1 #[.string a0_0,.int .i64 a0_1,.int .i64 a0_2] 257 ?_;intro gb683 hg w3 hbox hb;have n0_:=QA (Qfh qq_b hb);have n1_:=QA (hbox);have n2_:=QA (qq_s hg:w.heap.size≤gb683);have n3_:=n2_;clear HB;have HB:=n0_;have BK683:=n1_;have GW683:=n2_;have GE683:=n3_;clear n0_ n1_ n2_ n3_;clear hb hbox hg) |((with_reducible refine Qfs (N:=2) rfl ?_);refine qq_e 2 #[.string (⟨#[]⟩:ByteArray),.int .i64 0,.int .i64 0] 257 ?_;intro gb684 hg w4 hbox hb;have n0_:=QA (Qeh (g:=gb683) (o:=.cells #[.string a0_0,.int .i64 a0_1,.int .i64 a0_2] 257 (0,0)) qq_0 hb);have n1_:=QA (Qfh qq_b hb);have n2_:=QA (hbox);have n3_:=QA (qq_s hg:w.heap.size≤gb684);have n4_:=n3_;have n5_:=QA ((by rw[hg];exact Nat.ne_of_lt (Qdr (g:=gb683) (o:=.cells #[.string a0_0,.int .i64 a0_1,.int .i64 a0_2] 257 (0,0)) qq_0):gb683≠gb684));have n6_:=QA ((by rw[hg];exact Nat.ne_of_gt (Qdr (g:=gb683) (o:=.cells #[.string a0_0,.int .i64 a0_1,.int .i64 a0_2] 257 (0,0)) qq_0):gb684≠gb683));clear BK683 HB;have BK683:=n0_;have HB:=n1_;have BK684:=n2_;have GW684:=n3_;have GE684:=n4_;have NB683_684:=n5_;have NB684_683:=n6_;clear n0_ n1_ n2_ n3_ n4_ n5_ n6_ hb hbox hg;have hnb5:=NB683_684.out;have hnc5:=NB684_683.out;have hcz6_0:=qq_c (.string a0_0) BK683.out 0 rfl;have hcz6_1:=qq_c (.int .i64 a0_1) BK683.out 1 rfl;have hcz6_2:=qq_c (.int .i64 a0_2) BK683.out 2 rfl;have hfz6_0:=Qdt BK683.out 0;have hfz6_1:=Qdt BK683.out 1;have hfz6_2:=Qdt BK683.out 2;have hcz7_0:=qq_c (.string (⟨#[]⟩:ByteArray)) BK684.out 0 rfl;have hcz7_1:=qq_c (.int .i64 0) BK684.out 1 rfl;have hcz7_2:=qq_c (.int .i64 0) BK684.out 2 rfl;have hfz7_0:=Qdt BK684.out 0;have hfz7_1:=Qdt BK684.out 1;have hfz7_2:=Qdt BK684.out 2))
  refine bodyPost_ret (results_cell_row rfl _ _ gb684 257 #[.string a0_0,.int .i64 a0_1,.int .i64 a0_2] (0,0) _ rfl (by(with_reducible repeat(first|apply Qeg|apply Qef|apply Qee));refine Qfn (cs:=#[.string a0_0,.int .i64 a0_1,.int .i64 0]) ?_ 2 _ rfl;(with_reducible repeat(first|apply Qeg|apply Qef|apply Qee));refine Qfn (cs:=#[.string a0_0,.int .i64 0,.int .i64 0]) ?_ 1 _ rfl;(with_reducible repeat(first|apply Qeg|apply Qef|apply Qee));refine Qfn (cs:=#[.string (⟨#[]⟩:ByteArray),.int .i64 0,.int .i64 0]) ?_ 0 _ rfl;(with_reducible repeat(first|apply Qeg|apply Qef|apply Qee));exact BK684.out) Tryz.underlying257 rfl qq_6) rfl ?_
  exact⟨by first|rfl |(simp[Qis,Qit]<;>rfl) |(simp[*,Qis,Qit]<;>rfl),qq_b⟩
 ·rw[if_neg c2]at H
  have c2b0:(a0_0.toList == ([]:List UInt8))=false:=beq_eq_false_iff_ne.mpr c2
  have c2b1:(a0_0.toList != ([]:List UInt8))=true:=bne_iff_ne.mpr c2
  replace H:=Option.bind_eq_some_iff.mp H
  obtain⟨⟨t685,t686,t687⟩,A80,H⟩:=H
  replace H:(some (t685,t686,t687))=some (r1,r2,r3):=H
  have A8:=QA A80
  clear A80
  simp only[Option.some.injEq,Prod.mk.injEq]at H
  obtain⟨rfl,rfl,rfl⟩:=H
  go_enter Tryz.func189,Tryz.ntmps189
  go_wp2_with (first |((with_reducible refine Qfs (N:=1) rfl ?_);refine qq_e 1 #[.string a0_0,.int .i64 a0_1,.int .i64 a0_2] 257 ?_;intro gb683 hg w9 hbox hb;have n0_:=QA (Qfh qq_b hb);have n1_:=QA (hbox);have n2_:=QA (qq_s hg:w.heap.size≤gb683);have n3_:=n2_;clear HB;have HB:=n0_;have BK683:=n1_;have GW683:=n2_;have GE683:=n3_;clear n0_ n1_ n2_ n3_;clear hb hbox hg) |((with_reducible refine Qfs (N:=2) rfl ?_);refine qq_e 2 #[.string (⟨#[]⟩:ByteArray),.int .i64 0,.int .i64 0] 257 ?_;intro gb684 hg w10 hbox hb;have n0_:=QA (Qeh (g:=gb683) (o:=.cells #[.string a0_0,.int .i64 a0_1,.int .i64 a0_2] 257 (0,0)) qq_0 hb);have n1_:=QA (Qfh qq_b hb);have n2_:=QA (hbox);have n3_:=QA (qq_s hg:w.heap.size≤gb684);have n4_:=n3_;have n5_:=QA ((by rw[hg];exact Nat.ne_of_lt (Qdr (g:=gb683) (o:=.cells #[.string a0_0,.int .i64 a0_1,.int .i64 a0_2] 257 (0,0)) qq_0):gb683≠gb684));have n6_:=QA ((by rw[hg];exact Nat.ne_of_gt (Qdr (g:=gb683) (o:=.cells #[.string a0_0,.int .i64 a0_1,.int .i64 a0_2] 257 (0,0)) qq_0):gb684≠gb683));clear BK683 HB;have BK683:=n0_;have HB:=n1_;have BK684:=n2_;have GW684:=n3_;have GE684:=n4_;have NB683_684:=n5_;have NB684_683:=n6_;clear n0_ n1_ n2_ n3_ n4_ n5_ n6_ hb hbox hg;have hnb11:=NB683_684.out;have hnc11:=NB684_683.out;have hcz12_0:=qq_c (.string a0_0) BK683.out 0 rfl;have hcz12_1:=qq_c (.int .i64 a0_1) BK683.out 1 rfl;have hcz12_2:=qq_c (.int .i64 a0_2) BK683.out 2 rfl;have hfz12_0:=Qdt BK683.out 0;have hfz12_1:=Qdt BK683.out 1;have hfz12_2:=Qdt BK683.out 2) |((with_reducible refine Qin (f:=222) rfl ?_);refine Qgp (some 7) rfl rfl Tryz.func222 qq_6 rfl #[.agg #[.string a0_0,.int .i64 a0_1,.int .i64 a0_2],.int .i64 3] rfl qq_1 ?_;(with_reducible refine(Qau.calls a0_0 a0_1 a0_2 3 t685 t686 t687 _ A8.out).mono ?_);rintro e w13 ⟨rfl,hb⟩;refine⟨_,rfl,?_⟩;have n0_:=QA (Qeh (g:=gb683) (o:=.cells #[.string a0_0,.int .i64 a0_1,.int .i64 a0_2] 257 (0,0)) qq_0 hb);have n1_:=QA (Qeh (g:=gb684) (o:=.cells #[.string (⟨#[]⟩:ByteArray),.int .i64 0,.int .i64 0] 257 (0,0)) qq_0 hb);have n2_:=QA (Qfh qq_b hb);clear BK683 BK684 HB;have BK683:=n0_;have BK684:=n1_;have HB:=n2_;clear n0_ n1_ n2_;(try clear hb);(try clear hb2);(try clear hk);(try clear hi);have hcz14_0:=qq_c (.string (⟨#[]⟩:ByteArray)) BK684.out 0 rfl;have hcz14_1:=qq_c (.int .i64 0) BK684.out 1 rfl;have hcz14_2:=qq_c (.int .i64 0) BK684.out 2 rfl;have hfz14_0:=Qdt BK684.out 0;have hfz14_1:=Qdt BK684.out 1;have hfz14_2:=Qdt BK684.out 2))
  refine bodyPost_ret (results_cell_row rfl _ _ gb684 257 #[.string t685,.int .i64 t686,.int .i64 t687] (0,0) _ rfl (by(with_reducible repeat(first|apply Qeg|apply Qef|apply Qee));refine Qfn (cs:=#[.string t685,.int .i64 t686,.int .i64 0]) ?_ 2 _ rfl;(with_reducible repeat(first|apply Qeg|apply Qef|apply Qee));refine Qfn (cs:=#[.string t685,.int .i64 0,.int .i64 0]) ?_ 1 _ rfl;(with_reducible repeat(first|apply Qeg|apply Qef|apply Qee));refine Qfn (cs:=#[.string (⟨#[]⟩:ByteArray),.int .i64 0,.int .i64 0]) ?_ 0 _ rfl;(with_reducible repeat(first|apply Qeg|apply Qef|apply Qee));exact BK684.out) Tryz.underlying257 rfl qq_6) rfl ?_
  exact⟨by first|rfl |(simp[Qis,Qit]<;>rfl) |(simp[*,Qis,Qit]<;>rfl),qq_b⟩
end Go.Proofs.YtnnofopfbeklbaaGreat.C
end
