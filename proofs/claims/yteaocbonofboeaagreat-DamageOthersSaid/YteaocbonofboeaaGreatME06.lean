/- Merged texts. -/
import Derived.Test.YteaocbonofboeaaGreatME02
import Derived.Test.YteaocbonofboeaaGreatME05
set_option linter.unusedVariables false
set_option linter.unusedSimpArgs false
set_option maxHeartbeats 8000000
set_option maxRecDepth 100000
section
namespace Go.Proofs.YteaocbonofboeaaGreat.C
open Go.RowKit Go.Proofs.YteaocbonofboeaaGreatW.PrintWords Go.Proofs.YteaocbonofboeaaGreatW.PrintLast Go.Proofs.YteaocbonofboeaaGreatW.PrintMore
attribute [local go_sem] Qie Qif Qig Qih Qii Qij Qik Qil
def Qae.f(l0:List Int)(l1:List Int):Option (Bool):=some ((strOfNums l0).toList == (strOfNums l1).toList)
theorem Qae.calls(A0:Option Addr)(c0:Nat)(l0:List Int)(A1:Option Addr)(c1:Nat)(l1:List Int)(r:Bool)(w:World)(hr0:Kd.C (Kd.int .u8) w A0 l0.length l0)(hc0:l0.length≤c0)(hr1:Kd.C (Kd.int .u8) w A1 l1.length l1)(hc1:l1.length≤c1)(h:Qae.f l0 l1=some r) :
  Calls Tryz.prog 96 #[.slice A0 l0.length c0,.slice A1 l1.length c1] w fun e w'=>e=.returned (.bool r)∧Drawn0 w w':=by
 have HR0:=QA hr0;have HC0:=QA hc0;clear hr0 hc0;have HR1:=QA hr1;have HC1:=QA hc1;clear hr1 hc1;have H:(some ((strOfNums l0).toList == (strOfNums l1).toList))=some r:=h;clear h;obtain rfl:=Option.some.inj H;have hcv3:=Kd.C_string (P:=Tryz.prog) (A:=A0) (c:=c0) Tryz.underlying40 Tryz.underlying5 Tryz.underlying9 HR0.out;have hcv4:=Kd.C_string (P:=Tryz.prog) (A:=A1) (c:=c1) Tryz.underlying40 Tryz.underlying5 Tryz.underlying9 HR1.out
 go_enter Tryz.func96,Tryz.ntmps96
 go_wp2;go_ret
 exact⟨by first|rfl |(simp;done) |(simp[*];done),by repeat(first|exact Drawn0.refl _|apply Drawn0.step)⟩
mutual
def Qbk.l0:Nat→ByteArray→ByteArray→ByteArray→Int→Option (ByteArray)
 | 0,_,_,_,_=>none
 | k+1,x3,x4,x5,x6=>if x6<(x3.size:Int)then(if 0≤x6 then(if(bt x3 x6)=0 then(if x6=(wrap64 ((x3.size:Int)-1))then(if x5.toList=([]:List UInt8)then(if x6 > 0 then(if 0≤(wrap64 (x6-1))then(if(wrap64 (x6-1))<(x3.size:Int)then(Qbk.j1 k x3 x4 x5 x6 ((bt x3 (wrap64 (x6-1))) != 0))else(none))else(none))else(Qbk.j1 k x3 x4 x5 x6 false))else(Qbk.j1 k x3 x4 x5 x6 false))else(Qbk.j1 k x3 x4 x5 x6 false))else(if x6≤(wrap64 (x6+1))then(if(wrap64 (x6+1))≤(x3.size:Int)then(if x5.size+(x3.extract (x6:Int).toNat ((wrap64 (x6+1)):Int).toNat).size≤9223372036854775807 then(if((x5++(x3.extract (x6:Int).toNat ((wrap64 (x6+1)):Int).toNat)).size:Int)=254 then(if x4.size+1≤9223372036854775807 then(if(x4++(⟨#[255]⟩:ByteArray)).size+(x5++(x3.extract (x6:Int).toNat ((wrap64 (x6+1)):Int).toNat)).size≤9223372036854775807 then(Qbk.l0 k x3 ((x4++(⟨#[255]⟩:ByteArray))++(x5++(x3.extract (x6:Int).toNat ((wrap64 (x6+1)):Int).toNat))) (⟨#[]⟩:ByteArray) (wrap64 (x6+1)))else(none))else(none))else(Qbk.l0 k x3 x4 (x5++(x3.extract (x6:Int).toNat ((wrap64 (x6+1)):Int).toNat)) (wrap64 (x6+1))))else(none))else(none))else(none)))else(none))else(some x4)
def Qbk.j1:Nat→ByteArray→ByteArray→ByteArray→Int→Bool→Option (ByteArray)
 | 0,_,_,_,_,_=>none
 | k+1,x3,x4,x5,x6,x38=>if x38=true then(some x4)else((some (([(wrap64 ((x5.size:Int)+1))%256]:List Int):List Int)).bind fun y127=>(if x4.size+(strOfNums y127).size≤9223372036854775807 then(if(x4++(strOfNums y127)).size+x5.size≤9223372036854775807 then(Qbk.l0 k x3 ((x4++(strOfNums y127))++x5) (⟨#[]⟩:ByteArray) (wrap64 (x6+1)))else(none))else(none)))
end
def Qbk.f(k:Nat)(a0:ByteArray):Option (ByteArray):=if a0.size+1≤9223372036854775807 then(Qbk.l0 k (a0++(⟨#[0]⟩:ByteArray)) (⟨#[]⟩:ByteArray) (⟨#[]⟩:ByteArray) 0)else(none)
theorem Qbk.calls (k:Nat) (a0:ByteArray) (r:ByteArray) (w:World) (h:Qbk.f k a0=some r) :
  Calls Tryz.prog 132 #[.string a0] w fun e w'=>e=.returned (.string r)∧Below w.heap.size w w':=by
 have HB:=QA (Below.refl w.heap.size w);have H:(if a0.size+1≤9223372036854775807 then(Qbk.l0 k (a0++(⟨#[0]⟩:ByteArray)) (⟨#[]⟩:ByteArray) (⟨#[]⟩:ByteArray) 0)else(none))=some r:=h;clear h
 by_cases c2:a0.size+1≤9223372036854775807
 ·rw [if_pos c2]at H;have L:=eq_true c2;have O:=decide_eq_true c2
  try have T:(9223372036854775807<a0.size+1)=False:=eq_false (Nat.not_lt.2 c2)
  have H':=QA H;clear H
  go_enter Tryz.func132,Tryz.ntmps132
  go_wp2;generalize hal:a0++(⟨#[0]⟩:ByteArray)=al at *;clear hal
  go_loopg [4,5,6] k (fun kq v4 v5 v6 w'=>∃(c:ByteArray) (b:ByteArray) (a:Int),v4=.string c∧v5=.string b∧v6=.int .i64 a∧Aside0 (Qbk.l0 kq al c b a=some r)∧Aside0 (kq≤k)∧Aside0 (Below w.heap.size w w'))
  case atStart=>exact⟨((⟨#[]⟩:ByteArray)),((⟨#[]⟩:ByteArray)),(0),qq_5,qq_5,qq_5,H',⟨Nat.le_refl _⟩,⟨qq_b⟩⟩
  case round =>
   clear H'
   try clear c2
   try clear L
   try clear O
   try clear T
   obtain⟨c,b,a,rfl,rfl,rfl,HA,HK1,HB⟩:=hrel
   cases gk with
   | zero=>exact absurd HA.out (by simp[Qbk.l0])
   | succ k1 =>
    have H:=HA.out;clear HA;simp only[Qbk.l0]at H
    by_cases c3:a<(al.size:Int)
    ·rw [if_pos c3]at H;have U:=decide_eq_true c3;clear c3
     by_cases c4:0≤a
     ·rw [if_pos c4]at H;have ao:=decide_eq_true c4;clear c4
      by_cases c6:(bt al a)=0
      ·rw [if_pos c6]at H;have W:((bt al a) == 0)=true:=beq_iff_eq.mpr c6;have X:((bt al a) != 0)=false:=bne_eq_false_iff_eq.mpr c6;clear c6;have Y:=QA H;clear H;have p5:0≤(a:Int):=of_decide_eq_true qq_2;have q5:a<(al.size:Int):=of_decide_eq_true qq_2;have Z:=Qcr al a;replace p5:=eq_true p5;replace q5:=eq_true q5
       go_upto_region 8 with(fail)
       go_cut [38] (fun aq wc=>∃(kq:Nat) (m:Bool),aq=.bool m∧Aside0 (Qbk.j1 kq al c b a m=some r)∧Aside0 (kq≤k1)∧Aside0 (Below w.heap.size w wc))
       case first =>
        have H:=Y.out;clear Y
        by_cases c8:a=(wrap64 ((al.size:Int)-1))
        ·rw [if_pos c8]at H;have l:(a == (wrap64 ((al.size:Int)-1)))=true:=beq_iff_eq.mpr c8;have aa:(a != (wrap64 ((al.size:Int)-1)))=false:=bne_eq_false_iff_eq.mpr c8;clear c8
         (first|rw[l] |(simp only[Qgq,Qgr];rw[l])|skip)
         by_cases c9:b.toList=([]:List UInt8)
         ·rw [if_pos c9]at H;have ab:(b.toList == ([]:List UInt8))=true:=beq_iff_eq.mpr c9;have ac:(b.toList != ([]:List UInt8))=false:=bne_eq_false_iff_eq.mpr c9;clear c9
          by_cases c10:a > 0
          ·rw[if_pos c10]at H;have z:decide (0<a)=true:=decide_eq_true c10;clear c10;obtain⟨d,n⟩:∃j_:Int,(wrap64 (a-1))=j_:=⟨_,rfl⟩;replace H:(if 0≤(d)then(if(d)<(al.size:Int)then(Qbk.j1 k1 al c b a ((bt al (d)) != 0))else(none))else(none))=some r:=by first |(rw[n]at H;exact H) |(simp only[n]at H ⊢;exact H)
           have ar:(IntKind.i64.wrap (a-1))=d:=(Qgq _).trans n
           by_cases q:0≤(d)
           ·rw[if_pos q]at H;have ae:=decide_eq_true q;clear q
            by_cases s:(d)<(al.size:Int)
            ·rw[if_pos s]at H;have af:=decide_eq_true s;clear s;have H':=QA H;clear H;have A:0≤((d):Int):=of_decide_eq_true qq_2;have B:(d)<(al.size:Int):=of_decide_eq_true qq_2;have ap:=Qcr al (d);replace A:=eq_true A;replace B:=eq_true B;go_wp2
             go_meet
             case rel=>exact⟨_,(((bt al (d)) != 0)),(by first|rfl |(simp;done) |(simp only[← n]<;>(first|rfl|simp)) |(simp[*];done)),H',⟨by have:=HK1.out;first|omega|exact Nat.le_refl _⟩,⟨qq_b⟩⟩
            ·rw[if_neg s]at H;exact absurd H (by simp)
           ·rw[if_neg q]at H;exact absurd H (by simp)
          ·rw[if_neg c10]at H;have z:decide (0<a)=false:=decide_eq_false c10;clear c10;have H':=QA H;clear H;go_wp2
           go_meet
           case rel=>exact⟨_,(false),qq_5,H',⟨by have:=HK1.out;first|omega|exact Nat.le_refl _⟩,⟨qq_b⟩⟩
         ·rw[if_neg c9]at H;have ab:(b.toList == ([]:List UInt8))=false:=beq_eq_false_iff_ne.mpr c9;have ac:(b.toList != ([]:List UInt8))=true:=bne_iff_ne.mpr c9;have H':=QA H;clear H;go_wp2
          go_meet
          case rel=>exact⟨_,(false),qq_5,H',⟨by have:=HK1.out;first|omega|exact Nat.le_refl _⟩,⟨qq_b⟩⟩
        ·rw[if_neg c8]at H;have l:(a == (wrap64 ((al.size:Int)-1)))=false:=beq_eq_false_iff_ne.mpr c8;have aa:(a != (wrap64 ((al.size:Int)-1)))=true:=bne_iff_ne.mpr c8
         (first|rw[l] |(simp only[Qgq,Qgr];rw[l])|skip)
         have H':=QA H;clear H;go_wp2
         go_meet
         case rel=>exact⟨_,(false),qq_5,H',⟨by have:=HK1.out;first|omega|exact Nat.le_refl _⟩,⟨qq_b⟩⟩
       case rest =>
        clear Y
        try clear c2
        try clear L
        try clear O
        try clear T
        try clear c3
        try clear U
        try clear c4
        try clear ao
        try clear p5
        try clear q5
        try clear Z
        try clear c6
        try clear W
        try clear X
        try clear c8
        try clear l
        try clear aa
        try clear c9
        try clear ab
        try clear ac
        try clear c10
        try clear z
        try clear q
        try clear ae
        try clear s
        try clear af
        try clear A
        try clear B
        try clear ap
        try clear A
        try clear p5
        try clear B
        try clear q5
        obtain⟨kq,m,rfl,HA,HJ6,HB⟩:=hcut
        cases kq with
        | zero=>exact absurd HA.out (by simp[Qbk.j1])
        | succ kj6 =>
         have H:=HA.out;clear HA;simp only[Qbk.j1]at H
         by_cases D:m=true
         ·subst D;rw[if_pos rfl]at H;obtain rfl:=Option.some.inj H;go_wp2;go_ret
          exact⟨qq_6,qq_b⟩
         ·replace D:=Bool.eq_false_iff.mpr D;subst D;rw[if_neg (show ¬(false=true)by decide)]at H;obtain⟨g,j⟩:∃y_:List Int,y_=(([(wrap64 ((b.size:Int)+1))%256]:List Int)):=⟨_,rfl⟩;replace H:(if c.size+(strOfNums g).size≤9223372036854775807 then(if(c++(strOfNums g)).size+b.size≤9223372036854775807 then(Qbk.l0 kj6 al ((c++(strOfNums g))++b) (⟨#[]⟩:ByteArray) (wrap64 (a+1)))else(none))else(none))=some r:=by first |(rw[j];with_reducible exact H) |(have ad:=(Option.bind_some _ _).symm.trans H;rw[j];with_reducible exact ad) |(have ad:=(Option.bind_some _ _).symm.trans H;with_reducible exact ad)|with_reducible exact H |(rw[j];exact H)|exact H
          have E:=QA j;clear j
          by_cases t:c.size+(strOfNums g).size≤9223372036854775807
          ·rw[if_pos t]at H;have au:=eq_true t;have av:=decide_eq_true t
           try have aw:(9223372036854775807<c.size+(strOfNums g).size)=False:=eq_false (Nat.not_lt.2 t)
           by_cases u:(c++(strOfNums g)).size+b.size≤9223372036854775807
           ·rw[if_pos u]at H;have ax:=eq_true u;have ay:=decide_eq_true u
            try have G:(9223372036854775807<(c++(strOfNums g)).size+b.size)=False:=eq_false (Nat.not_lt.2 u)
            try have ag:=G
            try simp only[ByteArray.size_append,(show ∀x_:UInt8,(⟨#[x_]⟩:ByteArray).size=1 from fun _=>rfl),(show ∀x_ y_:UInt8,(⟨#[x_,y_]⟩:ByteArray).size=2 from fun _ _=>rfl)]at ag
            try have ah:=G
            try simp only[ByteArray.size_append,ByteArray.size_extract,(show ∀x_:UInt8,(⟨#[x_]⟩:ByteArray).size=1 from fun _=>rfl),(show ∀x_ y_:UInt8,(⟨#[x_,y_]⟩:ByteArray).size=2 from fun _ _=>rfl)]at ah
            have H':=QA H;clear H
            go_wp2_with (first |((with_reducible refine Qft (N:=44) rfl ?_);refine Kd.R_lit (Kd.int .u8) _ 5 ?hg (N:=44) ?hd (xs:=([(wrap64 ((b.size:Int)+1))%256]:List Int)) (inner:=[.int .u8 ((wrap64 ((b.size:Int)+1))%256)]) (ok:=fun _=>True) (okp:=fun _=>True) ?hr ?hp (fun _ hk=>hk) trivial (Below.refl _ _) (Nat.le_refl _) (by simp) ?_;(case hd=>rfl);(case hg=>rfl);(case hr=>exact qq_16);(case hp=>exact(Reps.one (show Kd.M (Kd.int .u8) _ _ _ ((wrap64 ((b.size:Int)+1))%256) [.int .u8 ((wrap64 ((b.size:Int)+1))%256)] from rfl) (Reps.none _ _)));intro aN aO o hb hg_ hnew_;clear hg_ hnew_;(first|rw[← E.out]at o |(simp only[Int.reduceToNat]at o;rw[← E.out]at o));have n_:=qn2 (Kd.R_lower o (Qfh qq_b)) (Qfi qq_b hb);clear HB;obtain⟨ai,HB⟩:=n_;clear hb o;have az:=Qdc (P:=Tryz.prog) Tryz.underlying40 Tryz.underlying5 Tryz.underlying9 (Kd.own_of_R ai.out)))
            go_roundg kj6
            case measure=>have:=HK1.out;have:=HJ6.out;omega
            case rel=>exact⟨((c++(strOfNums g))++b),((⟨#[]⟩:ByteArray)),(wrap64 (a+1)),qq_5,qq_5,qq_5,H',⟨by have:=HK1.out;have:=HJ6.out;omega⟩,⟨qq_b⟩⟩
           ·rw[if_neg u]at H;exact absurd H (by simp)
          ·rw[if_neg t]at H;exact absurd H (by simp)
      ·rw [if_neg c6]at H;have W:((bt al a) == 0)=false:=beq_eq_false_iff_ne.mpr c6;have X:((bt al a) != 0)=true:=bne_iff_ne.mpr c6;have aA:=eq_true (of_decide_eq_true qq_2:0≤a)
       by_cases I:a≤(wrap64 (a+1))
       ·rw [if_pos I]at H;have aB:=eq_true I;have aC:=decide_eq_true I
        by_cases J:(wrap64 (a+1))≤(al.size:Int)
        ·rw [if_pos J]at H;have aD:=eq_true J;have aE:=decide_eq_true J
         by_cases v:b.size+(al.extract (a:Int).toNat ((wrap64 (a+1)):Int).toNat).size≤9223372036854775807
         ·rw [if_pos v]at H;have aF:=eq_true v;have aG:=decide_eq_true v
          try have aH:(9223372036854775807<b.size+(al.extract (a:Int).toNat ((wrap64 (a+1)):Int).toNat).size)=False:=eq_false (Nat.not_lt.2 v)
          generalize hnw:(b++(al.extract (a:Int).toNat ((wrap64 (a+1)):Int).toNat))=nw at *
          by_cases p:(nw.size:Int)=254
          ·rw[if_pos p]at H;have aj:((nw.size:Int) == 254)=true:=beq_iff_eq.mpr p;have ak:((nw.size:Int) != 254)=false:=bne_eq_false_iff_eq.mpr p;clear p
           by_cases x:c.size+1≤9223372036854775807
           ·rw[if_pos x]at H;have aI:=eq_true x;have aJ:=decide_eq_true x
            try have aK:(9223372036854775807<c.size+1)=False:=eq_false (Nat.not_lt.2 x)
            by_cases y:(c++(⟨#[255]⟩:ByteArray)).size+nw.size≤9223372036854775807
            ·rw[if_pos y]at H;have aL:=eq_true y;have aM:=decide_eq_true y
             try have K:(9223372036854775807<(c++(⟨#[255]⟩:ByteArray)).size+nw.size)=False:=eq_false (Nat.not_lt.2 y)
             try have am:=K
             try simp only[ByteArray.size_append,(show ∀x_:UInt8,(⟨#[x_]⟩:ByteArray).size=1 from fun _=>rfl),(show ∀x_ y_:UInt8,(⟨#[x_,y_]⟩:ByteArray).size=2 from fun _ _=>rfl)]at am
             try have an:=K
             try simp only[ByteArray.size_append,ByteArray.size_extract,(show ∀x_:UInt8,(⟨#[x_]⟩:ByteArray).size=1 from fun _=>rfl),(show ∀x_ y_:UInt8,(⟨#[x_,y_]⟩:ByteArray).size=2 from fun _ _=>rfl)]at an
             have H':=QA H;clear H;have p5:0≤(a:Int):=of_decide_eq_true qq_2;have q5:a<(al.size:Int):=of_decide_eq_true qq_2;have Z:=Qcr al a;replace p5:=eq_true p5;replace q5:=eq_true q5;go_wp2
             go_roundg k1
             case measure=>have:=HK1.out;omega
             case rel=>exact⟨((c++(⟨#[255]⟩:ByteArray))++nw),((⟨#[]⟩:ByteArray)),(wrap64 (a+1)),qq_5,qq_5,qq_5,H',⟨by have:=HK1.out;omega⟩,⟨qq_b⟩⟩
            ·rw[if_neg y]at H;exact absurd H (by simp)
           ·rw[if_neg x]at H;exact absurd H (by simp)
          ·rw[if_neg p]at H;have aj:((nw.size:Int) == 254)=false:=beq_eq_false_iff_ne.mpr p;have ak:((nw.size:Int) != 254)=true:=bne_iff_ne.mpr p;have H':=QA H;clear H;have p5:0≤(a:Int):=of_decide_eq_true qq_2;have q5:a<(al.size:Int):=of_decide_eq_true qq_2;have Z:=Qcr al a;replace p5:=eq_true p5;replace q5:=eq_true q5;go_wp2
           go_roundg k1
           case measure=>have:=HK1.out;omega
           case rel=>exact⟨(c),nw,(wrap64 (a+1)),qq_5,qq_5,qq_5,H',⟨by have:=HK1.out;omega⟩,⟨qq_b⟩⟩
         ·rw[if_neg v]at H;exact absurd H (by simp)
        ·rw[if_neg J]at H;exact absurd H (by simp)
       ·rw[if_neg I]at H;exact absurd H (by simp)
     ·rw[if_neg c4]at H;exact absurd H (by simp)
    ·rw[if_neg c3]at H;have U:=decide_eq_false c3;clear c3;obtain rfl:=Option.some.inj H;go_wp2;go_ret
     exact⟨qq_6,qq_b⟩
 ·rw[if_neg c2]at H;exact absurd H (by simp)
def Qbb.l0:Nat→Int→ByteArray→Int→Int→Option (ByteArray)
 | 0,_,_,_,_=>none
 | k+1,x0,x5,x6,x7=>if x7<x6 then((some (([(Int.tmod x0 256)%256]:List Int):List Int)).bind fun y130=>(if x5.size+(strOfNums y130).size≤9223372036854775807 then(Qbb.l0 k (IntKind.u64.wrap (Int.tdiv x0 256)) (x5++(strOfNums y130)) x6 (wrap64 (x7+1)))else(none)))else(some x5)
def Qbb.f(k:Nat)(a0:Int)(a1:Int):Option (ByteArray):=Qbb.l0 k a0 (⟨#[]⟩:ByteArray) a1 0
theorem Qbb.calls(k:Nat)(a0:Int)(a1:Int)(r:ByteArray)(w:World)(h:Qbb.f k a0 a1=some r) :
  Calls Tryz.prog 133 #[.int .u64 a0,.int .i64 a1] w fun e w'=>e=.returned (.string r)∧Below w.heap.size w w':=by
 have HB:=QA (Below.refl w.heap.size w);have H:(Qbb.l0 k a0 (⟨#[]⟩:ByteArray) a1 0)=some r:=h;clear h;have H':=QA H;clear H
 go_enter Tryz.func133,Tryz.ntmps133
 go_wp2
 go_loopg [0,5,7] k (fun kq v0 v5 v7 w'=>∃(a:Int) (b:ByteArray) (d:Int),v0=.int .u64 a∧v5=.string b∧v7=.int .i64 d∧Aside0 (Qbb.l0 kq a b a1 d=some r)∧Aside0 (kq≤k)∧Aside0 (Below w.heap.size w w'))
 case atStart=>exact⟨(a0),((⟨#[]⟩:ByteArray)),(0),qq_5,qq_5,qq_5,H',⟨Nat.le_refl _⟩,⟨qq_b⟩⟩
 case round =>
  clear H';obtain⟨a,b,d,rfl,rfl,rfl,HA,HK1,HB⟩:=hrel
  cases gk with
  | zero=>exact absurd HA.out (by simp[Qbb.l0])
  | succ k1 =>
   have H:=HA.out;clear HA;simp only[Qbb.l0]at H
   by_cases c3:d<a1
   ·rw[if_pos c3]at H;have o:=decide_eq_true c3;clear c3;obtain⟨g,c⟩:∃y_:List Int,y_=(([(Int.tmod a 256)%256]:List Int)):=⟨_,rfl⟩;replace H:(if b.size+(strOfNums g).size≤9223372036854775807 then(Qbb.l0 k1 (IntKind.u64.wrap (Int.tdiv a 256)) (b++(strOfNums g)) a1 (wrap64 (d+1)))else(none))=some r:=by first |(rw[c];with_reducible exact H) |(have m:=(Option.bind_some _ _).symm.trans H;rw[c];with_reducible exact m) |(have m:=(Option.bind_some _ _).symm.trans H;with_reducible exact m)|with_reducible exact H |(rw[c];exact H)|exact H
    have l:=QA c;clear c
    by_cases c4:b.size+(strOfNums g).size≤9223372036854775807
    ·rw[if_pos c4]at H;have p:=eq_true c4;have q:=decide_eq_true c4
     try have s:(9223372036854775807<b.size+(strOfNums g).size)=False:=eq_false (Nat.not_lt.2 c4)
     have H':=QA H;clear H
     go_wp2_with (first |((with_reducible refine Qft (N:=13) rfl ?_);refine Kd.R_lit (Kd.int .u8) _ 5 ?hg (N:=13) ?hd (xs:=([(Int.tmod a 256)%256]:List Int)) (inner:=[.int .u8 ((Int.tmod a 256)%256)]) (ok:=fun _=>True) (okp:=fun _=>True) ?hr ?hp (fun _ hk=>hk) trivial (Below.refl _ _) (Nat.le_refl _) (by simp) ?_;(case hd=>rfl);(case hg=>rfl);(case hr=>exact qq_16);(case hp=>exact(Reps.one (show Kd.M (Kd.int .u8) _ _ _ ((Int.tmod a 256)%256) [.int .u8 ((Int.tmod a 256)%256)] from rfl) (Reps.none _ _)));intro t w5 j hb hg_ hnew_;clear hg_ hnew_;(first|rw[← l.out]at j |(simp only[Int.reduceToNat]at j;rw[← l.out]at j));have n_:=qn2 (Kd.R_lower j (Qfh qq_b)) (Qfi qq_b hb);clear HB;obtain⟨n,HB⟩:=n_;clear hb j;have u:=Qdc (P:=Tryz.prog) Tryz.underlying40 Tryz.underlying5 Tryz.underlying9 (Kd.own_of_R n.out)))
     go_roundg k1
     case measure=>have:=HK1.out;omega
     case rel=>exact⟨(IntKind.u64.wrap (Int.tdiv a 256)),(b++(strOfNums g)),(wrap64 (d+1)),qq_5,qq_5,qq_5,H',⟨by have:=HK1.out;omega⟩,⟨qq_b⟩⟩
    ·rw[if_neg c4]at H;exact absurd H (by simp)
   ·rw[if_neg c3]at H;have o:=decide_eq_false c3;clear c3;obtain rfl:=Option.some.inj H;go_wp2;go_ret
    exact⟨qq_6,qq_b⟩
def fascicleref14_Fits.T3:Bool × List (List Nat × List Nat):=(true,[([],[]),([0],[0]),([],[]),([1,2],[1,2]),([],[]),([4],[4]),([5],[5]),([6],[6]),([3,7],[3,7]),([8],[8]),([],[]),([10],[10]),([11,7],[11]),([9,12],[9,12]),([13,12,0,1,2,3,4,5,6,7,8,9,10,11,12,13],[13])])
def fascicleref14_Fits.B3:List Nat:=[0,1,0,7,0,16,48,112,255,511,0,1024,3312,8191,16383]
def Qcl.l0:Nat→List (S37)→List (S74)→Int→Int→Option ((List (S37)))
 | 0,_,_,_,_=>none
 | k+1,x3,x6,x7,x8=>if x8<x7 then(if 0≤x8 then(if x8<(x6.length:Int)then(if x3.length<2932031007402 then(Qcl.l0 k (x3++[(⟨(Qjb x6 x8).f0.f0,(Qjb x6 x8).f0.f1,(Qjb x6 x8).f0.f2,(Qjb x6 x8).f0.f3⟩:S37)]) x6 x7 (wrap64 (x8+1)))else(none))else(none))else(none))else(some x3)
def Qcl.f(k:Nat)(l0:List (S74)):Option ((List (S37))):=Qcl.l0 k ([]:List (S37)) l0 (l0.length:Int) 0
theorem Qcl.calls(k:Nat)(A0:Option Addr)(c0:Nat)(l0:List (S74))(r:List (S37))(w:World)(hr0:Kd.C k74 w A0 l0.length l0)(hc0:l0.length≤c0)(h:Qcl.f k l0=some r) :
  Calls Tryz.prog 36 #[.slice A0 l0.length c0] w fun e w'=>∃G:Value,e=.returned (G)∧Kd.R k37 37 w' w.heap.size (fun _=>True) G r∧Below w.heap.size w w':=by
 have hu74:=Tryz.underlying74;have hu37:=Tryz.underlying37;have L:=QA hr0;have af:=QA hc0;clear hr0 hc0;have HB:=QA (Below.refl w.heap.size w);have H:(Qcl.l0 k ([]:List (S37)) l0 (l0.length:Int) 0)=some r:=h;clear h;have H':=QA H;clear H
 go_enter Tryz.func36,Tryz.ntmps36
 go_wp2
 go_loopg [3,8] k (fun kq v3 v8 w'=>∃(l:List (S37)) (a:Int),v8=.int .i64 a∧Aside0 (Qcl.l0 kq l l0 (l0.length:Int) a=some r)∧Aside0 (kq≤k)∧Aside0 (Kd.R k37 37 w' w.heap.size (fun _=>True) v3 l)∧Aside0 (Below w.heap.size w w'))
 case atStart=>exact⟨(([]:List (S37))),(0),qq_5,H',⟨Nat.le_refl _⟩,⟨by first|exact Kd.R_nil _ _ _ _ _|exact Kd.N_nil _ _ _ _ _|exact Kd.V_nil _ _ _ _ _|exact Kd.Q_nil _ _ _ _ _|exact Kd.S_nil _ _ _ _ _⟩,⟨qq_b⟩⟩
 case round =>
  clear H';obtain⟨l,a,rfl,HA,HK1,m,HB⟩:=hrel
  cases gk with
  | zero=>exact absurd HA.out (by simp[Qcl.l0])
  | succ k1 =>
   have H:=HA.out;clear HA;simp only[Qcl.l0]at H
   by_cases c2:a<(l0.length:Int)
   ·rw [if_pos c2]at H;have I:=decide_eq_true c2;clear c2
    by_cases c3:0≤a
    ·rw[if_pos c3]at H;have ab:=decide_eq_true c3;clear c3
     by_cases c4:a<(l0.length:Int)
     ·rw[if_pos c4]at H;have ac:=decide_eq_true c4;clear c4
      by_cases c5:l.length<2932031007402
      ·rw[if_pos c5]at H;have J:=QA c5;clear c5;obtain⟨A,j⟩:∃y_:List (S37),y_=(l++[(⟨(Qjb l0 a).f0.f0,(Qjb l0 a).f0.f1,(Qjb l0 a).f0.f2,(Qjb l0 a).f0.f3⟩:S37)]):=⟨_,rfl⟩;replace H:(Qcl.l0 k1 A l0 (l0.length:Int) (wrap64 (a+1)))=some r:=by first |(rw[j];with_reducible exact H) |(have B:=(Option.bind_some _ _).symm.trans H;rw[j];with_reducible exact B) |(have B:=(Option.bind_some _ _).symm.trans H;with_reducible exact B)|with_reducible exact H |(rw[j];exact H)|exact H
       have D:=QA j;clear j;have H':=QA H;clear H;have y:0≤(a:Int):=of_decide_eq_true qq_2;have z:a<(l0.length:Int):=of_decide_eq_true qq_2;obtain⟨Y,K,n,q,s,t,u,v,x⟩:=Qjc L.out a y z
       cases K
       replace n:=qq_h HB.out n;replace q:=qq_h HB.out q;replace s:=qq_h HB.out s;replace t:=qq_h HB.out t;replace u:=qq_h HB.out u;replace v:=qq_h HB.out v;replace x:=qq_h HB.out x;replace y:=eq_true y;replace z:=eq_true z
       go_wp2_with (first |((with_reducible refine Qft (N:=5) rfl ?_);refine qq_e 5 #[.bool false,.int .u64 0,.string (⟨#[]⟩:ByteArray),.string (⟨#[]⟩:ByteArray),.int .u64 0,.int .i64 0,.int .i64 0] 74 ?_;intro c hg w6 hbox hb;have n_:=qn5 (Kd.R_below qq_8 hb) (Qfi qq_b hb) (hbox) (qq_s hg:w.heap.size≤c) (qq_s hg:w.heap.size≤c);clear m HB;obtain⟨m,HB,d,Z,aa⟩:=n_;clear hb hbox hg;obtain⟨M,O,P,T,U,W,X⟩:=qc7 d.out;have ad:=Qds d.out) |((with_reducible refine Qin (b:=.append) (xs:=#[.tmp 12,.tmp 15]) rfl ?_);at_builtin;refine Kd.R_append k37 (w0:=w) w.heap.size rfl (.tmp 12) (.tmp 15) 22 37 (.agg #[(.bool false),(.int .u64 0),(.string ⟨#[]⟩),(.string ⟨#[]⟩)]) 48 rfl Tryz.underlying22 info37 rfl (by decide) (by omega) u3 l (⟨(Qjb l0 a).f0.f0,(Qjb l0 a).f0.f1,(Qjb l0 a).f0.f2,(Qjb l0 a).f0.f3⟩:S37) [.bool ((Qjb l0 a).f0.f0),.int .u64 ((Qjb l0 a).f0.f1),.string ((Qjb l0 a).f0.f2),.string ((Qjb l0 a).f0.f3)] (fun _=>True) (fun _=>False) rfl qq_16 ?aP (fun _ hk=>hk.elim) ?aF ?aO ?aB ?aS ?aL ?_;(case aP=>exact Qix _ _ _ (⟨(Qjb l0 a).f0.f0,(Qjb l0 a).f0.f1,(Qjb l0 a).f0.f2,(Qjb l0 a).f0.f3⟩:S37));(case aB=>exact qq_b);(case aF=>exact(fun _ _=>trivial));(case aO=>exact(by(with_reducible repeat(first|apply Kd.R_alloc|apply Kd.R_drewN|apply Kd.R_drew));exact Kd.R_mono (Kd.R_far (p:=⟨c,6,none⟩) (Kd.R_far (p:=⟨c,5,none⟩) (Kd.R_far (p:=⟨c,4,none⟩) (Kd.R_far (p:=⟨c,3,none⟩) (Kd.R_far (p:=⟨c,2,none⟩) (Kd.R_far (p:=⟨c,1,none⟩) (Kd.R_far (p:=⟨c,0,none⟩) (Kd.R_types m.out d.out (by decide)) (fun _ hk=>hk.2) (.bool ((Qjb l0 a).f0.f0))) (fun _ hk=>hk.2) (.int .u64 ((Qjb l0 a).f0.f1))) (fun _ hk=>hk.2) (.string ((Qjb l0 a).f0.f2))) (fun _ hk=>hk.2) (.string ((Qjb l0 a).f0.f3))) (fun _ hk=>hk.2) (.int .u64 ((Qjb l0 a).f1))) (fun _ hk=>hk.2) (.int .i64 ((Qjb l0 a).f2))) (fun _ hk=>hk.2) (.int .i64 ((Qjb l0 a).f3))) (fun _ hk=>trivial)));(case aS=>exact(Qfh qq_b));(case aL=>have:=J.out;omega);intro ae w8 ho hb hg hat;rw[← D.out]at ho;have n_:=qn3 (Qdt (g:=c) (o:=.cells #[.bool ((Qjb l0 a).f0.f0),.int .u64 ((Qjb l0 a).f0.f1),.string ((Qjb l0 a).f0.f2),.string ((Qjb l0 a).f0.f3),.int .u64 ((Qjb l0 a).f1),.int .i64 ((Qjb l0 a).f2),.int .i64 ((Qjb l0 a).f3)] 74 (0,0)) qq_x hg (Kd.R_ne m.out d.out (by decide))) (hb) (ho);clear d HB m;obtain⟨d,HB,E⟩:=n_;clear ho hb hg hat))
       go_roundg k1
       case measure=>have:=HK1.out;omega
       case rel=>exact⟨(A),(wrap64 (a+1)),qq_5,H',⟨by have:=HK1.out;omega⟩,⟨by(with_reducible repeat(first|apply Kd.R_alloc|apply Kd.R_drewN|apply Kd.R_drew));exact E.out⟩,⟨qq_b⟩⟩
      ·rw[if_neg c5]at H;exact absurd H (by simp)
     ·rw[if_neg c4]at H;exact absurd H (by simp)
    ·rw[if_neg c3]at H;exact absurd H (by simp)
   ·rw[if_neg c2]at H;have I:=decide_eq_false c2;clear c2;obtain rfl:=Option.some.inj H;go_wp2;go_ret
    exact⟨_,by first|rfl |(simp[Qir,Qis]<;>rfl) |(simp[*,Qir,Qis]<;>rfl),by(with_reducible repeat(first|apply Kd.R_alloc|apply Kd.R_drewN|apply Kd.R_drew));exact m.out,qq_b⟩
end Go.Proofs.YteaocbonofboeaaGreat.C
end
