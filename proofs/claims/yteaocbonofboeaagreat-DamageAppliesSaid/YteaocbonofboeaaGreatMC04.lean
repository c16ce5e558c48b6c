/- Merged texts. -/
import Derived.Test.YteaocbonofboeaaGreatMC02
set_option linter.unusedVariables false
set_option linter.unusedSimpArgs false
set_option maxHeartbeats 8000000
set_option maxRecDepth 100000
section
namespace Go.Proofs.YteaocbonofboeaaGreat.C
open Go.RowKit Go.Proofs.YteaocbonofboeaaGreatW.PrintWords Go.Proofs.YteaocbonofboeaaGreatW.PrintLast Go.Proofs.YteaocbonofboeaaGreatW.PrintMore
attribute [local go_sem] Qhx Qhy Qhz Qia Qib Qic Qid Qie
def Qao.f(a0_0:Int)(a0_1:Int):Option (Int):=if a0_0<12 then(some 1)else(if a0_0 > 24 then(some 1)else(if a0_1<1 then(some 1)else(if a0_1 > 65536 then(some 1)else(some 0))))
theorem Qao.calls(c:Int)(d:Int)(r:Int)(w:World)(h:Qao.f c d=some r) :
  Calls Tryz.prog 118 #[.agg #[.int .u8 c,.int .u32 d]] w fun e w'=>e=.returned (.int .i64 r)∧Below w.heap.size w w':=by
 have hu28:=Tryz.underlying28;have HB:=QA (Below.refl w.heap.size w);have H:(if c<12 then(some 1)else(if c > 24 then(some 1)else(if d<1 then(some 1)else(if d > 65536 then(some 1)else(some 0)))))=some r:=h;clear h
 by_cases c2:c<12
 ·rw[if_pos c2]at H;have m:=decide_eq_true c2;clear c2;obtain rfl:=Option.some.inj H
  go_enter Tryz.func118,Tryz.ntmps118
  go_wp2_with (first |((with_reducible refine Qfn (N:=1) rfl ?_);refine qq_e 1 #[.int .u8 c,.int .u32 d] 28 ?_;intro a hg w3 hbox hb;have n_:=qn4 (Qfd qq_b hb) (hbox) (qq_s hg:w.heap.size≤a) (qq_s hg:w.heap.size≤a);clear HB;obtain⟨HB,b,g,j⟩:=n_;clear hb hbox hg;obtain⟨x,y⟩:=qc2 b.out;have G:=Qdp b.out))
  go_ret
  exact⟨qq_5,qq_b⟩
 ·rw [if_neg c2]at H;have m:=decide_eq_false c2;clear c2
  by_cases c5:c > 24
  ·rw[if_pos c5]at H;have n:decide (24<c)=true:=decide_eq_true c5;clear c5;obtain rfl:=Option.some.inj H
   go_enter Tryz.func118,Tryz.ntmps118
   go_wp2_with (first |((with_reducible refine Qfn (N:=1) rfl ?_);refine qq_e 1 #[.int .u8 c,.int .u32 d] 28 ?_;intro a hg w6 hbox hb;have n_:=qn4 (Qfd qq_b hb) (hbox) (qq_s hg:w.heap.size≤a) (qq_s hg:w.heap.size≤a);clear HB;obtain⟨HB,b,g,j⟩:=n_;clear hb hbox hg;obtain⟨z,A⟩:=qc2 b.out;have I:=Qdp b.out))
   go_ret
   exact⟨qq_5,qq_b⟩
  ·rw[if_neg c5]at H;have n:decide (24<c)=false:=decide_eq_false c5;clear c5
   by_cases c8:d<1
   ·rw[if_pos c8]at H;have o:=decide_eq_true c8;clear c8;obtain rfl:=Option.some.inj H
    go_enter Tryz.func118,Tryz.ntmps118
    go_wp2_with (first |((with_reducible refine Qfn (N:=1) rfl ?_);refine qq_e 1 #[.int .u8 c,.int .u32 d] 28 ?_;intro a hg w9 hbox hb;have n_:=qn4 (Qfd qq_b hb) (hbox) (qq_s hg:w.heap.size≤a) (qq_s hg:w.heap.size≤a);clear HB;obtain⟨HB,b,g,j⟩:=n_;clear hb hbox hg;obtain⟨p,q⟩:=qc2 b.out;have B:=Qdp b.out))
    go_ret
    exact⟨qq_5,qq_b⟩
   ·rw[if_neg c8]at H;have o:=decide_eq_false c8;clear c8
    by_cases k:d > 65536
    ·rw[if_pos k]at H;have l:decide (65536<d)=true:=decide_eq_true k;clear k;obtain rfl:=Option.some.inj H
     go_enter Tryz.func118,Tryz.ntmps118
     go_wp2_with (first |((with_reducible refine Qfn (N:=1) rfl ?_);refine qq_e 1 #[.int .u8 c,.int .u32 d] 28 ?_;intro a hg J hbox hb;have n_:=qn4 (Qfd qq_b hb) (hbox) (qq_s hg:w.heap.size≤a) (qq_s hg:w.heap.size≤a);clear HB;obtain⟨HB,b,g,j⟩:=n_;clear hb hbox hg;obtain⟨s,t⟩:=qc2 b.out;have D:=Qdp b.out))
     go_ret
     exact⟨qq_5,qq_b⟩
    ·rw[if_neg k]at H;have l:decide (65536<d)=false:=decide_eq_false k;clear k;obtain rfl:=Option.some.inj H
     go_enter Tryz.func118,Tryz.ntmps118
     go_wp2_with (first |((with_reducible refine Qfn (N:=1) rfl ?_);refine qq_e 1 #[.int .u8 c,.int .u32 d] 28 ?_;intro a hg K hbox hb;have n_:=qn4 (Qfd qq_b hb) (hbox) (qq_s hg:w.heap.size≤a) (qq_s hg:w.heap.size≤a);clear HB;obtain⟨HB,b,g,j⟩:=n_;clear hb hbox hg;obtain⟨u,v⟩:=qc2 b.out;have E:=Qdp b.out))
     go_ret
     exact⟨qq_5,qq_b⟩
def Qbw.f(a0_0:Int)(a0_1:Int)(a1:Int):Option (Int):=(Qao.f a0_0 a0_1).bind fun t166=>(if t166=0 then(if a1≥a0_1 then(some 1)else(some 0))else(some 1))
theorem Qbw.calls(c:Int)(b:Int)(a1:Int)(r:Int)(w:World)(h:Qbw.f c b a1=some r) :
  Calls Tryz.prog 100 #[.agg #[.int .u8 c,.int .u32 b],.int .u32 a1] w fun e w'=>e=.returned (.int .i64 r)∧Below w.heap.size w w':=by
 have hu28:=Tryz.underlying28;have HB:=QA (Below.refl w.heap.size w);have H:((Qao.f c b).bind fun j=>(if j=0 then(if a1≥b then(some 1)else(some 0))else(some 1)))=some r:=h;clear h;replace H:=Option.bind_eq_some_iff.mp H;obtain⟨j,m,H⟩:=H;have A3:=QA m;clear m
 by_cases c4:j=0
 ·rw[if_pos c4]at H;have n:(j == 0)=true:=beq_iff_eq.mpr c4;have p:(j != 0)=false:=bne_eq_false_iff_eq.mpr c4;clear c4
  by_cases c5:a1≥b
  ·rw[if_pos c5]at H;have q:decide (b≤a1)=true:=decide_eq_true c5;clear c5;obtain rfl:=Option.some.inj H
   go_enter Tryz.func100,Tryz.ntmps100
   go_wp2_with (first |((with_reducible refine Qfn (N:=2) rfl ?_);refine qq_e 2 #[.int .u8 c,.int .u32 b] 28 ?_;intro d hg w6 hbox hb;have n_:=qn4 (Qfd qq_b hb) (hbox) (qq_s hg:w.heap.size≤d) (qq_s hg:w.heap.size≤d);clear HB;obtain⟨HB,a,k,l⟩:=n_;clear hb hbox hg;obtain⟨z,A⟩:=qc2 a.out;have J:=Qdp a.out) |((with_reducible refine Qif (f:=118) rfl ?_);refine Qgi (some 6) rfl rfl Tryz.func118 qq_2 rfl #[.agg #[.int .u8 c,.int .u32 b]] rfl qq_0 ?_;(with_reducible refine(Qao.calls c b j _ A3.out).mono ?_);rintro e w8 ⟨rfl,hb⟩;refine⟨_,rfl,?_⟩;have n_:=qn2 (Qed (g:=d) (o:=.cells #[.int .u8 c,.int .u32 b] 28 (0,0)) qq_1 hb) (Qfd qq_b hb);clear a HB;obtain⟨a,HB⟩:=n_;(try clear hb);(try clear hb2);(try clear hk);(try clear hi);obtain⟨B,D⟩:=qc2 a.out;have K:=Qdp a.out))
   go_ret
   exact⟨qq_5,qq_b⟩
  ·rw[if_neg c5]at H;have q:decide (b≤a1)=false:=decide_eq_false c5;clear c5;obtain rfl:=Option.some.inj H
   go_enter Tryz.func100,Tryz.ntmps100
   go_wp2_with (first |((with_reducible refine Qfn (N:=2) rfl ?_);refine qq_e 2 #[.int .u8 c,.int .u32 b] 28 ?_;intro d hg L hbox hb;have n_:=qn4 (Qfd qq_b hb) (hbox) (qq_s hg:w.heap.size≤d) (qq_s hg:w.heap.size≤d);clear HB;obtain⟨HB,a,k,l⟩:=n_;clear hb hbox hg;obtain⟨s,t⟩:=qc2 a.out;have E:=Qdp a.out) |((with_reducible refine Qif (f:=118) rfl ?_);refine Qgi (some 6) rfl rfl Tryz.func118 qq_2 rfl #[.agg #[.int .u8 c,.int .u32 b]] rfl qq_0 ?_;(with_reducible refine(Qao.calls c b j _ A3.out).mono ?_);rintro e M ⟨rfl,hb⟩;refine⟨_,rfl,?_⟩;have n_:=qn2 (Qed (g:=d) (o:=.cells #[.int .u8 c,.int .u32 b] 28 (0,0)) qq_1 hb) (Qfd qq_b hb);clear a HB;obtain⟨a,HB⟩:=n_;(try clear hb);(try clear hb2);(try clear hk);(try clear hi);obtain⟨u,v⟩:=qc2 a.out;have G:=Qdp a.out))
   go_ret
   exact⟨qq_5,qq_b⟩
 ·rw[if_neg c4]at H;have n:(j == 0)=false:=beq_eq_false_iff_ne.mpr c4;have p:(j != 0)=true:=bne_iff_ne.mpr c4;obtain rfl:=Option.some.inj H
  go_enter Tryz.func100,Tryz.ntmps100
  go_wp2_with (first |((with_reducible refine Qfn (N:=2) rfl ?_);refine qq_e 2 #[.int .u8 c,.int .u32 b] 28 ?_;intro d hg O hbox hb;have n_:=qn4 (Qfd qq_b hb) (hbox) (qq_s hg:w.heap.size≤d) (qq_s hg:w.heap.size≤d);clear HB;obtain⟨HB,a,k,l⟩:=n_;clear hb hbox hg;obtain⟨x,y⟩:=qc2 a.out;have I:=Qdp a.out) |((with_reducible refine Qif (f:=118) rfl ?_);refine Qgi (some 6) rfl rfl Tryz.func118 qq_2 rfl #[.agg #[.int .u8 c,.int .u32 b]] rfl qq_0 ?_;(with_reducible refine(Qao.calls c b j _ A3.out).mono ?_);rintro e P ⟨rfl,hb⟩;refine⟨_,rfl,?_⟩;have n_:=qn2 (Qed (g:=d) (o:=.cells #[.int .u8 c,.int .u32 b] 28 (0,0)) qq_1 hb) (Qfd qq_b hb);clear a HB;obtain⟨a,HB⟩:=n_;(try clear hb);(try clear hb2);(try clear hk);(try clear hi)))
  go_ret
  exact⟨qq_5,qq_b⟩
mutual
def Qbi.l0:Nat→ByteArray→ByteArray→ByteArray→Int→Option (ByteArray)
 | 0,_,_,_,_=>none
 | k+1,x3,x4,x5,x6=>if x6<(x3.size:Int)then(if 0≤x6 then(if(bt x3 x6)=0 then(if x6=(wrap64 ((x3.size:Int)-1))then(if x5.toList=([]:List UInt8)then(if x6 > 0 then(if 0≤(wrap64 (x6-1))then(if(wrap64 (x6-1))<(x3.size:Int)then(Qbi.j1 k x3 x4 x5 x6 ((bt x3 (wrap64 (x6-1))) != 0))else(none))else(none))else(Qbi.j1 k x3 x4 x5 x6 false))else(Qbi.j1 k x3 x4 x5 x6 false))else(Qbi.j1 k x3 x4 x5 x6 false))else(if x6≤(wrap64 (x6+1))then(if(wrap64 (x6+1))≤(x3.size:Int)then(if x5.size+(x3.extract (x6:Int).toNat ((wrap64 (x6+1)):Int).toNat).size≤9223372036854775807 then(if((x5++(x3.extract (x6:Int).toNat ((wrap64 (x6+1)):Int).toNat)).size:Int)=254 then(if x4.size+1≤9223372036854775807 then(if(x4++(⟨#[255]⟩:ByteArray)).size+(x5++(x3.extract (x6:Int).toNat ((wrap64 (x6+1)):Int).toNat)).size≤9223372036854775807 then(Qbi.l0 k x3 ((x4++(⟨#[255]⟩:ByteArray))++(x5++(x3.extract (x6:Int).toNat ((wrap64 (x6+1)):Int).toNat))) (⟨#[]⟩:ByteArray) (wrap64 (x6+1)))else(none))else(none))else(Qbi.l0 k x3 x4 (x5++(x3.extract (x6:Int).toNat ((wrap64 (x6+1)):Int).toNat)) (wrap64 (x6+1))))else(none))else(none))else(none)))else(none))else(some x4)
def Qbi.j1:Nat→ByteArray→ByteArray→ByteArray→Int→Bool→Option (ByteArray)
 | 0,_,_,_,_,_=>none
 | k+1,x3,x4,x5,x6,x38=>if x38=true then(some x4)else((some (([(wrap64 ((x5.size:Int)+1))%256]:List Int):List Int)).bind fun y127=>(if x4.size+(strOfNums y127).size≤9223372036854775807 then(if(x4++(strOfNums y127)).size+x5.size≤9223372036854775807 then(Qbi.l0 k x3 ((x4++(strOfNums y127))++x5) (⟨#[]⟩:ByteArray) (wrap64 (x6+1)))else(none))else(none)))
end
def Qbi.f(k:Nat)(a0:ByteArray):Option (ByteArray):=if a0.size+1≤9223372036854775807 then(Qbi.l0 k (a0++(⟨#[0]⟩:ByteArray)) (⟨#[]⟩:ByteArray) (⟨#[]⟩:ByteArray) 0)else(none)
theorem Qbi.calls (k:Nat) (a0:ByteArray) (r:ByteArray) (w:World) (h:Qbi.f k a0=some r) :
  Calls Tryz.prog 132 #[.string a0] w fun e w'=>e=.returned (.string r)∧Below w.heap.size w w':=by
 have HB:=QA (Below.refl w.heap.size w);have H:(if a0.size+1≤9223372036854775807 then(Qbi.l0 k (a0++(⟨#[0]⟩:ByteArray)) (⟨#[]⟩:ByteArray) (⟨#[]⟩:ByteArray) 0)else(none))=some r:=h;clear h
 by_cases c2:a0.size+1≤9223372036854775807
 ·rw [if_pos c2]at H;have L:=eq_true c2;have O:=decide_eq_true c2
  try have T:(9223372036854775807<a0.size+1)=False:=eq_false (Nat.not_lt.2 c2)
  have H':=QA H;clear H
  go_enter Tryz.func132,Tryz.ntmps132
  go_wp2;generalize hal:a0++(⟨#[0]⟩:ByteArray)=al at *;clear hal
  go_loopg [4,5,6] k (fun kq v4 v5 v6 w'=>∃(c:ByteArray) (b:ByteArray) (a:Int),v4=.string c∧v5=.string b∧v6=.int .i64 a∧Aside0 (Qbi.l0 kq al c b a=some r)∧Aside0 (kq≤k)∧Aside0 (Below w.heap.size w w'))
  case atStart=>exact⟨((⟨#[]⟩:ByteArray)),((⟨#[]⟩:ByteArray)),(0),qq_4,qq_4,qq_4,H',⟨Nat.le_refl _⟩,⟨qq_b⟩⟩
  case round =>
   clear H'
   try clear c2
   try clear L
   try clear O
   try clear T
   obtain⟨c,b,a,rfl,rfl,rfl,HA,HK1,HB⟩:=hrel
   cases gk with
   | zero=>exact absurd HA.out (by simp[Qbi.l0])
   | succ k1 =>
    have H:=HA.out;clear HA;simp only[Qbi.l0]at H
    by_cases c3:a<(al.size:Int)
    ·rw [if_pos c3]at H;have U:=decide_eq_true c3;clear c3
     by_cases c4:0≤a
     ·rw [if_pos c4]at H;have ao:=decide_eq_true c4;clear c4
      by_cases c6:(bt al a)=0
      ·rw [if_pos c6]at H;have W:((bt al a) == 0)=true:=beq_iff_eq.mpr c6;have X:((bt al a) != 0)=false:=bne_eq_false_iff_eq.mpr c6;clear c6;have Y:=QA H;clear H;have p5:0≤(a:Int):=of_decide_eq_true qq_6;have q5:a<(al.size:Int):=of_decide_eq_true qq_6;have Z:=Qco al a;replace p5:=eq_true p5;replace q5:=eq_true q5
       go_upto_region 8 with(fail)
       go_cut [38] (fun aq wc=>∃(kq:Nat) (m:Bool),aq=.bool m∧Aside0 (Qbi.j1 kq al c b a m=some r)∧Aside0 (kq≤k1)∧Aside0 (Below w.heap.size w wc))
       case first =>
        have H:=Y.out;clear Y
        by_cases c8:a=(wrap64 ((al.size:Int)-1))
        ·rw [if_pos c8]at H;have l:(a == (wrap64 ((al.size:Int)-1)))=true:=beq_iff_eq.mpr c8;have aa:(a != (wrap64 ((al.size:Int)-1)))=false:=bne_eq_false_iff_eq.mpr c8;clear c8
         (first|rw[l] |(simp only[Qgk,Qgl];rw[l])|skip)
         by_cases c9:b.toList=([]:List UInt8)
         ·rw [if_pos c9]at H;have ab:(b.toList == ([]:List UInt8))=true:=beq_iff_eq.mpr c9;have ac:(b.toList != ([]:List UInt8))=false:=bne_eq_false_iff_eq.mpr c9;clear c9
          by_cases c10:a > 0
          ·rw[if_pos c10]at H;have z:decide (0<a)=true:=decide_eq_true c10;clear c10;obtain⟨d,n⟩:∃j_:Int,(wrap64 (a-1))=j_:=⟨_,rfl⟩;replace H:(if 0≤(d)then(if(d)<(al.size:Int)then(Qbi.j1 k1 al c b a ((bt al (d)) != 0))else(none))else(none))=some r:=by first |(rw[n]at H;exact H) |(simp only[n]at H ⊢;exact H)
           have ar:(IntKind.i64.wrap (a-1))=d:=(Qgk _).trans n
           by_cases q:0≤(d)
           ·rw[if_pos q]at H;have ae:=decide_eq_true q;clear q
            by_cases s:(d)<(al.size:Int)
            ·rw[if_pos s]at H;have af:=decide_eq_true s;clear s;have H':=QA H;clear H;have A:0≤((d):Int):=of_decide_eq_true qq_6;have B:(d)<(al.size:Int):=of_decide_eq_true qq_6;have ap:=Qco al (d);replace A:=eq_true A;replace B:=eq_true B;go_wp2
             go_meet
             case rel=>exact⟨_,(((bt al (d)) != 0)),(by first|rfl |(simp;done) |(simp only[← n]<;>(first|rfl|simp)) |(simp[*];done)),H',⟨by have:=HK1.out;first|omega|exact Nat.le_refl _⟩,⟨qq_b⟩⟩
            ·rw[if_neg s]at H;exact absurd H (by simp)
           ·rw[if_neg q]at H;exact absurd H (by simp)
          ·rw[if_neg c10]at H;have z:decide (0<a)=false:=decide_eq_false c10;clear c10;have H':=QA H;clear H;go_wp2
           go_meet
           case rel=>exact⟨_,(false),qq_4,H',⟨by have:=HK1.out;first|omega|exact Nat.le_refl _⟩,⟨qq_b⟩⟩
         ·rw[if_neg c9]at H;have ab:(b.toList == ([]:List UInt8))=false:=beq_eq_false_iff_ne.mpr c9;have ac:(b.toList != ([]:List UInt8))=true:=bne_iff_ne.mpr c9;have H':=QA H;clear H;go_wp2
          go_meet
          case rel=>exact⟨_,(false),qq_4,H',⟨by have:=HK1.out;first|omega|exact Nat.le_refl _⟩,⟨qq_b⟩⟩
        ·rw[if_neg c8]at H;have l:(a == (wrap64 ((al.size:Int)-1)))=false:=beq_eq_false_iff_ne.mpr c8;have aa:(a != (wrap64 ((al.size:Int)-1)))=true:=bne_iff_ne.mpr c8
         (first|rw[l] |(simp only[Qgk,Qgl];rw[l])|skip)
         have H':=QA H;clear H;go_wp2
         go_meet
         case rel=>exact⟨_,(false),qq_4,H',⟨by have:=HK1.out;first|omega|exact Nat.le_refl _⟩,⟨qq_b⟩⟩
       case rest =>
        clear Y
        try clear c2
        try clear L
        try clear O
        try clear T
        try clear c3
        try clear U
        try clear c4
        try clear ao
        try clear p5
        try clear q5
        try clear Z
        try clear c6
        try clear W
        try clear X
        try clear c8
        try clear l
        try clear aa
        try clear c9
        try clear ab
        try clear ac
        try clear c10
        try clear z
        try clear q
        try clear ae
        try clear s
        try clear af
        try clear A
        try clear B
        try clear ap
        try clear A
        try clear p5
        try clear B
        try clear q5
        obtain⟨kq,m,rfl,HA,HJ6,HB⟩:=hcut
        cases kq with
        | zero=>exact absurd HA.out (by simp[Qbi.j1])
        | succ kj6 =>
         have H:=HA.out;clear HA;simp only[Qbi.j1]at H
         by_cases D:m=true
         ·subst D;rw[if_pos rfl]at H;obtain rfl:=Option.some.inj H;go_wp2;go_ret
          exact⟨qq_5,qq_b⟩
         ·replace D:=Bool.eq_false_iff.mpr D;subst D;rw[if_neg (show ¬(false=true)by decide)]at H;obtain⟨g,j⟩:∃y_:List Int,y_=(([(wrap64 ((b.size:Int)+1))%256]:List Int)):=⟨_,rfl⟩;replace H:(if c.size+(strOfNums g).size≤9223372036854775807 then(if(c++(strOfNums g)).size+b.size≤9223372036854775807 then(Qbi.l0 kj6 al ((c++(strOfNums g))++b) (⟨#[]⟩:ByteArray) (wrap64 (a+1)))else(none))else(none))=some r:=by first |(rw[j];with_reducible exact H) |(have ad:=(Option.bind_some _ _).symm.trans H;rw[j];with_reducible exact ad) |(have ad:=(Option.bind_some _ _).symm.trans H;with_reducible exact ad)|with_reducible exact H |(rw[j];exact H)|exact H
          have E:=QA j;clear j
          by_cases t:c.size+(strOfNums g).size≤9223372036854775807
          ·rw[if_pos t]at H;have au:=eq_true t;have av:=decide_eq_true t
           try have aw:(9223372036854775807<c.size+(strOfNums g).size)=False:=eq_false (Nat.not_lt.2 t)
           by_cases u:(c++(strOfNums g)).size+b.size≤9223372036854775807
           ·rw[if_pos u]at H;have ax:=eq_true u;have ay:=decide_eq_true u
            try have G:(9223372036854775807<(c++(strOfNums g)).size+b.size)=False:=eq_false (Nat.not_lt.2 u)
            try have ag:=G
            try simp only[ByteArray.size_append,(show ∀x_:UInt8,(⟨#[x_]⟩:ByteArray).size=1 from fun _=>rfl),(show ∀x_ y_:UInt8,(⟨#[x_,y_]⟩:ByteArray).size=2 from fun _ _=>rfl)]at ag
            try have ah:=G
            try simp only[ByteArray.size_append,ByteArray.size_extract,(show ∀x_:UInt8,(⟨#[x_]⟩:ByteArray).size=1 from fun _=>rfl),(show ∀x_ y_:UInt8,(⟨#[x_,y_]⟩:ByteArray).size=2 from fun _ _=>rfl)]at ah
            have H':=QA H;clear H
            go_wp2_with (first |((with_reducible refine Qfn (N:=44) rfl ?_);refine Kd.R_lit (Kd.int .u8) _ 5 ?hg (N:=44) ?hd (xs:=([(wrap64 ((b.size:Int)+1))%256]:List Int)) (inner:=[.int .u8 ((wrap64 ((b.size:Int)+1))%256)]) (ok:=fun _=>True) (okp:=fun _=>True) ?hr ?hp (fun _ hk=>hk) trivial (Below.refl _ _) (Nat.le_refl _) (by simp) ?_;(case hd=>rfl);(case hg=>rfl);(case hr=>exact qq_10);(case hp=>exact(Reps.one (show Kd.M (Kd.int .u8) _ _ _ ((wrap64 ((b.size:Int)+1))%256) [.int .u8 ((wrap64 ((b.size:Int)+1))%256)] from rfl) (Reps.none _ _)));intro aN aO o hb hg_ hnew_;clear hg_ hnew_;(first|rw[← E.out]at o |(simp only[Int.reduceToNat]at o;rw[← E.out]at o));have n_:=qn2 (Kd.R_lower o (Qfc qq_b)) (Qfd qq_b hb);clear HB;obtain⟨ai,HB⟩:=n_;clear hb o;have az:=Qcz (P:=Tryz.prog) Tryz.underlying40 Tryz.underlying5 Tryz.underlying9 (Kd.own_of_R ai.out)))
            go_roundg kj6
            case measure=>have:=HK1.out;have:=HJ6.out;omega
            case rel=>exact⟨((c++(strOfNums g))++b),((⟨#[]⟩:ByteArray)),(wrap64 (a+1)),qq_4,qq_4,qq_4,H',⟨by have:=HK1.out;have:=HJ6.out;omega⟩,⟨qq_b⟩⟩
           ·rw[if_neg u]at H;exact absurd H (by simp)
          ·rw[if_neg t]at H;exact absurd H (by simp)
      ·rw [if_neg c6]at H;have W:((bt al a) == 0)=false:=beq_eq_false_iff_ne.mpr c6;have X:((bt al a) != 0)=true:=bne_iff_ne.mpr c6;have aA:=eq_true (of_decide_eq_true qq_6:0≤a)
       by_cases I:a≤(wrap64 (a+1))
       ·rw [if_pos I]at H;have aB:=eq_true I;have aC:=decide_eq_true I
        by_cases J:(wrap64 (a+1))≤(al.size:Int)
        ·rw [if_pos J]at H;have aD:=eq_true J;have aE:=decide_eq_true J
         by_cases v:b.size+(al.extract (a:Int).toNat ((wrap64 (a+1)):Int).toNat).size≤9223372036854775807
         ·rw [if_pos v]at H;have aF:=eq_true v;have aG:=decide_eq_true v
          try have aH:(9223372036854775807<b.size+(al.extract (a:Int).toNat ((wrap64 (a+1)):Int).toNat).size)=False:=eq_false (Nat.not_lt.2 v)
          generalize hnw:(b++(al.extract (a:Int).toNat ((wrap64 (a+1)):Int).toNat))=nw at *
          by_cases p:(nw.size:Int)=254
          ·rw[if_pos p]at H;have aj:((nw.size:Int) == 254)=true:=beq_iff_eq.mpr p;have ak:((nw.size:Int) != 254)=false:=bne_eq_false_iff_eq.mpr p;clear p
           by_cases x:c.size+1≤9223372036854775807
           ·rw[if_pos x]at H;have aI:=eq_true x;have aJ:=decide_eq_true x
            try have aK:(9223372036854775807<c.size+1)=False:=eq_false (Nat.not_lt.2 x)
            by_cases y:(c++(⟨#[255]⟩:ByteArray)).size+nw.size≤9223372036854775807
            ·rw[if_pos y]at H;have aL:=eq_true y;have aM:=decide_eq_true y
             try have K:(9223372036854775807<(c++(⟨#[255]⟩:ByteArray)).size+nw.size)=False:=eq_false (Nat.not_lt.2 y)
             try have am:=K
             try simp only[ByteArray.size_append,(show ∀x_:UInt8,(⟨#[x_]⟩:ByteArray).size=1 from fun _=>rfl),(show ∀x_ y_:UInt8,(⟨#[x_,y_]⟩:ByteArray).size=2 from fun _ _=>rfl)]at am
             try have an:=K
             try simp only[ByteArray.size_append,ByteArray.size_extract,(show ∀x_:UInt8,(⟨#[x_]⟩:ByteArray).size=1 from fun _=>rfl),(show ∀x_ y_:UInt8,(⟨#[x_,y_]⟩:ByteArray).size=2 from fun _ _=>rfl)]at an
             have H':=QA H;clear H;have p5:0≤(a:Int):=of_decide_eq_true qq_6;have q5:a<(al.size:Int):=of_decide_eq_true qq_6;have Z:=Qco al a;replace p5:=eq_true p5;replace q5:=eq_true q5;go_wp2
             go_roundg k1
             case measure=>have:=HK1.out;omega
             case rel=>exact⟨((c++(⟨#[255]⟩:ByteArray))++nw),((⟨#[]⟩:ByteArray)),(wrap64 (a+1)),qq_4,qq_4,qq_4,H',⟨by have:=HK1.out;omega⟩,⟨qq_b⟩⟩
            ·rw[if_neg y]at H;exact absurd H (by simp)
           ·rw[if_neg x]at H;exact absurd H (by simp)
          ·rw[if_neg p]at H;have aj:((nw.size:Int) == 254)=false:=beq_eq_false_iff_ne.mpr p;have ak:((nw.size:Int) != 254)=true:=bne_iff_ne.mpr p;have H':=QA H;clear H;have p5:0≤(a:Int):=of_decide_eq_true qq_6;have q5:a<(al.size:Int):=of_decide_eq_true qq_6;have Z:=Qco al a;replace p5:=eq_true p5;replace q5:=eq_true q5;go_wp2
           go_roundg k1
           case measure=>have:=HK1.out;omega
           case rel=>exact⟨(c),nw,(wrap64 (a+1)),qq_4,qq_4,qq_4,H',⟨by have:=HK1.out;omega⟩,⟨qq_b⟩⟩
         ·rw[if_neg v]at H;exact absurd H (by simp)
        ·rw[if_neg J]at H;exact absurd H (by simp)
       ·rw[if_neg I]at H;exact absurd H (by simp)
     ·rw[if_neg c4]at H;exact absurd H (by simp)
    ·rw[if_neg c3]at H;have U:=decide_eq_false c3;clear c3;obtain rfl:=Option.some.inj H;go_wp2;go_ret
     exact⟨qq_5,qq_b⟩
 ·rw[if_neg c2]at H;exact absurd H (by simp)
def Qbb.f:Nat→Int→Option (ByteArray)
 | 0,_=>none
 | k+1,a0=>if a0<128 then(some (strOfNums (([(a0)%256]:List Int))))else((some (([(IntKind.u64.wrap (128+(Int.tmod a0 128)))%256]:List Int):List Int)).bind fun y151=>((Qbb.f k (IntKind.u64.wrap (Int.tdiv a0 128))).bind fun t154=>(if(strOfNums y151).size+t154.size≤9223372036854775807 then(some ((strOfNums y151)++t154))else(none))))
def Qbb.T3:Bool × List (List Nat × List Nat):=(true,[([],[]),([0],[0]),([1],[1]),([2],[2]),([3],[3]),([4],[4]),([],[]),([6],[6]),([7],[7]),([5,8],[5,8]),([9,8,0,1,2,3,4,5,6,7,8,9],[9])])
def Qbb.B3:List Nat:=[0,1,3,7,15,31,0,64,192,511,1023]
theorem Qbb.tab3:rtab .any (Qhq Tryz.f135 3)=Qbb.T3:=by kernel_rfl
theorem Qbb.bits3:Qhk Qbb.T3.2 Qbb.B3=true:=by kernel_rfl
theorem Qbb.calls(k:Nat):∀(a0:Int) (r:ByteArray) (w:World) (h:Qbb.f k a0=some r),
  Calls Tryz.prog 135 #[.int .u64 a0] w fun e w'=>e=.returned (.string r)∧Below w.heap.size w w':=by
 induction k using Nat.strongRecOn with
 | _ k ih =>
 intro a0 r w h
 cases k with
 | zero=>exact absurd h (by simp[Qbb.f])
 | succ k =>
 simp only[Qbb.f]at h;have HB:=QA (Below.refl w.heap.size w);have H:(if a0<128 then(some (strOfNums (([(a0)%256]:List Int))))else((some (([(IntKind.u64.wrap (128+(Int.tmod a0 128)))%256]:List Int):List Int)).bind fun d=>((Qbb.f k (IntKind.u64.wrap (Int.tdiv a0 128))).bind fun b=>(if(strOfNums d).size+b.size≤9223372036854775807 then(some ((strOfNums d)++b))else(none)))))=some r:=h;clear h
 by_cases c2:a0<128
 ·rw[if_pos c2]at H;have J:=decide_eq_true c2;clear c2;obtain⟨L,g⟩:∃y_:List Int,y_=(([(a0)%256]:List Int)):=⟨_,rfl⟩;replace H:(some (strOfNums L))=some r:=by first |(rw[g];with_reducible exact H) |(have p:=(Option.bind_some _ _).symm.trans H;rw[g];with_reducible exact p) |(have p:=(Option.bind_some _ _).symm.trans H;with_reducible exact p)|with_reducible exact H |(rw[g];exact H)|exact H
  have x:=QA g;clear g;obtain rfl:=Option.some.inj H
  go_enter Tryz.func135,Tryz.ntmps135
  go_wp2_with (first |((with_reducible refine Qfn (N:=7) rfl ?_);refine Kd.R_lit (Kd.int .u8) _ 5 ?hg (N:=7) ?hd (xs:=([(a0)%256]:List Int)) (inner:=[.int .u8 ((a0)%256)]) (ok:=fun _=>True) (okp:=fun _=>True) ?hr ?hp (fun _ hk=>hk) trivial (Below.refl _ _) (Nat.le_refl _) (by simp) ?_;(case hd=>rfl);(case hg=>rfl);(case hr=>exact qq_10);(case hp=>exact(Reps.one (show Kd.M (Kd.int .u8) _ _ _ ((a0)%256) [.int .u8 ((a0)%256)] from rfl) (Reps.none _ _)));intro O w3 u hb hg_ hnew_;clear hg_ hnew_;(first|rw[← x.out]at u |(simp only[Int.reduceToNat]at u;rw[← x.out]at u));have n_:=qn2 (Kd.R_lower u (Qfc qq_b)) (Qfd qq_b hb);clear HB;obtain⟨y,HB⟩:=n_;clear hb u;have T:=Qcz (P:=Tryz.prog) Tryz.underlying40 Tryz.underlying5 Tryz.underlying9 (Kd.own_of_R y.out)))
  go_ret
  exact⟨qq_5,qq_b⟩
 ·rw [if_neg c2]at H;have J:=decide_eq_false c2;clear c2;obtain⟨d,l⟩:∃y_:List Int,y_=(([(IntKind.u64.wrap (128+(Int.tmod a0 128)))%256]:List Int)):=⟨_,rfl⟩;replace H:((Qbb.f k (IntKind.u64.wrap (Int.tdiv a0 128))).bind fun b=>(if(strOfNums d).size+b.size≤9223372036854775807 then(some ((strOfNums d)++b))else(none)))=some r:=by first |(rw[l];with_reducible exact H) |(have p:=(Option.bind_some _ _).symm.trans H;rw[l];with_reducible exact p) |(have p:=(Option.bind_some _ _).symm.trans H;with_reducible exact p)|with_reducible exact H |(rw[l];exact H)|exact H
  have o:=QA l;clear l;replace H:=Option.bind_eq_some_iff.mp H;obtain⟨b,A,H⟩:=H;have A6:=QA A;clear A
  by_cases c7:(strOfNums d).size+b.size≤9223372036854775807
  ·rw [if_pos c7]at H;have U:=eq_true c7;have W:=decide_eq_true c7
   try have X:(9223372036854775807<(strOfNums d).size+b.size)=False:=eq_false (Nat.not_lt.2 c7)
   obtain rfl:=Option.some.inj H
   go_enter Tryz.func135,Tryz.ntmps135
   try go_wp2
   have n_:=qn1 (Qfj HB.out);clear HB;have HB:=n_;clear n_;refine Qfz (n:=11) (S:=fun w'=>True) (ds:=[]) (bm 11 0) qq_2 rfl rfl trivial (fun a=>?_);refine Qho Qbb.tab3 Qbb.bits3 (fun HT_ HW_=>?_);generalize w.drew=w8 at HB a ⊢;refine pz_ (i:=0) (N:=some 9) (bm 11 1) (Qhg HT_.out qq_2) ?_;refine pz_ (i:=1) (N:=some 10) (bm 11 3) (Qhg HT_.out qq_2) ?_;refine pz_ (i:=2) (N:=some 11) (bm 11 7) (Qhg HT_.out qq_2) ?_;refine pz_ (i:=3) (N:=some 12) (bm 11 15) (Qhg HT_.out qq_2) ?_;refine pz_ (i:=6) (N:=some 15) (bm 11 79) (Qhg HT_.out qq_2) ?_;refine pz_ (i:=7) (N:=some 16) (bm 11 207) (Qhg HT_.out qq_2) ?_;refine join_ (σ:=Value) 2 (bm 11 511) (fun s_=>[(13,s_),(14,.string (strOfNums d)),(17,.string b)]) (fun s_ w'=>(Kd.R (Kd.int .u8) 5 w' w.heap.size (fun _=>True) s_ d)∧(Below w.heap.size w w')) ?_ ?_;rotate_left
   ·intro hCont;refine two_ (i:=4) (j:=8) (Ni:=some 13) (Nj:=some 17) (bm 11 223) (bm 11 463) rfl rfl rfl rfl (Qhi HT_.out qq_2) (by decide) (by decide) (fun K hK=>?_) (fun K hK=>?_)
    ·skip
     refine Kd.R_lit_step (Kd.int .u8) _ 5 ?hg (N:=13) ?hd (xs:=([(IntKind.u64.wrap (128+(Int.tmod a0 128)))%256]:List Int)) (inner:=[.int .u8 ((IntKind.u64.wrap (128+(Int.tmod a0 128)))%256)]) (ok:=fun _=>True) (okp:=fun _=>True) ?hr ?hp (fun _ hk=>hk) trivial (Below.refl _ _) (Nat.le_refl _) (by simp) ?_;(case hd=>rfl);(case hg=>rfl);(case hr=>exact qq_10);(case hp=>exact(Reps.one (show Kd.M (Kd.int .u8) _ _ _ ((IntKind.u64.wrap (128+(Int.tmod a0 128)))%256) [.int .u8 ((IntKind.u64.wrap (128+(Int.tmod a0 128)))%256)] from rfl) (Reps.none _ _)));intro m w9 q hb hg_ hnew_;clear hg_ hnew_
     (first|rw[← o.out]at q |(simp only[Int.reduceToNat]at q;rw[← o.out]at q))
     have n_:=qn2 (Kd.R_lower q (Qfc qq_b)) (Qfd qq_b hb);clear HB;obtain⟨c,HB⟩:=n_;clear hb q;refine hK.out _ _ trivial (fun a=>?_);clear hK K;refine nzp_ 13 ?_;refine two_ (i:=5) (j:=8) (Ni:=some 14) (Nj:=some 17) (bm 11 255) (bm 11 479) rfl rfl rfl rfl (Qhi HT_.out qq_2) (by decide) (by decide) (fun K hK=>?_) (fun K hK=>?_)
     ·skip
      have z:=Qcz (P:=Tryz.prog) Tryz.underlying40 Tryz.underlying5 Tryz.underlying9 (Kd.own_of_R c.out);refine Qgj (w1:=?_) (v:=?_) (by rfl) rfl ?_ ?_;rotate_left 2
      ·go_simp
       constructor
       ·rfl
       ·rfl
      clear z;refine hK.out _ _ trivial (fun a=>?_);clear hK K;refine nzp_ 14 ?_;refine one_ (i:=8) (N:=some 17) (bm 11 511) rfl rfl (Qhh HT_.out qq_2) (by decide) (fun K hK=>?_);refine Qgh Tryz.func135 qq_2 rfl #[.int .u64 (IntKind.u64.wrap (Int.tdiv a0 128))] (by rfl) rfl rfl qq_0 ?_;with_reducible refine(ih k (by omega) (IntKind.u64.wrap (Int.tdiv a0 128)) b _ A6.out).mono ?_
      rintro e Y ⟨rfl,hb⟩;refine⟨_,rfl,?_⟩;have n_:=qn2 (Kd.R_below qq_7 hb) (Qfd qq_b hb);clear c HB;obtain⟨c,HB⟩:=n_
      (try clear hb)
      (try clear hb2)
      (try clear hk)
      (try clear hi)
      refine hK.out _ _ trivial (fun a=>?_);clear hK K;refine nzp_ 17 ?_;exact Qgf (by simp only[Qge,Act.put,List.setIfInBounds_toArray,List.set_cons_zero,List.set_cons_succ]) (hCont (m) _ ⟨qq_7,qq_b⟩)
     ·skip
      refine Qgh Tryz.func135 qq_2 rfl #[.int .u64 (IntKind.u64.wrap (Int.tdiv a0 128))] (by rfl) rfl rfl qq_0 ?_;with_reducible refine(ih k (by omega) (IntKind.u64.wrap (Int.tdiv a0 128)) b _ A6.out).mono ?_
      rintro e Z ⟨rfl,hb⟩;refine⟨_,rfl,?_⟩;have n_:=qn2 (Kd.R_below qq_7 hb) (Qfd qq_b hb);clear c HB;obtain⟨c,HB⟩:=n_
      (try clear hb)
      (try clear hb2)
      (try clear hk)
      (try clear hi)
      refine hK.out _ _ trivial (fun a=>?_);clear hK K;refine nzp_ 17 ?_;refine one_ (i:=5) (N:=some 14) (bm 11 511) rfl rfl (Qhh HT_.out qq_2) (by decide) (fun K hK=>?_);have t:=Qcz (P:=Tryz.prog) Tryz.underlying40 Tryz.underlying5 Tryz.underlying9 (Kd.own_of_R c.out);refine Qgj (w1:=?_) (v:=?_) (by rfl) rfl ?_ ?_;rotate_left 2
      ·go_simp
       constructor
       ·rfl
       ·rfl
      clear t;refine hK.out _ _ trivial (fun a=>?_);clear hK K;refine nzp_ 14 ?_;exact Qgf (by simp only[Qge,Act.put,List.setIfInBounds_toArray,List.set_cons_zero,List.set_cons_succ]) (hCont (m) _ ⟨qq_7,qq_b⟩)
    ·skip
     refine Qgh Tryz.func135 qq_2 rfl #[.int .u64 (IntKind.u64.wrap (Int.tdiv a0 128))] (by rfl) rfl rfl qq_0 ?_;with_reducible refine(ih k (by omega) (IntKind.u64.wrap (Int.tdiv a0 128)) b _ A6.out).mono ?_
     rintro e w9 ⟨rfl,hb⟩;refine⟨_,rfl,?_⟩;have n_:=qn1 (Qfd qq_b hb);clear HB;have HB:=n_;clear n_
     (try clear hb)
     (try clear hb2)
     (try clear hk)
     (try clear hi)
     refine hK.out _ _ trivial (fun a=>?_);clear hK K;refine nzp_ 17 ?_;refine one_ (i:=4) (N:=some 13) (bm 11 479) rfl rfl (Qhh HT_.out qq_2) (by decide) (fun K hK=>?_);refine Kd.R_lit_step (Kd.int .u8) _ 5 ?hg (N:=13) ?hd (xs:=([(IntKind.u64.wrap (128+(Int.tmod a0 128)))%256]:List Int)) (inner:=[.int .u8 ((IntKind.u64.wrap (128+(Int.tmod a0 128)))%256)]) (ok:=fun _=>True) (okp:=fun _=>True) ?hr ?hp (fun _ hk=>hk) trivial (Below.refl _ _) (Nat.le_refl _) (by simp) ?_;(case hd=>rfl);(case hg=>rfl);(case hr=>exact qq_10);(case hp=>exact(Reps.one (show Kd.M (Kd.int .u8) _ _ _ ((IntKind.u64.wrap (128+(Int.tmod a0 128)))%256) [.int .u8 ((IntKind.u64.wrap (128+(Int.tmod a0 128)))%256)] from rfl) (Reps.none _ _)));intro m aa s hb hg_ hnew_;clear hg_ hnew_
     (first|rw[← o.out]at s |(simp only[Int.reduceToNat]at s;rw[← o.out]at s))
     have n_:=qn2 (Kd.R_lower s (Qfc qq_b)) (Qfd qq_b hb);clear HB;obtain⟨c,HB⟩:=n_;clear hb s;refine hK.out _ _ trivial (fun a=>?_);clear hK K;refine nzp_ 13 ?_;refine one_ (i:=5) (N:=some 14) (bm 11 511) rfl rfl (Qhh HT_.out qq_2) (by decide) (fun K hK=>?_);have t:=Qcz (P:=Tryz.prog) Tryz.underlying40 Tryz.underlying5 Tryz.underlying9 (Kd.own_of_R c.out);refine Qgj (w1:=?_) (v:=?_) (by rfl) rfl ?_ ?_;rotate_left 2
     ·go_simp
      constructor
      ·rfl
      ·rfl
     clear t;refine hK.out _ _ trivial (fun a=>?_);clear hK K;refine nzp_ 14 ?_;exact Qgf (by simp only[Qge,Act.put,List.setIfInBounds_toArray,List.set_cons_zero,List.set_cons_succ]) (hCont (m) _ ⟨qq_7,qq_b⟩)
   rintro m B ⟨D,E⟩;have G:Aside0 (Kd.R (Kd.int .u8) 5 B w.heap.size (fun _=>True) m d):=⟨D⟩;have I:Aside0 (Below w.heap.size w B):=⟨E⟩;clear HB D E;have c:=G;have HB:=I;clear G I;have a:=trivial;refine nza_ ?_;refine pz_ (i:=9) (N:=some 18) (bm 11 1023) (Qhg HT_.out qq_2) ?_;refine pz_ (i:=10) (N:=some 2) (bm 11 2047) (Qhg HT_.out qq_2) ?_;refine Qgd (Qhj HT_.out qq_2) ?_
   try go_wp2
   go_ret
   exact⟨qq_5,qq_b⟩
  ·rw[if_neg c7]at H;exact absurd H (by simp)
def Qaz.l0:Nat→Int→ByteArray→Int→Int→Option (ByteArray)
 | 0,_,_,_,_=>none
 | k+1,x0,x5,x6,x7=>if x7<x6 then((some (([(Int.tmod x0 256)%256]:List Int):List Int)).bind fun y130=>(if x5.size+(strOfNums y130).size≤9223372036854775807 then(Qaz.l0 k (IntKind.u64.wrap (Int.tdiv x0 256)) (x5++(strOfNums y130)) x6 (wrap64 (x7+1)))else(none)))else(some x5)
def Qaz.f(k:Nat)(a0:Int)(a1:Int):Option (ByteArray):=Qaz.l0 k a0 (⟨#[]⟩:ByteArray) a1 0
theorem Qaz.calls(k:Nat)(a0:Int)(a1:Int)(r:ByteArray)(w:World)(h:Qaz.f k a0 a1=some r) :
  Calls Tryz.prog 133 #[.int .u64 a0,.int .i64 a1] w fun e w'=>e=.returned (.string r)∧Below w.heap.size w w':=by
 have HB:=QA (Below.refl w.heap.size w);have H:(Qaz.l0 k a0 (⟨#[]⟩:ByteArray) a1 0)=some r:=h;clear h;have H':=QA H;clear H
 go_enter Tryz.func133,Tryz.ntmps133
 go_wp2
 go_loopg [0,5,7] k (fun kq v0 v5 v7 w'=>∃(a:Int) (b:ByteArray) (d:Int),v0=.int .u64 a∧v5=.string b∧v7=.int .i64 d∧Aside0 (Qaz.l0 kq a b a1 d=some r)∧Aside0 (kq≤k)∧Aside0 (Below w.heap.size w w'))
 case atStart=>exact⟨(a0),((⟨#[]⟩:ByteArray)),(0),qq_4,qq_4,qq_4,H',⟨Nat.le_refl _⟩,⟨qq_b⟩⟩
 case round =>
  clear H';obtain⟨a,b,d,rfl,rfl,rfl,HA,HK1,HB⟩:=hrel
  cases gk with
  | zero=>exact absurd HA.out (by simp[Qaz.l0])
  | succ k1 =>
   have H:=HA.out;clear HA;simp only[Qaz.l0]at H
   by_cases c3:d<a1
   ·rw[if_pos c3]at H;have o:=decide_eq_true c3;clear c3;obtain⟨g,c⟩:∃y_:List Int,y_=(([(Int.tmod a 256)%256]:List Int)):=⟨_,rfl⟩;replace H:(if b.size+(strOfNums g).size≤9223372036854775807 then(Qaz.l0 k1 (IntKind.u64.wrap (Int.tdiv a 256)) (b++(strOfNums g)) a1 (wrap64 (d+1)))else(none))=some r:=by first |(rw[c];with_reducible exact H) |(have m:=(Option.bind_some _ _).symm.trans H;rw[c];with_reducible exact m) |(have m:=(Option.bind_some _ _).symm.trans H;with_reducible exact m)|with_reducible exact H |(rw[c];exact H)|exact H
    have l:=QA c;clear c
    by_cases c4:b.size+(strOfNums g).size≤9223372036854775807
    ·rw[if_pos c4]at H;have p:=eq_true c4;have q:=decide_eq_true c4
     try have s:(9223372036854775807<b.size+(strOfNums g).size)=False:=eq_false (Nat.not_lt.2 c4)
     have H':=QA H;clear H
     go_wp2_with (first |((with_reducible refine Qfn (N:=13) rfl ?_);refine Kd.R_lit (Kd.int .u8) _ 5 ?hg (N:=13) ?hd (xs:=([(Int.tmod a 256)%256]:List Int)) (inner:=[.int .u8 ((Int.tmod a 256)%256)]) (ok:=fun _=>True) (okp:=fun _=>True) ?hr ?hp (fun _ hk=>hk) trivial (Below.refl _ _) (Nat.le_refl _) (by simp) ?_;(case hd=>rfl);(case hg=>rfl);(case hr=>exact qq_10);(case hp=>exact(Reps.one (show Kd.M (Kd.int .u8) _ _ _ ((Int.tmod a 256)%256) [.int .u8 ((Int.tmod a 256)%256)] from rfl) (Reps.none _ _)));intro t w5 j hb hg_ hnew_;clear hg_ hnew_;(first|rw[← l.out]at j |(simp only[Int.reduceToNat]at j;rw[← l.out]at j));have n_:=qn2 (Kd.R_lower j (Qfc qq_b)) (Qfd qq_b hb);clear HB;obtain⟨n,HB⟩:=n_;clear hb j;have u:=Qcz (P:=Tryz.prog) Tryz.underlying40 Tryz.underlying5 Tryz.underlying9 (Kd.own_of_R n.out)))
     go_roundg k1
     case measure=>have:=HK1.out;omega
     case rel=>exact⟨(IntKind.u64.wrap (Int.tdiv a 256)),(b++(strOfNums g)),(wrap64 (d+1)),qq_4,qq_4,qq_4,H',⟨by have:=HK1.out;omega⟩,⟨qq_b⟩⟩
    ·rw[if_neg c4]at H;exact absurd H (by simp)
   ·rw[if_neg c3]at H;have o:=decide_eq_false c3;clear c3;obtain rfl:=Option.some.inj H;go_wp2;go_ret
    exact⟨qq_5,qq_b⟩
end Go.Proofs.YteaocbonofboeaaGreat.C
end
