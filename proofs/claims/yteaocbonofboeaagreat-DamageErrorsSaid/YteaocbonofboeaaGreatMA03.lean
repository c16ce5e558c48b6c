/- Merged texts. -/
import Derived.Test.YteaocbonofboeaaGreatMA02
set_option linter.unusedVariables false
set_option linter.unusedSimpArgs false
set_option maxHeartbeats 8000000
set_option maxRecDepth 100000
section
namespace Go.Proofs.YteaocbonofboeaaGreat.C
open Go.RowKit Go.Proofs.YteaocbonofboeaaGreatW.PrintWords Go.Proofs.YteaocbonofboeaaGreatW.PrintLast Go.Proofs.YteaocbonofboeaaGreatW.PrintMore
attribute [local go_sem] Qiz Qja Qjb Qjc Qjd Qje Qjf Qjg
mutual
def Qbo.l0:Nat→ByteArray→ByteArray→ByteArray→Int→Option (ByteArray)
 | 0,_,_,_,_=>none
 | k+1,x3,x4,x5,x6=>if x6<(x3.size:Int)then(if 0≤x6 then(if(bt x3 x6)=0 then(if x6=(wrap64 ((x3.size:Int)-1))then(if x5.toList=([]:List UInt8)then(if x6 > 0 then(if 0≤(wrap64 (x6-1))then(if(wrap64 (x6-1))<(x3.size:Int)then(Qbo.j1 k x3 x4 x5 x6 ((bt x3 (wrap64 (x6-1))) != 0))else(none))else(none))else(Qbo.j1 k x3 x4 x5 x6 false))else(Qbo.j1 k x3 x4 x5 x6 false))else(Qbo.j1 k x3 x4 x5 x6 false))else(if x6≤(wrap64 (x6+1))then(if(wrap64 (x6+1))≤(x3.size:Int)then(if x5.size+(x3.extract (x6:Int).toNat ((wrap64 (x6+1)):Int).toNat).size≤9223372036854775807 then(if((x5++(x3.extract (x6:Int).toNat ((wrap64 (x6+1)):Int).toNat)).size:Int)=254 then(if x4.size+1≤9223372036854775807 then(if(x4++(⟨#[255]⟩:ByteArray)).size+(x5++(x3.extract (x6:Int).toNat ((wrap64 (x6+1)):Int).toNat)).size≤9223372036854775807 then(Qbo.l0 k x3 ((x4++(⟨#[255]⟩:ByteArray))++(x5++(x3.extract (x6:Int).toNat ((wrap64 (x6+1)):Int).toNat))) (⟨#[]⟩:ByteArray) (wrap64 (x6+1)))else(none))else(none))else(Qbo.l0 k x3 x4 (x5++(x3.extract (x6:Int).toNat ((wrap64 (x6+1)):Int).toNat)) (wrap64 (x6+1))))else(none))else(none))else(none)))else(none))else(some x4)
def Qbo.j1:Nat→ByteArray→ByteArray→ByteArray→Int→Bool→Option (ByteArray)
 | 0,_,_,_,_,_=>none
 | k+1,x3,x4,x5,x6,x38=>if x38=true then(some x4)else((some (([(wrap64 ((x5.size:Int)+1))%256]:List Int):List Int)).bind fun y127=>(if x4.size+(strOfNums y127).size≤9223372036854775807 then(if(x4++(strOfNums y127)).size+x5.size≤9223372036854775807 then(Qbo.l0 k x3 ((x4++(strOfNums y127))++x5) (⟨#[]⟩:ByteArray) (wrap64 (x6+1)))else(none))else(none)))
end
def Qbo.f(k:Nat)(a0:ByteArray):Option (ByteArray):=if a0.size+1≤9223372036854775807 then(Qbo.l0 k (a0++(⟨#[0]⟩:ByteArray)) (⟨#[]⟩:ByteArray) (⟨#[]⟩:ByteArray) 0)else(none)
theorem Qbo.calls (k:Nat) (a0:ByteArray) (r:ByteArray) (w:World) (h:Qbo.f k a0=some r) :
  Calls Tryz.prog 132 #[.string a0] w fun e w'=>e=.returned (.string r)∧Below w.heap.size w w':=by
 have HB:=QA (Below.refl w.heap.size w);have H:(if a0.size+1≤9223372036854775807 then(Qbo.l0 k (a0++(⟨#[0]⟩:ByteArray)) (⟨#[]⟩:ByteArray) (⟨#[]⟩:ByteArray) 0)else(none))=some r:=h;clear h
 by_cases c2:a0.size+1≤9223372036854775807
 ·rw [if_pos c2]at H;have L:=eq_true c2;have O:=decide_eq_true c2
  try have T:(9223372036854775807<a0.size+1)=False:=eq_false (Nat.not_lt.2 c2)
  have H':=QA H;clear H
  go_enter Tryz.func132,Tryz.ntmps132
  go_wp2;generalize hal:a0++(⟨#[0]⟩:ByteArray)=al at *;clear hal
  go_loopg [4,5,6] k (fun kq v4 v5 v6 w'=>∃(c:ByteArray) (b:ByteArray) (a:Int),v4=.string c∧v5=.string b∧v6=.int .i64 a∧Aside0 (Qbo.l0 kq al c b a=some r)∧Aside0 (kq≤k)∧Aside0 (Below w.heap.size w w'))
  case atStart=>exact⟨((⟨#[]⟩:ByteArray)),((⟨#[]⟩:ByteArray)),(0),qq_7,qq_7,qq_7,H',⟨Nat.le_refl _⟩,⟨qq_b⟩⟩
  case round =>
   clear H'
   try clear c2
   try clear L
   try clear O
   try clear T
   obtain⟨c,b,a,rfl,rfl,rfl,HA,HK1,HB⟩:=hrel
   cases gk with
   | zero=>exact absurd HA.out (by simp[Qbo.l0])
   | succ k1 =>
    have H:=HA.out;clear HA;simp only[Qbo.l0]at H
    by_cases c3:a<(al.size:Int)
    ·rw [if_pos c3]at H;have U:=decide_eq_true c3;clear c3
     by_cases c4:0≤a
     ·rw [if_pos c4]at H;have ao:=decide_eq_true c4;clear c4
      by_cases c6:(bt al a)=0
      ·rw [if_pos c6]at H;have W:((bt al a) == 0)=true:=beq_iff_eq.mpr c6;have X:((bt al a) != 0)=false:=bne_eq_false_iff_eq.mpr c6;clear c6;have Y:=QA H;clear H;have p5:0≤(a:Int):=of_decide_eq_true qq_3;have q5:a<(al.size:Int):=of_decide_eq_true qq_3;have Z:=Qdi al a;replace p5:=eq_true p5;replace q5:=eq_true q5
       go_upto_region 8 with(fail)
       go_cut [38] (fun aq wc=>∃(kq:Nat) (m:Bool),aq=.bool m∧Aside0 (Qbo.j1 kq al c b a m=some r)∧Aside0 (kq≤k1)∧Aside0 (Below w.heap.size w wc))
       case first =>
        have H:=Y.out;clear Y
        by_cases c8:a=(wrap64 ((al.size:Int)-1))
        ·rw [if_pos c8]at H;have l:(a == (wrap64 ((al.size:Int)-1)))=true:=beq_iff_eq.mpr c8;have aa:(a != (wrap64 ((al.size:Int)-1)))=false:=bne_eq_false_iff_eq.mpr c8;clear c8
         (first|rw[l] |(simp only[Qhh,Qhi];rw[l])|skip)
         by_cases c9:b.toList=([]:List UInt8)
         ·rw [if_pos c9]at H;have ab:(b.toList == ([]:List UInt8))=true:=beq_iff_eq.mpr c9;have ac:(b.toList != ([]:List UInt8))=false:=bne_eq_false_iff_eq.mpr c9;clear c9
          by_cases c10:a > 0
          ·rw[if_pos c10]at H;have z:decide (0<a)=true:=decide_eq_true c10;clear c10;obtain⟨d,n⟩:∃j_:Int,(wrap64 (a-1))=j_:=⟨_,rfl⟩;replace H:(if 0≤(d)then(if(d)<(al.size:Int)then(Qbo.j1 k1 al c b a ((bt al (d)) != 0))else(none))else(none))=some r:=by first |(rw[n]at H;exact H) |(simp only[n]at H ⊢;exact H)
           have ar:(IntKind.i64.wrap (a-1))=d:=(Qhh _).trans n
           by_cases q:0≤(d)
           ·rw[if_pos q]at H;have ae:=decide_eq_true q;clear q
            by_cases s:(d)<(al.size:Int)
            ·rw[if_pos s]at H;have af:=decide_eq_true s;clear s;have H':=QA H;clear H;have A:0≤((d):Int):=of_decide_eq_true qq_3;have B:(d)<(al.size:Int):=of_decide_eq_true qq_3;have ap:=Qdi al (d);replace A:=eq_true A;replace B:=eq_true B;go_wp2
             go_meet
             case rel=>exact⟨_,(((bt al (d)) != 0)),(by first|rfl |(simp;done) |(simp only[← n]<;>(first|rfl|simp)) |(simp[*];done)),H',⟨by have:=HK1.out;first|omega|exact Nat.le_refl _⟩,⟨qq_b⟩⟩
            ·rw[if_neg s]at H;exact absurd H (by simp)
           ·rw[if_neg q]at H;exact absurd H (by simp)
          ·rw[if_neg c10]at H;have z:decide (0<a)=false:=decide_eq_false c10;clear c10;have H':=QA H;clear H;go_wp2
           go_meet
           case rel=>exact⟨_,(false),qq_7,H',⟨by have:=HK1.out;first|omega|exact Nat.le_refl _⟩,⟨qq_b⟩⟩
         ·rw[if_neg c9]at H;have ab:(b.toList == ([]:List UInt8))=false:=beq_eq_false_iff_ne.mpr c9;have ac:(b.toList != ([]:List UInt8))=true:=bne_iff_ne.mpr c9;have H':=QA H;clear H;go_wp2
          go_meet
          case rel=>exact⟨_,(false),qq_7,H',⟨by have:=HK1.out;first|omega|exact Nat.le_refl _⟩,⟨qq_b⟩⟩
        ·rw[if_neg c8]at H;have l:(a == (wrap64 ((al.size:Int)-1)))=false:=beq_eq_false_iff_ne.mpr c8;have aa:(a != (wrap64 ((al.size:Int)-1)))=true:=bne_iff_ne.mpr c8
         (first|rw[l] |(simp only[Qhh,Qhi];rw[l])|skip)
         have H':=QA H;clear H;go_wp2
         go_meet
         case rel=>exact⟨_,(false),qq_7,H',⟨by have:=HK1.out;first|omega|exact Nat.le_refl _⟩,⟨qq_b⟩⟩
       case rest =>
        clear Y
        try clear c2
        try clear L
        try clear O
        try clear T
        try clear c3
        try clear U
        try clear c4
        try clear ao
        try clear p5
        try clear q5
        try clear Z
        try clear c6
        try clear W
        try clear X
        try clear c8
        try clear l
        try clear aa
        try clear c9
        try clear ab
        try clear ac
        try clear c10
        try clear z
        try clear q
        try clear ae
        try clear s
        try clear af
        try clear A
        try clear B
        try clear ap
        try clear A
        try clear p5
        try clear B
        try clear q5
        obtain⟨kq,m,rfl,HA,HJ6,HB⟩:=hcut
        cases kq with
        | zero=>exact absurd HA.out (by simp[Qbo.j1])
        | succ kj6 =>
         have H:=HA.out;clear HA;simp only[Qbo.j1]at H
         by_cases D:m=true
         ·subst D;rw[if_pos rfl]at H;obtain rfl:=Option.some.inj H;go_wp2;go_ret
          exact⟨qq_5,qq_b⟩
         ·replace D:=Bool.eq_false_iff.mpr D;subst D;rw[if_neg (show ¬(false=true)by decide)]at H;obtain⟨g,j⟩:∃y_:List Int,y_=(([(wrap64 ((b.size:Int)+1))%256]:List Int)):=⟨_,rfl⟩;replace H:(if c.size+(strOfNums g).size≤9223372036854775807 then(if(c++(strOfNums g)).size+b.size≤9223372036854775807 then(Qbo.l0 kj6 al ((c++(strOfNums g))++b) (⟨#[]⟩:ByteArray) (wrap64 (a+1)))else(none))else(none))=some r:=by first |(rw[j];with_reducible exact H) |(have ad:=(Option.bind_some _ _).symm.trans H;rw[j];with_reducible exact ad) |(have ad:=(Option.bind_some _ _).symm.trans H;with_reducible exact ad)|with_reducible exact H |(rw[j];exact H)|exact H
          have E:=QA j;clear j
          by_cases t:c.size+(strOfNums g).size≤9223372036854775807
          ·rw[if_pos t]at H;have au:=eq_true t;have av:=decide_eq_true t
           try have aw:(9223372036854775807<c.size+(strOfNums g).size)=False:=eq_false (Nat.not_lt.2 t)
           by_cases u:(c++(strOfNums g)).size+b.size≤9223372036854775807
           ·rw[if_pos u]at H;have ax:=eq_true u;have ay:=decide_eq_true u
            try have G:(9223372036854775807<(c++(strOfNums g)).size+b.size)=False:=eq_false (Nat.not_lt.2 u)
            try have ag:=G
            try simp only[ByteArray.size_append,(show ∀x_:UInt8,(⟨#[x_]⟩:ByteArray).size=1 from fun _=>rfl),(show ∀x_ y_:UInt8,(⟨#[x_,y_]⟩:ByteArray).size=2 from fun _ _=>rfl)]at ag
            try have ah:=G
            try simp only[ByteArray.size_append,ByteArray.size_extract,(show ∀x_:UInt8,(⟨#[x_]⟩:ByteArray).size=1 from fun _=>rfl),(show ∀x_ y_:UInt8,(⟨#[x_,y_]⟩:ByteArray).size=2 from fun _ _=>rfl)]at ah
            have H':=QA H;clear H
            go_wp2_with (first |((with_reducible refine Qgj (N:=44) rfl ?_);refine Kd.R_lit (Kd.int .u8) _ 5 ?hg (N:=44) ?hd (xs:=([(wrap64 ((b.size:Int)+1))%256]:List Int)) (inner:=[.int .u8 ((wrap64 ((b.size:Int)+1))%256)]) (ok:=fun _=>True) (okp:=fun _=>True) ?hr ?hp (fun _ hk=>hk) trivial (Below.refl _ _) (Nat.le_refl _) (by simp) ?_;(case hd=>rfl);(case hg=>rfl);(case hr=>exact qq_20);(case hp=>exact(Reps.one (show Kd.M (Kd.int .u8) _ _ _ ((wrap64 ((b.size:Int)+1))%256) [.int .u8 ((wrap64 ((b.size:Int)+1))%256)] from rfl) (Reps.none _ _)));intro aN aO o hb hg_ hnew_;clear hg_ hnew_;(first|rw[← E.out]at o |(simp only[Int.reduceToNat]at o;rw[← E.out]at o));have n_:=qn2 (Kd.R_lower o (Qfx qq_b)) (Qfy qq_b hb);clear HB;obtain⟨ai,HB⟩:=n_;clear hb o;have az:=Qdt (P:=Tryz.prog) Tryz.underlying40 Tryz.underlying5 Tryz.underlying9 (Kd.own_of_R ai.out)))
            go_roundg kj6
            case measure=>have:=HK1.out;have:=HJ6.out;omega
            case rel=>exact⟨((c++(strOfNums g))++b),((⟨#[]⟩:ByteArray)),(wrap64 (a+1)),qq_7,qq_7,qq_7,H',⟨by have:=HK1.out;have:=HJ6.out;omega⟩,⟨qq_b⟩⟩
           ·rw[if_neg u]at H;exact absurd H (by simp)
          ·rw[if_neg t]at H;exact absurd H (by simp)
      ·rw [if_neg c6]at H;have W:((bt al a) == 0)=false:=beq_eq_false_iff_ne.mpr c6;have X:((bt al a) != 0)=true:=bne_iff_ne.mpr c6;have aA:=eq_true (of_decide_eq_true qq_3:0≤a)
       by_cases I:a≤(wrap64 (a+1))
       ·rw [if_pos I]at H;have aB:=eq_true I;have aC:=decide_eq_true I
        by_cases J:(wrap64 (a+1))≤(al.size:Int)
        ·rw [if_pos J]at H;have aD:=eq_true J;have aE:=decide_eq_true J
         by_cases v:b.size+(al.extract (a:Int).toNat ((wrap64 (a+1)):Int).toNat).size≤9223372036854775807
         ·rw [if_pos v]at H;have aF:=eq_true v;have aG:=decide_eq_true v
          try have aH:(9223372036854775807<b.size+(al.extract (a:Int).toNat ((wrap64 (a+1)):Int).toNat).size)=False:=eq_false (Nat.not_lt.2 v)
          generalize hnw:(b++(al.extract (a:Int).toNat ((wrap64 (a+1)):Int).toNat))=nw at *
          by_cases p:(nw.size:Int)=254
          ·rw[if_pos p]at H;have aj:((nw.size:Int) == 254)=true:=beq_iff_eq.mpr p;have ak:((nw.size:Int) != 254)=false:=bne_eq_false_iff_eq.mpr p;clear p
           by_cases x:c.size+1≤9223372036854775807
           ·rw[if_pos x]at H;have aI:=eq_true x;have aJ:=decide_eq_true x
            try have aK:(9223372036854775807<c.size+1)=False:=eq_false (Nat.not_lt.2 x)
            by_cases y:(c++(⟨#[255]⟩:ByteArray)).size+nw.size≤9223372036854775807
            ·rw[if_pos y]at H;have aL:=eq_true y;have aM:=decide_eq_true y
             try have K:(9223372036854775807<(c++(⟨#[255]⟩:ByteArray)).size+nw.size)=False:=eq_false (Nat.not_lt.2 y)
             try have am:=K
             try simp only[ByteArray.size_append,(show ∀x_:UInt8,(⟨#[x_]⟩:ByteArray).size=1 from fun _=>rfl),(show ∀x_ y_:UInt8,(⟨#[x_,y_]⟩:ByteArray).size=2 from fun _ _=>rfl)]at am
             try have an:=K
             try simp only[ByteArray.size_append,ByteArray.size_extract,(show ∀x_:UInt8,(⟨#[x_]⟩:ByteArray).size=1 from fun _=>rfl),(show ∀x_ y_:UInt8,(⟨#[x_,y_]⟩:ByteArray).size=2 from fun _ _=>rfl)]at an
             have H':=QA H;clear H;have p5:0≤(a:Int):=of_decide_eq_true qq_3;have q5:a<(al.size:Int):=of_decide_eq_true qq_3;have Z:=Qdi al a;replace p5:=eq_true p5;replace q5:=eq_true q5;go_wp2
             go_roundg k1
             case measure=>have:=HK1.out;omega
             case rel=>exact⟨((c++(⟨#[255]⟩:ByteArray))++nw),((⟨#[]⟩:ByteArray)),(wrap64 (a+1)),qq_7,qq_7,qq_7,H',⟨by have:=HK1.out;omega⟩,⟨qq_b⟩⟩
            ·rw[if_neg y]at H;exact absurd H (by simp)
           ·rw[if_neg x]at H;exact absurd H (by simp)
          ·rw[if_neg p]at H;have aj:((nw.size:Int) == 254)=false:=beq_eq_false_iff_ne.mpr p;have ak:((nw.size:Int) != 254)=true:=bne_iff_ne.mpr p;have H':=QA H;clear H;have p5:0≤(a:Int):=of_decide_eq_true qq_3;have q5:a<(al.size:Int):=of_decide_eq_true qq_3;have Z:=Qdi al a;replace p5:=eq_true p5;replace q5:=eq_true q5;go_wp2
           go_roundg k1
           case measure=>have:=HK1.out;omega
           case rel=>exact⟨(c),nw,(wrap64 (a+1)),qq_7,qq_7,qq_7,H',⟨by have:=HK1.out;omega⟩,⟨qq_b⟩⟩
         ·rw[if_neg v]at H;exact absurd H (by simp)
        ·rw[if_neg J]at H;exact absurd H (by simp)
       ·rw[if_neg I]at H;exact absurd H (by simp)
     ·rw[if_neg c4]at H;exact absurd H (by simp)
    ·rw[if_neg c3]at H;have U:=decide_eq_false c3;clear c3;obtain rfl:=Option.some.inj H;go_wp2;go_ret
     exact⟨qq_5,qq_b⟩
 ·rw[if_neg c2]at H;exact absurd H (by simp)
theorem eqA37(d:Nat)(w:World)(x0 y0:Bool)(x1 y1:Int)(x2 y2:ByteArray)(x3 y3:ByteArray) :
  (Op.equalIn (d+2) 37 (.agg #[.bool x0,.int .u64 x1,.string x2,.string x3]) (.agg #[.bool y0,.int .u64 y1,.string y2,.string y3])).run Tryz.prog w=.ok (x0 == y0 && (x1 == y1 && (x2.toList == y2.toList && (x3.toList == y3.toList)))) w:=by
 refine Qix Tryz.underlying37 qq_6 ?_;refine Qiw (by rfl) (by go_simp;rfl) (by go_simp;rfl) (by go_simp) ?_;refine Qiw (by rfl) (by go_simp;rfl) (by go_simp;rfl) (by go_simp) ?_;refine Qiw (by rfl) (by go_simp;rfl) (by go_simp;rfl) (by go_simp) ?_;exact Qiv (by rfl) (by go_simp;rfl) (by go_simp;rfl) (by go_simp)
def Qap.f(a0_0:Int)(a0_1:Int):Option (Int):=if a0_0<12 then(some 1)else(if a0_0 > 24 then(some 1)else(if a0_1<1 then(some 1)else(if a0_1 > 65536 then(some 1)else(some 0))))
theorem Qap.calls(c:Int)(d:Int)(r:Int)(w:World)(h:Qap.f c d=some r) :
  Calls Tryz.prog 118 #[.agg #[.int .u8 c,.int .u32 d]] w fun e w'=>e=.returned (.int .i64 r)∧Below w.heap.size w w':=by
 have hu28:=Tryz.underlying28;have HB:=QA (Below.refl w.heap.size w);have H:(if c<12 then(some 1)else(if c > 24 then(some 1)else(if d<1 then(some 1)else(if d > 65536 then(some 1)else(some 0)))))=some r:=h;clear h
 by_cases c2:c<12
 ·rw[if_pos c2]at H;have m:=decide_eq_true c2;clear c2;obtain rfl:=Option.some.inj H
  go_enter Tryz.func118,Tryz.ntmps118
  go_wp2_with (first |((with_reducible refine Qgj (N:=1) rfl ?_);refine qq_e 1 #[.int .u8 c,.int .u32 d] 28 ?_;intro a hg w3 hbox hb;have n_:=qn4 (Qfy qq_b hb) (hbox) (qq_s hg:w.heap.size≤a) (qq_s hg:w.heap.size≤a);clear HB;obtain⟨HB,b,g,j⟩:=n_;clear hb hbox hg;obtain⟨x,y⟩:=qc2 b.out;have G:=Qej b.out))
  go_ret
  exact⟨qq_5,qq_b⟩
 ·rw [if_neg c2]at H;have m:=decide_eq_false c2;clear c2
  by_cases c5:c > 24
  ·rw[if_pos c5]at H;have n:decide (24<c)=true:=decide_eq_true c5;clear c5;obtain rfl:=Option.some.inj H
   go_enter Tryz.func118,Tryz.ntmps118
   go_wp2_with (first |((with_reducible refine Qgj (N:=1) rfl ?_);refine qq_e 1 #[.int .u8 c,.int .u32 d] 28 ?_;intro a hg w6 hbox hb;have n_:=qn4 (Qfy qq_b hb) (hbox) (qq_s hg:w.heap.size≤a) (qq_s hg:w.heap.size≤a);clear HB;obtain⟨HB,b,g,j⟩:=n_;clear hb hbox hg;obtain⟨z,A⟩:=qc2 b.out;have I:=Qej b.out))
   go_ret
   exact⟨qq_5,qq_b⟩
  ·rw[if_neg c5]at H;have n:decide (24<c)=false:=decide_eq_false c5;clear c5
   by_cases c8:d<1
   ·rw[if_pos c8]at H;have o:=decide_eq_true c8;clear c8;obtain rfl:=Option.some.inj H
    go_enter Tryz.func118,Tryz.ntmps118
    go_wp2_with (first |((with_reducible refine Qgj (N:=1) rfl ?_);refine qq_e 1 #[.int .u8 c,.int .u32 d] 28 ?_;intro a hg w9 hbox hb;have n_:=qn4 (Qfy qq_b hb) (hbox) (qq_s hg:w.heap.size≤a) (qq_s hg:w.heap.size≤a);clear HB;obtain⟨HB,b,g,j⟩:=n_;clear hb hbox hg;obtain⟨p,q⟩:=qc2 b.out;have B:=Qej b.out))
    go_ret
    exact⟨qq_5,qq_b⟩
   ·rw[if_neg c8]at H;have o:=decide_eq_false c8;clear c8
    by_cases k:d > 65536
    ·rw[if_pos k]at H;have l:decide (65536<d)=true:=decide_eq_true k;clear k;obtain rfl:=Option.some.inj H
     go_enter Tryz.func118,Tryz.ntmps118
     go_wp2_with (first |((with_reducible refine Qgj (N:=1) rfl ?_);refine qq_e 1 #[.int .u8 c,.int .u32 d] 28 ?_;intro a hg J hbox hb;have n_:=qn4 (Qfy qq_b hb) (hbox) (qq_s hg:w.heap.size≤a) (qq_s hg:w.heap.size≤a);clear HB;obtain⟨HB,b,g,j⟩:=n_;clear hb hbox hg;obtain⟨s,t⟩:=qc2 b.out;have D:=Qej b.out))
     go_ret
     exact⟨qq_5,qq_b⟩
    ·rw[if_neg k]at H;have l:decide (65536<d)=false:=decide_eq_false k;clear k;obtain rfl:=Option.some.inj H
     go_enter Tryz.func118,Tryz.ntmps118
     go_wp2_with (first |((with_reducible refine Qgj (N:=1) rfl ?_);refine qq_e 1 #[.int .u8 c,.int .u32 d] 28 ?_;intro a hg K hbox hb;have n_:=qn4 (Qfy qq_b hb) (hbox) (qq_s hg:w.heap.size≤a) (qq_s hg:w.heap.size≤a);clear HB;obtain⟨HB,b,g,j⟩:=n_;clear hb hbox hg;obtain⟨u,v⟩:=qc2 b.out;have E:=Qej b.out))
     go_ret
     exact⟨qq_5,qq_b⟩
def Qcz.j0:Nat→Bool→Bool→Int→ByteArray→ByteArray→Option (Int)
 | 0,_,_,_,_,_=>none
 | k+1,x12,x178000,x178001,x178002,x178003=>if x12=true then(some 4)else(if(x178003.size:Int) > 1048576 then(some 3)else(some 0))
def Qcz.f(k:Nat)(a0_0:Bool)(a0_1:Int)(a0_2:ByteArray)(a0_3:ByteArray):Option (Int):=if a0_2.toList=([]:List UInt8)then(some 4)else(if(a0_2.size:Int) > 4096 then(some 3)else(if a0_0=true then(Qcz.j0 k (a0_3.toList != ([]:List UInt8)) a0_0 a0_1 a0_2 a0_3)else(Qcz.j0 k false a0_0 a0_1 a0_2 a0_3)))
theorem Qcz.mono_l:∀k,(∀y0 y1 y2 y3 y4,LeO (Qcz.j0 k y0 y1 y2 y3 y4) (Qcz.j0 (k+1) y0 y1 y2 y3 y4))
 | 0=>fun _ _ _ _ _ r h=>by simp[Qcz.j0]at h
 | k+1=>by
  have ih0:=Qcz.mono_l k
  ·intro y0 y1 y2 y3 y4;unfold Qcz.j0
   repeat' first
   |(with_reducible exact ih0 _ _ _ _ _)
   |(with_reducible exact LeO.refl _)
   |(with_reducible exact LeO.none _)
   |(with_reducible refine LeO.ite ?_ ?_)
   |(with_reducible refine LeO.bind ?_ (fun _=>?_))
   | exact ih0 _ _ _ _ _
   | exact LeO.none _
   | refine LeO.ite ?_ ?_
   | refine LeO.bind ?_ (fun _=>?_)
theorem Qcz.mono:∀a0 a1 a2 a3 k,LeO (Qcz.f k a0 a1 a2 a3) (Qcz.f (k+1) a0 a1 a2 a3):=by
 intro a0 a1 a2 a3 k;have ih0:=Qcz.mono_l k;unfold Qcz.f
 repeat' first
   |(with_reducible exact ih0 _ _ _ _ _)
   |(with_reducible exact LeO.refl _)
   |(with_reducible exact LeO.none _)
   |(with_reducible refine LeO.ite ?_ ?_)
   |(with_reducible refine LeO.bind ?_ (fun _=>?_))
   | exact ih0 _ _ _ _ _
   | exact LeO.none _
   | refine LeO.ite ?_ ?_
   | refine LeO.bind ?_ (fun _=>?_)
theorem Qcz.calls(k:Nat)(g:Bool)(j:Int)(b:ByteArray)(c:ByteArray)(r:Int)(w:World)(h:Qcz.f k g j b c=some r) :
  Calls Tryz.prog 58 #[.agg #[.bool g,.int .u64 j,.string b,.string c]] w fun e w'=>e=.returned (.int .i64 r)∧Below w.heap.size w w':=by
 have hu37:=Tryz.underlying37;have HB:=QA (Below.refl w.heap.size w);have H:(if b.toList=([]:List UInt8)then(some 4)else(if(b.size:Int) > 4096 then(some 3)else(if g=true then(Qcz.j0 k (c.toList != ([]:List UInt8)) g j b c)else(Qcz.j0 k false g j b c))))=some r:=h;clear h
 by_cases c2:b.toList=([]:List UInt8)
 ·rw[if_pos c2]at H;have I:(b.toList == ([]:List UInt8))=true:=beq_iff_eq.mpr c2;have J:(b.toList != ([]:List UInt8))=false:=bne_eq_false_iff_eq.mpr c2;clear c2;obtain rfl:=Option.some.inj H
  go_enter Tryz.func58,Tryz.ntmps58
  go_wp2_with (first |((with_reducible refine Qgj (N:=1) rfl ?_);refine qq_e 1 #[.bool g,.int .u64 j,.string b,.string c] 37 ?_;intro d hg w3 hbox hb;have n_:=qn4 (Qfy qq_b hb) (hbox) (qq_s hg:w.heap.size≤d) (qq_s hg:w.heap.size≤d);clear HB;obtain⟨HB,a,o,p⟩:=n_;clear hb hbox hg;obtain⟨K,L,M,O⟩:=qc4 a.out;have af:=Qej a.out))
  go_ret
  exact⟨qq_5,qq_b⟩
 ·rw [if_neg c2]at H;have I:(b.toList == ([]:List UInt8))=false:=beq_eq_false_iff_ne.mpr c2;have J:(b.toList != ([]:List UInt8))=true:=bne_iff_ne.mpr c2
  by_cases c5:(b.size:Int) > 4096
  ·rw[if_pos c5]at H;have P:decide (4096<(b.size:Int))=true:=decide_eq_true c5;have T:decide (4096<b.size)=true:=decide_eq_true (by omega);clear c5;obtain rfl:=Option.some.inj H
   go_enter Tryz.func58,Tryz.ntmps58
   go_wp2_with (first |((with_reducible refine Qgj (N:=1) rfl ?_);refine qq_e 1 #[.bool g,.int .u64 j,.string b,.string c] 37 ?_;intro d hg w6 hbox hb;have n_:=qn4 (Qfy qq_b hb) (hbox) (qq_s hg:w.heap.size≤d) (qq_s hg:w.heap.size≤d);clear HB;obtain⟨HB,a,o,p⟩:=n_;clear hb hbox hg;obtain⟨U,W,X,Y⟩:=qc4 a.out;have ag:=Qej a.out))
   go_ret
   exact⟨qq_5,qq_b⟩
  ·rw [if_neg c5]at H;have P:decide (4096<(b.size:Int))=false:=decide_eq_false c5;have T:decide (4096<b.size)=false:=decide_eq_false (by omega);clear c5;have Z:=QA H;clear H
   go_enter Tryz.func58,Tryz.ntmps58
   go_upto_region 5 with(first |((with_reducible refine Qgj (N:=1) rfl ?_);refine qq_e 1 #[.bool g,.int .u64 j,.string b,.string c] 37 ?_;intro d hg w9 hbox hb;have n_:=qn4 (Qfy qq_b hb) (hbox) (qq_s hg:w.heap.size≤d) (qq_s hg:w.heap.size≤d);clear HB;obtain⟨HB,a,o,p⟩:=n_;clear hb hbox hg;obtain⟨s,t,u,v⟩:=qc4 a.out;have aa:=Qej a.out))
   (try simp only[Act.put,List.setIfInBounds_toArray,List.set_cons_zero,List.set_cons_succ])
   go_cut [12] (fun ap wc=>∃(kq:Nat) (l:Bool),ap=.bool l∧Aside0 (Qcz.j0 kq l g j b c=some r)∧Aside0 (kq≤k)∧Aside0 (wc.heap[d]? = some (.cells #[.bool g,.int .u64 j,.string b,.string c] 37 (0,0)))∧Aside0 (Below w.heap.size w wc))
   case first =>
    have H:=Z.out;clear Z
    by_cases n:g=true
    ·subst n;rw[if_pos rfl]at H;have H':=QA H;clear H;obtain⟨x,y,z,A⟩:=qc4 a.out;have ab:=Qej a.out;go_wp2
     go_meet
     case rel=>exact⟨_,((c.toList != ([]:List UInt8))),(by first|rfl |(simp;done) |(simp[*];done) |(cases c.toList<;>rfl)),H',⟨by first|omega|exact Nat.le_refl _⟩,⟨by(with_reducible repeat(first|apply Qew|apply Qev|apply Qeu));exact a.out⟩,⟨qq_b⟩⟩
    ·replace n:=Bool.eq_false_iff.mpr n;subst n;rw[if_neg (show ¬(false=true)by decide)]at H;have H':=QA H;clear H;obtain⟨B,D,E,G⟩:=qc4 a.out;have ac:=Qej a.out;go_wp2
     go_meet
     case rel=>exact⟨_,(false),(by first|rfl |(simp;done) |(simp[*];done) |(cases c.toList<;>rfl)),H',⟨by first|omega|exact Nat.le_refl _⟩,⟨by(with_reducible repeat(first|apply Qew|apply Qev|apply Qeu));exact a.out⟩,⟨qq_b⟩⟩
   case rest =>
    clear Z
    try clear c2
    try clear I
    try clear J
    try clear c5
    try clear P
    try clear T
    try clear n
    try clear s
    try clear t
    try clear u
    try clear v
    try clear x
    try clear y
    try clear z
    try clear A
    try clear B
    try clear D
    try clear E
    try clear G
    try clear K
    try clear L
    try clear M
    try clear O
    try clear U
    try clear W
    try clear X
    try clear Y
    try clear aa
    try clear ab
    try clear ac
    try clear af
    try clear ag
    obtain⟨kq,l,rfl,HA,HJ7,a,HB⟩:=hcut
    cases kq with
    | zero=>exact absurd HA.out (by simp[Qcz.j0])
    | succ kj7 =>
     have H:=HA.out;clear HA;simp only[Qcz.j0]at H
     by_cases q:l=true
     ·subst q;rw[if_pos rfl]at H;obtain rfl:=Option.some.inj H;go_wp2;go_ret
      exact⟨qq_5,qq_b⟩
     ·replace q:=Bool.eq_false_iff.mpr q;subst q;rw[if_neg (show ¬(false=true)by decide)]at H
      by_cases m:(c.size:Int) > 1048576
      ·rw[if_pos m]at H;have ad:decide (1048576<(c.size:Int))=true:=decide_eq_true m;have ae:decide (1048576<c.size)=true:=decide_eq_true (by omega);clear m;obtain rfl:=Option.some.inj H;obtain⟨ah,ai,aj,ak⟩:=qc4 a.out;have aq:=Qej a.out;go_wp2;go_ret
       exact⟨qq_5,qq_b⟩
      ·rw[if_neg m]at H;have ad:decide (1048576<(c.size:Int))=false:=decide_eq_false m;have ae:decide (1048576<c.size)=false:=decide_eq_false (by omega);clear m;obtain rfl:=Option.some.inj H;obtain⟨al,am,an,ao⟩:=qc4 a.out;have ar:=Qej a.out;go_wp2;go_ret
       exact⟨qq_5,qq_b⟩
def Qam.f(a0:Int):Option (Int):=if a0≤0 then(some 1)else(some (wrap64 ((wrap64 (a0+1))+(wrap64 (Int.tdiv (wrap64 (a0-1)) 254)))))
theorem Qam.calls(a0:Int)(r:Int)(w:World)(h:Qam.f a0=some r) :
  Calls Tryz.prog 196 #[.int .i64 a0] w fun e w'=>e=.returned (.int .i64 r)∧Drawn0 w w':=by
 have H:(if a0≤0 then(some 1)else(some (wrap64 ((wrap64 (a0+1))+(wrap64 (Int.tdiv (wrap64 (a0-1)) 254))))))=some r:=h;clear h
 by_cases c2:a0≤0
 ·rw[if_pos c2]at H;have c2b0:=decide_eq_true c2;clear c2;obtain rfl:=Option.some.inj H
  go_enter Tryz.func196,Tryz.ntmps196
  go_wp2;go_ret
  exact⟨by first|rfl |(simp;done) |(simp[*];done),by repeat(first|exact Drawn0.refl _|apply Drawn0.step)⟩
 ·rw[if_neg c2]at H;have c2b0:=decide_eq_false c2;clear c2;obtain rfl:=Option.some.inj H
  go_enter Tryz.func196,Tryz.ntmps196
  go_wp2;go_ret
  exact⟨by first|rfl |(simp;done) |(simp[*];done),by repeat(first|exact Drawn0.refl _|apply Drawn0.step)⟩
def Qcn.f(a0_0:Int)(a0_1:Int)(a1:Int):Option (Int):=(Qap.f a0_0 a0_1).bind fun t166=>(if t166=0 then(if a1≥a0_1 then(some 1)else(some 0))else(some 1))
theorem Qcn.calls(c:Int)(b:Int)(a1:Int)(r:Int)(w:World)(h:Qcn.f c b a1=some r) :
  Calls Tryz.prog 100 #[.agg #[.int .u8 c,.int .u32 b],.int .u32 a1] w fun e w'=>e=.returned (.int .i64 r)∧Below w.heap.size w w':=by
 have hu28:=Tryz.underlying28;have HB:=QA (Below.refl w.heap.size w);have H:((Qap.f c b).bind fun j=>(if j=0 then(if a1≥b then(some 1)else(some 0))else(some 1)))=some r:=h;clear h;replace H:=Option.bind_eq_some_iff.mp H;obtain⟨j,m,H⟩:=H;have A3:=QA m;clear m
 by_cases c4:j=0
 ·rw[if_pos c4]at H;have n:(j == 0)=true:=beq_iff_eq.mpr c4;have p:(j != 0)=false:=bne_eq_false_iff_eq.mpr c4;clear c4
  by_cases c5:a1≥b
  ·rw[if_pos c5]at H;have q:decide (b≤a1)=true:=decide_eq_true c5;clear c5;obtain rfl:=Option.some.inj H
   go_enter Tryz.func100,Tryz.ntmps100
   go_wp2_with (first |((with_reducible refine Qgj (N:=2) rfl ?_);refine qq_e 2 #[.int .u8 c,.int .u32 b] 28 ?_;intro d hg w6 hbox hb;have n_:=qn4 (Qfy qq_b hb) (hbox) (qq_s hg:w.heap.size≤d) (qq_s hg:w.heap.size≤d);clear HB;obtain⟨HB,a,k,l⟩:=n_;clear hb hbox hg;obtain⟨z,A⟩:=qc2 a.out;have J:=Qej a.out) |((with_reducible refine Qjh (f:=118) rfl ?_);refine Qhf (some 6) rfl rfl Tryz.func118 qq_6 rfl #[.agg #[.int .u8 c,.int .u32 b]] rfl qq_1 ?_;(with_reducible refine(Qap.calls c b j _ A3.out).mono ?_);rintro e w8 ⟨rfl,hb⟩;refine⟨_,rfl,?_⟩;have n_:=qn2 (Qex (g:=d) (o:=.cells #[.int .u8 c,.int .u32 b] 28 (0,0)) qq_0 hb) (Qfy qq_b hb);clear a HB;obtain⟨a,HB⟩:=n_;(try clear hb);(try clear hb2);(try clear hk);(try clear hi);obtain⟨B,D⟩:=qc2 a.out;have K:=Qej a.out))
   go_ret
   exact⟨qq_5,qq_b⟩
  ·rw[if_neg c5]at H;have q:decide (b≤a1)=false:=decide_eq_false c5;clear c5;obtain rfl:=Option.some.inj H
   go_enter Tryz.func100,Tryz.ntmps100
   go_wp2_with (first |((with_reducible refine Qgj (N:=2) rfl ?_);refine qq_e 2 #[.int .u8 c,.int .u32 b] 28 ?_;intro d hg L hbox hb;have n_:=qn4 (Qfy qq_b hb) (hbox) (qq_s hg:w.heap.size≤d) (qq_s hg:w.heap.size≤d);clear HB;obtain⟨HB,a,k,l⟩:=n_;clear hb hbox hg;obtain⟨s,t⟩:=qc2 a.out;have E:=Qej a.out) |((with_reducible refine Qjh (f:=118) rfl ?_);refine Qhf (some 6) rfl rfl Tryz.func118 qq_6 rfl #[.agg #[.int .u8 c,.int .u32 b]] rfl qq_1 ?_;(with_reducible refine(Qap.calls c b j _ A3.out).mono ?_);rintro e M ⟨rfl,hb⟩;refine⟨_,rfl,?_⟩;have n_:=qn2 (Qex (g:=d) (o:=.cells #[.int .u8 c,.int .u32 b] 28 (0,0)) qq_0 hb) (Qfy qq_b hb);clear a HB;obtain⟨a,HB⟩:=n_;(try clear hb);(try clear hb2);(try clear hk);(try clear hi);obtain⟨u,v⟩:=qc2 a.out;have G:=Qej a.out))
   go_ret
   exact⟨qq_5,qq_b⟩
 ·rw[if_neg c4]at H;have n:(j == 0)=false:=beq_eq_false_iff_ne.mpr c4;have p:(j != 0)=true:=bne_iff_ne.mpr c4;obtain rfl:=Option.some.inj H
  go_enter Tryz.func100,Tryz.ntmps100
  go_wp2_with (first |((with_reducible refine Qgj (N:=2) rfl ?_);refine qq_e 2 #[.int .u8 c,.int .u32 b] 28 ?_;intro d hg O hbox hb;have n_:=qn4 (Qfy qq_b hb) (hbox) (qq_s hg:w.heap.size≤d) (qq_s hg:w.heap.size≤d);clear HB;obtain⟨HB,a,k,l⟩:=n_;clear hb hbox hg;obtain⟨x,y⟩:=qc2 a.out;have I:=Qej a.out) |((with_reducible refine Qjh (f:=118) rfl ?_);refine Qhf (some 6) rfl rfl Tryz.func118 qq_6 rfl #[.agg #[.int .u8 c,.int .u32 b]] rfl qq_1 ?_;(with_reducible refine(Qap.calls c b j _ A3.out).mono ?_);rintro e P ⟨rfl,hb⟩;refine⟨_,rfl,?_⟩;have n_:=qn2 (Qex (g:=d) (o:=.cells #[.int .u8 c,.int .u32 b] 28 (0,0)) qq_0 hb) (Qfy qq_b hb);clear a HB;obtain⟨a,HB⟩:=n_;(try clear hb);(try clear hb2);(try clear hk);(try clear hi)))
  go_ret
  exact⟨qq_5,qq_b⟩
def Qaq.f(a0_0:Int)(a0_1:Int):Option (Int):=(Qap.f a0_0 a0_1).bind fun t174=>(if t174=0 then(if 0≤a0_0 then(some (shl .i64 1 a0_0))else(none))else(some 0))
theorem Qaq.calls(a:Int)(c:Int)(r:Int)(w:World)(h:Qaq.f a c=some r) :
  Calls Tryz.prog 66 #[.agg #[.int .u8 a,.int .u32 c]] w fun e w'=>e=.returned (.int .i64 r)∧Below w.heap.size w w':=by
 have hu28:=Tryz.underlying28;have HB:=QA (Below.refl w.heap.size w);have H:((Qap.f a c).bind fun d=>(if d=0 then(if 0≤a then(some (shl .i64 1 a))else(none))else(some 0)))=some r:=h;clear h;replace H:=Option.bind_eq_some_iff.mp H;obtain⟨d,s,H⟩:=H;have A2:=QA s;clear s
 by_cases c3:d=0
 ·rw[if_pos c3]at H;have t:(d == 0)=true:=beq_iff_eq.mpr c3;have u:(d != 0)=false:=bne_eq_false_iff_eq.mpr c3;clear c3
  by_cases c4:0≤a
  ·rw[if_pos c4]at H;have K:=eq_true c4;have L:=decide_eq_true c4;clear c4;obtain⟨l,k⟩:∃j_:Int,(shl .i64 1 a)=j_:=⟨_,rfl⟩;replace H:(some l)=some r:=by first |(rw[k]at H;exact H) |(simp only[k]at H ⊢;exact H)
   (try rw[k]at A2)
   have m:(IntKind.i64.wrap (1*2^min a.toNat 64))=l:=k;have n:a≤64→(IntKind.i64.wrap (1*2^a.toNat))=l:=Qjj k;have D:(IntKind.i64.wrap (2^min a.toNat 64))=l:=by have h_:=m;rw[Int.one_mul]at h_;exact h_
   have E:a≤64→(IntKind.i64.wrap (2^a.toNat))=l:=fun hle_=>by have h_:=n hle_;rw[Int.one_mul]at h_;exact h_
   have G:(wrap64 (1*2^min a.toNat 64))=l:=(Qhh _).symm.trans m;have I:a≤64→(wrap64 (1*2^a.toNat))=l:=fun h_=>(Qhh _).symm.trans (n h_)
   obtain rfl:=Option.some.inj H
   go_enter Tryz.func66,Tryz.ntmps66
   go_wp2_with (first |((with_reducible refine Qgj (N:=1) rfl ?_);refine qq_e 1 #[.int .u8 a,.int .u32 c] 28 ?_;intro j hg w6 hbox hb;have n_:=qn4 (Qfy qq_b hb) (hbox) (qq_s hg:w.heap.size≤j) (qq_s hg:w.heap.size≤j);clear HB;obtain⟨HB,b,p,q⟩:=n_;clear hb hbox hg;obtain⟨y,z⟩:=qc2 b.out;have M:=Qej b.out) |((with_reducible refine Qjh (f:=118) rfl ?_);refine Qhf (some 4) rfl rfl Tryz.func118 qq_6 rfl #[.agg #[.int .u8 a,.int .u32 c]] rfl qq_1 ?_;(with_reducible refine(Qap.calls a c d _ A2.out).mono ?_);rintro e w8 ⟨rfl,hb⟩;refine⟨_,rfl,?_⟩;have n_:=qn2 (Qex (g:=j) (o:=.cells #[.int .u8 a,.int .u32 c] 28 (0,0)) qq_0 hb) (Qfy qq_b hb);clear b HB;obtain⟨b,HB⟩:=n_;(try clear hb);(try clear hb2);(try clear hk);(try clear hi);obtain⟨A,B⟩:=qc2 b.out;have O:=Qej b.out))
   go_ret
   exact⟨by first|rfl |(simp[Qjm,Qjn]<;>rfl) |(simp only[← k];first|rfl |(simp[Qjm,Qjn]<;>rfl)) |(simp[*,Qjm,Qjn]<;>rfl),qq_b⟩
  ·rw[if_neg c4]at H;exact absurd H (by simp)
 ·rw[if_neg c3]at H;have t:(d == 0)=false:=beq_eq_false_iff_ne.mpr c3;have u:(d != 0)=true:=bne_iff_ne.mpr c3;obtain rfl:=Option.some.inj H
  go_enter Tryz.func66,Tryz.ntmps66
  go_wp2_with (first |((with_reducible refine Qgj (N:=1) rfl ?_);refine qq_e 1 #[.int .u8 a,.int .u32 c] 28 ?_;intro j hg P hbox hb;have n_:=qn4 (Qfy qq_b hb) (hbox) (qq_s hg:w.heap.size≤j) (qq_s hg:w.heap.size≤j);clear HB;obtain⟨HB,b,p,q⟩:=n_;clear hb hbox hg;obtain⟨v,x⟩:=qc2 b.out;have J:=Qej b.out) |((with_reducible refine Qjh (f:=118) rfl ?_);refine Qhf (some 4) rfl rfl Tryz.func118 qq_6 rfl #[.agg #[.int .u8 a,.int .u32 c]] rfl qq_1 ?_;(with_reducible refine(Qap.calls a c d _ A2.out).mono ?_);rintro e T ⟨rfl,hb⟩;refine⟨_,rfl,?_⟩;have n_:=qn2 (Qex (g:=j) (o:=.cells #[.int .u8 a,.int .u32 c] 28 (0,0)) qq_0 hb) (Qfy qq_b hb);clear b HB;obtain⟨b,HB⟩:=n_;(try clear hb);(try clear hb2);(try clear hk);(try clear hi)))
  go_ret
  exact⟨qq_5,qq_b⟩
def Qcf.f(a0:Int):Option (Int):=some (wrap64 (Int.tdiv (wrap64 ((wrap64 ((mx 0 a0)+16))-1)) 16))
theorem Qcf.calls(a0:Int)(r:Int)(w:World)(h:Qcf.f a0=some r) :
  Calls Tryz.prog 182 #[.int .i64 a0] w fun e w'=>e=.returned (.int .i64 r)∧Below w.heap.size w w':=by
 have HB:=QA (Below.refl w.heap.size w);have H:(some (wrap64 (Int.tdiv (wrap64 ((wrap64 ((mx 0 a0)+16))-1)) 16)))=some r:=h;clear h;obtain⟨ji2,hji2⟩:∃j_:Int,(mx 0 a0)=j_:=⟨_,rfl⟩;replace H:(some (wrap64 (Int.tdiv (wrap64 ((wrap64 ((ji2)+16))-1)) 16)))=some r:=by first |(rw[hji2]at H;exact H) |(simp only[hji2]at H ⊢;exact H)
 (try(have hji2l:0≤ji2:=by(rw[← hji2];unfold mx;(repeat' split)<;>omega)))
 (try(have hji2m:0≤ji2:=by omega))
 have hji2_:(if 0<a0 then a0 else 0)=ji2:=hji2;obtain rfl:=Option.some.inj H
 go_enter Tryz.func182,Tryz.ntmps182
 go_wp2;go_ret
 exact⟨by first|rfl |(simp[Qjm,Qjn]<;>rfl) |(simp only[← hji2];first|rfl |(simp[Qjm,Qjn]<;>rfl)) |(simp[*,Qjm,Qjn]<;>rfl),qq_b⟩
def Qcm.f(a0:Int):Option (Int):=(Qam.f (wrap64 ((mx 0 a0)+8))).bind fun t186=>(some (wrap64 (t186+1)))
theorem Qcm.calls(a0:Int)(r:Int)(w:World)(h:Qcm.f a0=some r) :
  Calls Tryz.prog 228 #[.int .i64 a0] w fun e w'=>e=.returned (.int .i64 r)∧Below w.heap.size w w':=by
 have HB:=QA (Below.refl w.heap.size w);have H:((Qam.f (wrap64 ((mx 0 a0)+8))).bind fun t186=>(some (wrap64 (t186+1))))=some r:=h;clear h;obtain⟨ji2,hji2⟩:∃j_:Int,(mx 0 a0)=j_:=⟨_,rfl⟩;replace H:((Qam.f (wrap64 ((ji2)+8))).bind fun t186=>(some (wrap64 (t186+1))))=some r:=by first |(rw[hji2]at H;exact H) |(simp only[hji2]at H ⊢;exact H)
 (try(have hji2l:0≤ji2:=by(rw[← hji2];unfold mx;(repeat' split)<;>omega)))
 (try(have hji2m:0≤ji2:=by omega))
 have hji2_:(if 0<a0 then a0 else 0)=ji2:=hji2;replace H:=Option.bind_eq_some_iff.mp H;obtain⟨t186,A30,H⟩:=H;have A3:=QA A30;clear A30;obtain rfl:=Option.some.inj H
 go_enter Tryz.func228,Tryz.ntmps228
 go_wp2_with (first |((with_reducible refine Qjh (f:=196) rfl ?_);refine Qhf (some 6) rfl rfl Tryz.func196 qq_6 rfl #[.int .i64 (wrap64 ((ji2)+8))] rfl qq_33 ?_;(with_reducible refine(Qam.calls (wrap64 ((ji2)+8)) t186 _ A3.out).mono ?_);rintro e w' ⟨rfl,⟨nd,rfl⟩⟩;refine⟨_,rfl,?_⟩))
 go_ret
 exact⟨by first|rfl |(simp[Qjm,Qjn]<;>rfl) |(simp only[← hji2];first|rfl |(simp[Qjm,Qjn]<;>rfl)) |(simp[*,Qjm,Qjn]<;>rfl),qq_b⟩
def Qcg.f(a0:Int):Option (Int):=(Qcf.f (mx 0 a0)).bind fun t187=>((Qcm.f (wrap64 ((wrap64 (9+(wrap64 (12*(mx 0 a0)))))+(wrap64 (8*t187))))).bind fun t188=>(some t188))
theorem Qcg.calls(a0:Int)(r:Int)(w:World)(h:Qcg.f a0=some r) :
  Calls Tryz.prog 197 #[.int .i64 a0] w fun e w'=>e=.returned (.int .i64 r)∧Below w.heap.size w w':=by
 have HB:=QA (Below.refl w.heap.size w);have H:((Qcf.f (mx 0 a0)).bind fun a=>((Qcm.f (wrap64 ((wrap64 (9+(wrap64 (12*(mx 0 a0)))))+(wrap64 (8*a))))).bind fun c=>(some c)))=some r:=h;clear h;obtain⟨b,hji2⟩:∃j_:Int,(mx 0 a0)=j_:=⟨_,rfl⟩;replace H:((Qcf.f (b)).bind fun a=>((Qcm.f (wrap64 ((wrap64 (9+(wrap64 (12*(b)))))+(wrap64 (8*a))))).bind fun c=>(some c)))=some r:=by first |(rw[hji2]at H;exact H) |(simp only[hji2]at H ⊢;exact H)
 (try(have j:0≤b:=by(rw[← hji2];unfold mx;(repeat' split)<;>omega)))
 (try(have k:0≤b:=by omega))
 have l:(if 0<a0 then a0 else 0)=b:=hji2;replace H:=Option.bind_eq_some_iff.mp H;obtain⟨a,d,H⟩:=H;have A3:=QA d;clear d;replace H:=Option.bind_eq_some_iff.mp H;obtain⟨c,g,H⟩:=H;have A4:=QA g;clear g;obtain rfl:=Option.some.inj H
 go_enter Tryz.func197,Tryz.ntmps197
 go_wp2_with (first |((with_reducible refine Qjh (f:=182) rfl ?_);refine Qhf (some 9) rfl rfl Tryz.func182 qq_6 rfl #[.int .i64 b] rfl qq_33 ?_;(with_reducible refine(Qcf.calls b a _ A3.out).mono ?_);rintro e w5 ⟨rfl,hb⟩;refine⟨_,rfl,?_⟩;have n_:=qn1 (Qfy qq_b hb);clear HB;have HB:=n_;clear n_;(try clear hb);(try clear hb2);(try clear hk);(try clear hi)) |((with_reducible refine Qjh (f:=228) rfl ?_);refine Qhf (some 12) rfl rfl Tryz.func228 qq_6 rfl #[.int .i64 (wrap64 ((wrap64 (9+(wrap64 (12*(b)))))+(wrap64 (8*a))))] rfl qq_33 ?_;(with_reducible refine(Qcm.calls (wrap64 ((wrap64 (9+(wrap64 (12*(b)))))+(wrap64 (8*a)))) c _ A4.out).mono ?_);rintro e w6 ⟨rfl,hb⟩;refine⟨_,rfl,?_⟩;have n_:=qn1 (Qfy qq_b hb);clear HB;have HB:=n_;clear n_;(try clear hb);(try clear hb2);(try clear hk);(try clear hi)))
 go_ret
 exact⟨by first|rfl |(simp[Qjm,Qjn]<;>rfl) |(simp only[← hji2];first|rfl |(simp[Qjm,Qjn]<;>rfl)) |(simp[*,Qjm,Qjn]<;>rfl),qq_b⟩
def Qcv.f(a0_0:Int)(a0_1:Int)(a0_2:Int)(a0_3:Int)(a0_4:Int):Option (Int):=(Qaq.f a0_0 a0_1).bind fun t190=>((Qcg.f (wrap64 (a0_4+1))).bind fun t191=>(some (mx 0 (wrap64 ((wrap64 (t190-a0_3))-t191)))))
def Qcv.T1:Bool × List (List Nat × List Nat):=(true,[([],[]),([0],[0]),([1],[1]),([],[]),([3],[3]),([2,4],[2,4]),([],[]),([6],[6]),([7],[7]),([8,2],[8]),([5,9],[5,9]),([10],[10]),([11,9,0,1,2,3,4,5,6,7,8,9,10,11],[11])])
def Qcv.B1:List Nat:=[0,1,3,0,8,31,0,64,192,455,1023,2047,4095]
theorem Qcv.tab1:rtab .any (Qin Tryz.f153 1)=Qcv.T1:=by kernel_rfl
theorem Qcv.bits1:Qih Qcv.T1.2 Qcv.B1=true:=by kernel_rfl
theorem Qcv.calls(d:Int)(j:Int)(p:Int)(c:Int)(k:Int)(r:Int)(w:World)(h:Qcv.f d j p c k=some r) :
  Calls Tryz.prog 153 #[.agg #[.int .u8 d,.int .u32 j,.int .u32 p,.int .i64 c,.int .i64 k]] w fun e w'=>e=.returned (.int .i64 r)∧Below w.heap.size w w':=by
 have hu116:=Tryz.underlying116;have hu28:=Tryz.underlying28;have HB:=QA (Below.refl w.heap.size w);have H:((Qaq.f d j).bind fun q=>((Qcg.f (wrap64 (k+1))).bind fun s=>(some (mx 0 (wrap64 ((wrap64 (q-c))-s))))))=some r:=h;clear h;replace H:=Option.bind_eq_some_iff.mp H;obtain⟨q,u,H⟩:=H;have A2:=QA u;clear u;replace H:=Option.bind_eq_some_iff.mp H;obtain⟨s,v,H⟩:=H;have A3:=QA v;clear v;obtain⟨t,m⟩:∃j_:Int,(mx 0 (wrap64 ((wrap64 (q-c))-s)))=j_:=⟨_,rfl⟩;replace H:(some t)=some r:=by first |(rw[m]at H;exact H) |(simp only[m]at H ⊢;exact H)
 (try rw[m]at A2)
 (try rw[m]at A3)
 (try(have x:0≤t:=by(rw[← m];unfold mx;(repeat' split)<;>omega)))
 (try(have y:0≤t:=by omega))
 have z:(if 0<(wrap64 ((wrap64 (q-c))-s))then(wrap64 ((wrap64 (q-c))-s))else 0)=t:=m;obtain rfl:=Option.some.inj H
 go_enter Tryz.func153,Tryz.ntmps153
 try go_wp2_with (first |((with_reducible refine Qgj (N:=1) rfl ?_);refine qq_e 1 #[.int .u8 d,.int .u32 j,.int .u32 p,.int .i64 c,.int .i64 k] 116 ?_;intro b hg w5 hbox hb;have n_:=qn4 (Qfy qq_b hb) (hbox) (qq_s hg:w.heap.size≤b) (qq_s hg:w.heap.size≤b);clear HB;obtain⟨HB,a,A,B⟩:=n_;clear hb hbox hg))
 have n_:=qn2 (Qev a.out) (Qgf HB.out);clear a HB;obtain⟨a,HB⟩:=n_;refine Qgv (n:=13) (S:=fun w'=>w'.cell? ⟨b,0,none⟩=some (.int .u8 d)∧w'.cell? ⟨b,1,none⟩=some (.int .u32 j)∧w'.cell? ⟨b,2,none⟩=some (.int .u32 p)∧w'.cell? ⟨b,3,none⟩=some (.int .i64 c)∧w'.cell? ⟨b,4,none⟩=some (.int .i64 k)) (ds:=[]) (bm 13 0) qq_6 rfl rfl ⟨(Qei a.out 0).trans rfl,(Qei a.out 1).trans rfl,(Qei a.out 2).trans rfl,(Qei a.out 3).trans rfl,(Qei a.out 4).trans rfl⟩ (fun l=>?_);refine Qil Qcv.tab1 Qcv.bits1 (fun HT_ HW_=>?_);generalize w5.drew=w6 at a HB l ⊢;refine pz_ (i:=0) (N:=some 3) (bm 13 1) (Qid HT_.out qq_6) ?_;refine pz_ (i:=3) (N:=some 6) (bm 13 9) (Qid HT_.out qq_6) ?_;refine pz_ (i:=6) (N:=some 9) (bm 13 73) (Qid HT_.out qq_6) ?_;refine tz_ (i:=1) (N:=some 4) (bm 13 75) (Qik HT_.out HW_.out qq_6) l ?_;refine tz_ (i:=4) (N:=some 7) (bm 13 91) (Qik HT_.out HW_.out qq_6) l ?_;refine tz_ (i:=7) (N:=some 10) (bm 13 219) (Qik HT_.out HW_.out qq_6) l ?_;refine pz_ (i:=8) (N:=some 11) (bm 13 475) (Qid HT_.out qq_6) ?_;refine one_ (i:=2) (N:=some 5) (bm 13 479) rfl rfl (Qie HT_.out qq_6) (by decide) (fun K hK=>?_);refine Qhe Tryz.func66 qq_6 rfl #[.agg #[.int .u8 d,.int .u32 j]] (by rfl) rfl rfl qq_1 ?_;with_reducible refine(Qaq.calls d j q _ A2.out).mono ?_
 rintro e w7 ⟨rfl,hb⟩;refine⟨_,rfl,?_⟩;have n_:=qn2 (Qex (g:=b) (o:=.cells #[.int .u8 d,.int .u32 j,.int .u32 p,.int .i64 c,.int .i64 k] 116 (0,0)) qq_0 hb) (Qfy qq_b hb);clear a HB;obtain⟨a,HB⟩:=n_
 (try clear hb)
 (try clear hb2)
 (try clear hk)
 (try clear hi)
 refine hK.out _ _ ⟨(Qei a.out 0).trans rfl,(Qei a.out 1).trans rfl,(Qei a.out 2).trans rfl,(Qei a.out 3).trans rfl,(Qei a.out 4).trans rfl⟩ (fun l=>?_);clear hK K;refine nzp_ 5 ?_;refine pz_ (i:=5) (N:=some 8) (bm 13 511) (Qid HT_.out qq_6) ?_;refine one_ (i:=9) (N:=some 12) (bm 13 1023) rfl rfl (Qie HT_.out qq_6) (by decide) (fun K hK=>?_);refine Qhe Tryz.func197 qq_6 rfl #[.int .i64 (wrap64 (k+1))] (by rfl) rfl rfl qq_1 ?_;with_reducible refine(Qcg.calls (wrap64 (k+1)) s _ A3.out).mono ?_
 rintro e w8 ⟨rfl,hb⟩;refine⟨_,rfl,?_⟩;have n_:=qn2 (Qex (g:=b) (o:=.cells #[.int .u8 d,.int .u32 j,.int .u32 p,.int .i64 c,.int .i64 k] 116 (0,0)) qq_0 hb) (Qfy qq_b hb);clear a HB;obtain⟨a,HB⟩:=n_
 (try clear hb)
 (try clear hb2)
 (try clear hk)
 (try clear hi)
 refine hK.out _ _ ⟨(Qei a.out 0).trans rfl,(Qei a.out 1).trans rfl,(Qei a.out 2).trans rfl,(Qei a.out 3).trans rfl,(Qei a.out 4).trans rfl⟩ (fun l=>?_);clear hK K;refine nzp_ 12 ?_;refine pz_ (i:=10) (N:=some 13) (bm 13 2047) (Qid HT_.out qq_6) ?_;refine pz_ (i:=11) (N:=some 14) (bm 13 4095) (Qid HT_.out qq_6) ?_;refine pz_ (i:=12) (N:=some 2) (bm 13 8191) (Qid HT_.out qq_6) ?_;refine Qgz (Qig HT_.out qq_6) ?_
 try go_wp2
 go_ret
 exact⟨by first|rfl |(simp[Qjm,Qjn]<;>rfl) |(simp only[← m];first|rfl |(simp[Qjm,Qjn]<;>rfl)) |(simp[*,Qjm,Qjn]<;>rfl),qq_b⟩
def Qcu.f(a0_0:Int)(a0_1:Int)(a0_2:Int)(a0_3:Int)(a0_4:Int)(a1:Int):Option (Bool):=if a1≥1 then((Qcv.f a0_0 a0_1 a0_2 a0_3 a0_4).bind fun t193=>(some (decide (a1≤t193))))else(some false)
theorem Qcu.calls(b:Int)(c:Int)(d:Int)(j:Int)(k:Int)(a1:Int)(r:Bool)(w:World)(h:Qcu.f b c d j k a1=some r) :
  Calls Tryz.prog 106 #[.agg #[.int .u8 b,.int .u32 c,.int .u32 d,.int .i64 j,.int .i64 k],.int .i64 a1] w fun e w'=>e=.returned (.bool r)∧Below w.heap.size w w':=by
 have hu116:=Tryz.underlying116;have HB:=QA (Below.refl w.heap.size w);have H:(if a1≥1 then((Qcv.f b c d j k).bind fun m=>(some (decide (a1≤m))))else(some false))=some r:=h;clear h
 by_cases c3:a1≥1
 ·rw[if_pos c3]at H;have s:decide (1≤a1)=true:=decide_eq_true c3;clear c3;replace H:=Option.bind_eq_some_iff.mp H;obtain⟨m,q,H⟩:=H;have A4:=QA q;clear q;obtain rfl:=Option.some.inj H
  go_enter Tryz.func106,Tryz.ntmps106
  go_wp2_with (first |((with_reducible refine Qgj (N:=2) rfl ?_);refine qq_e 2 #[.int .u8 b,.int .u32 c,.int .u32 d,.int .i64 j,.int .i64 k] 116 ?_;intro a hg w5 hbox hb;have n_:=qn4 (Qfy qq_b hb) (hbox) (qq_s hg:w.heap.size≤a) (qq_s hg:w.heap.size≤a);clear HB;obtain⟨HB,l,n,p⟩:=n_;clear hb hbox hg;obtain⟨t,u,v,x,y⟩:=qc5 l.out;have z:=Qej l.out) |(go_at_call 153;(with_reducible refine(Qcv.calls b c d j k m _ A4.out).mono ?_);rintro e w7 ⟨rfl,hb⟩;have n_:=qn2 (Qex (g:=a) (o:=.cells #[.int .u8 b,.int .u32 c,.int .u32 d,.int .i64 j,.int .i64 k] 116 (0,0)) qq_0 hb) (Qfy qq_b hb);clear l HB;obtain⟨l,HB⟩:=n_;(try clear hb);(try clear hb2);(try clear hk);(try clear hi)))
  go_ret
  exact⟨qq_5,qq_b⟩
 ·rw[if_neg c3]at H;have s:decide (1≤a1)=false:=decide_eq_false c3;clear c3;obtain rfl:=Option.some.inj H
  go_enter Tryz.func106,Tryz.ntmps106
  go_wp2_with (first |((with_reducible refine Qgj (N:=2) rfl ?_);refine qq_e 2 #[.int .u8 b,.int .u32 c,.int .u32 d,.int .i64 j,.int .i64 k] 116 ?_;intro a hg w8 hbox hb;have n_:=qn4 (Qfy qq_b hb) (hbox) (qq_s hg:w.heap.size≤a) (qq_s hg:w.heap.size≤a);clear HB;obtain⟨HB,l,n,p⟩:=n_;clear hb hbox hg))
  go_ret
  exact⟨qq_5,qq_b⟩
def Qcw.f(a0_0:Int)(a0_1:Int)(a0_2:Int)(a0_3:Int)(a0_4:Int)(a1:Int):Option (Int × Int × Int × Int × Int × Int):=(Qcu.f a0_0 a0_1 a0_2 a0_3 a0_4 a1).bind fun t205=>(if t205=true then(some (a0_0,a0_1,a0_2,wrap64 (a0_3+a1),wrap64 (a0_4+1),0))else(some (0,0,0,0,0,7)))
theorem Qcw.calls(a:Int)(b:Int)(d:Int)(j:Int)(k:Int)(a1:Int)(r1:Int)(r2:Int)(r3:Int)(r4:Int)(r5:Int)(r6:Int)(w:World)(h:Qcw.f a b d j k a1=some (r1,r2,r3,r4,r5,r6)) :
  Calls Tryz.prog 61 #[.agg #[.int .u8 a,.int .u32 b,.int .u32 d,.int .i64 j,.int .i64 k],.int .i64 a1] w fun e w'=>e=.returned (.tuple #[.agg #[.int .u8 r1,.int .u32 r2,.int .u32 r3,.int .i64 r4,.int .i64 r5],.int .i64 r6])∧Below w.heap.size w w':=by
 have hu116:=Tryz.underlying116;have HB:=QA (Below.refl w.heap.size w);have H:((Qcu.f a b d j k a1).bind fun r=>(if r=true then(some (a,b,d,wrap64 (j+a1),wrap64 (k+1),0))else(some (0,0,0,0,0,7))))=some (r1,r2,r3,r4,r5,r6):=h;clear h;replace H:=Option.bind_eq_some_iff.mp H;obtain⟨r,x,H⟩:=H;have A3:=QA x;clear x
 by_cases c4:r=true
 ·subst c4;rw[if_pos rfl]at H;simp only[Option.some.injEq,Prod.mk.injEq]at H;obtain⟨rfl,rfl,rfl,rfl,rfl,rfl⟩:=H
  go_enter Tryz.func61,Tryz.ntmps61
  go_wp2_with (first |((with_reducible refine Qgj (N:=2) rfl ?_);refine qq_e 2 #[.int .u8 a,.int .u32 b,.int .u32 d,.int .i64 j,.int .i64 k] 116 ?_;intro c hg w5 hbox hb;have n_:=qn4 (Qfy qq_b hb) (hbox) (qq_s hg:w.heap.size≤c) (qq_s hg:w.heap.size≤c);clear HB;obtain⟨HB,l,s,t⟩:=n_;clear hb hbox hg) |((with_reducible refine Qgj (N:=4) rfl ?_);refine qq_e 4 #[.int .u8 0,.int .u32 0,.int .u32 0,.int .i64 0,.int .i64 0] 116 ?_;intro m hg w6 hbox hb;have n_:=qn7 (Qex (g:=c) (o:=.cells #[.int .u8 a,.int .u32 b,.int .u32 d,.int .i64 j,.int .i64 k] 116 (0,0)) qq_0 hb) (Qfy qq_b hb) (hbox) (qq_s hg:w.heap.size≤m) (qq_s hg:w.heap.size≤m) ((by rw[hg];exact Nat.ne_of_lt (Qeh (g:=c) (o:=.cells #[.int .u8 a,.int .u32 b,.int .u32 d,.int .i64 j,.int .i64 k] 116 (0,0)) qq_0):c≠m)) ((by rw[hg];exact Nat.ne_of_gt (Qeh (g:=c) (o:=.cells #[.int .u8 a,.int .u32 b,.int .u32 d,.int .i64 j,.int .i64 k] 116 (0,0)) qq_0):m≠c));clear l HB;obtain⟨l,HB,n,u,v,q,p⟩:=n_;clear hb hbox hg;have al:=q.out;have am:=p.out;obtain⟨aa,ab,ac,ad,ae⟩:=qc5 l.out;have an:=Qej l.out) |((with_reducible refine Qjh (f:=106) rfl ?_);refine Qhf (some 8) rfl rfl Tryz.func106 qq_6 rfl #[.agg #[.int .u8 a,.int .u32 b,.int .u32 d,.int .i64 j,.int .i64 k],.int .i64 a1] rfl qq_1 ?_;(with_reducible refine(Qcu.calls a b d j k a1 true _ A3.out).mono ?_);rintro e w9 ⟨rfl,hb⟩;refine⟨_,rfl,?_⟩;have n_:=qn3 (Qex (g:=c) (o:=.cells #[.int .u8 a,.int .u32 b,.int .u32 d,.int .i64 j,.int .i64 k] 116 (0,0)) qq_0 hb) (Qex (g:=m) (o:=.cells #[.int .u8 0,.int .u32 0,.int .u32 0,.int .i64 0,.int .i64 0] 116 (0,0)) qq_0 hb) (Qfy qq_b hb);clear l n HB;obtain⟨l,n,HB⟩:=n_;(try clear hb);(try clear hb2);(try clear hk);(try clear hi);obtain⟨y,z,A,B,D⟩:=qc5 l.out;have af:=Qej l.out;obtain⟨E,G,I,J,K⟩:=qc5 n.out;have ag:=Qej n.out))
  refine bodyPost_ret (Qez rfl _ _ m 116 #[.int .u8 a,.int .u32 b,.int .u32 d,.int .i64 (wrap64 (j+a1)),.int .i64 (wrap64 (k+1))] (0,0) _ rfl (by(with_reducible repeat(first|apply Qew|apply Qev|apply Qeu));refine Qge (cs:=#[.int .u8 a,.int .u32 b,.int .u32 d,.int .i64 (wrap64 (j+a1)),.int .i64 0]) ?_ 4 _ rfl;(with_reducible repeat(first|apply Qew|apply Qev|apply Qeu));refine Qge (cs:=#[.int .u8 a,.int .u32 b,.int .u32 d,.int .i64 0,.int .i64 0]) ?_ 3 _ rfl;(with_reducible repeat(first|apply Qew|apply Qev|apply Qeu));refine Qge (cs:=#[.int .u8 a,.int .u32 b,.int .u32 0,.int .i64 0,.int .i64 0]) ?_ 2 _ rfl;(with_reducible repeat(first|apply Qew|apply Qev|apply Qeu));refine Qge (cs:=#[.int .u8 a,.int .u32 0,.int .u32 0,.int .i64 0,.int .i64 0]) ?_ 1 _ rfl;(with_reducible repeat(first|apply Qew|apply Qev|apply Qeu));refine Qge (cs:=#[.int .u8 0,.int .u32 0,.int .u32 0,.int .i64 0,.int .i64 0]) ?_ 0 _ rfl;(with_reducible repeat(first|apply Qew|apply Qev|apply Qeu));refine Qeg ?_ p.out _;(with_reducible repeat(first|apply Qew|apply Qev|apply Qeu));refine Qeg ?_ p.out _;(with_reducible repeat(first|apply Qew|apply Qev|apply Qeu));exact n.out) Tryz.underlying116 rfl qq_6) rfl ?_;exact⟨qq_5,qq_b⟩
 ·replace c4:=Bool.eq_false_iff.mpr c4;subst c4;rw[if_neg (show ¬(false=true)by decide)]at H;simp only[Option.some.injEq,Prod.mk.injEq]at H;obtain⟨rfl,rfl,rfl,rfl,rfl,rfl⟩:=H
  go_enter Tryz.func61,Tryz.ntmps61
  go_wp2_with (first |((with_reducible refine Qgj (N:=2) rfl ?_);refine qq_e 2 #[.int .u8 a,.int .u32 b,.int .u32 d,.int .i64 j,.int .i64 k] 116 ?_;intro c hg ao hbox hb;have n_:=qn4 (Qfy qq_b hb) (hbox) (qq_s hg:w.heap.size≤c) (qq_s hg:w.heap.size≤c);clear HB;obtain⟨HB,l,s,t⟩:=n_;clear hb hbox hg) |((with_reducible refine Qgj (N:=4) rfl ?_);refine qq_e 4 #[.int .u8 0,.int .u32 0,.int .u32 0,.int .i64 0,.int .i64 0] 116 ?_;intro m hg ap hbox hb;have n_:=qn7 (Qex (g:=c) (o:=.cells #[.int .u8 a,.int .u32 b,.int .u32 d,.int .i64 j,.int .i64 k] 116 (0,0)) qq_0 hb) (Qfy qq_b hb) (hbox) (qq_s hg:w.heap.size≤m) (qq_s hg:w.heap.size≤m) ((by rw[hg];exact Nat.ne_of_lt (Qeh (g:=c) (o:=.cells #[.int .u8 a,.int .u32 b,.int .u32 d,.int .i64 j,.int .i64 k] 116 (0,0)) qq_0):c≠m)) ((by rw[hg];exact Nat.ne_of_gt (Qeh (g:=c) (o:=.cells #[.int .u8 a,.int .u32 b,.int .u32 d,.int .i64 j,.int .i64 k] 116 (0,0)) qq_0):m≠c));clear l HB;obtain⟨l,HB,n,u,v,q,p⟩:=n_;clear hb hbox hg;have ah:=q.out;have ai:=p.out;obtain⟨L,M,O,P,T⟩:=qc5 l.out;have aj:=Qej l.out) |((with_reducible refine Qjh (f:=106) rfl ?_);refine Qhf (some 8) rfl rfl Tryz.func106 qq_6 rfl #[.agg #[.int .u8 a,.int .u32 b,.int .u32 d,.int .i64 j,.int .i64 k],.int .i64 a1] rfl qq_1 ?_;(with_reducible refine(Qcu.calls a b d j k a1 false _ A3.out).mono ?_);rintro e aq ⟨rfl,hb⟩;refine⟨_,rfl,?_⟩;have n_:=qn3 (Qex (g:=c) (o:=.cells #[.int .u8 a,.int .u32 b,.int .u32 d,.int .i64 j,.int .i64 k] 116 (0,0)) qq_0 hb) (Qex (g:=m) (o:=.cells #[.int .u8 0,.int .u32 0,.int .u32 0,.int .i64 0,.int .i64 0] 116 (0,0)) qq_0 hb) (Qfy qq_b hb);clear l n HB;obtain⟨l,n,HB⟩:=n_;(try clear hb);(try clear hb2);(try clear hk);(try clear hi);obtain⟨U,W,X,Y,Z⟩:=qc5 n.out;have ak:=Qej n.out))
  refine bodyPost_ret (Qez rfl _ _ m 116 #[.int .u8 0,.int .u32 0,.int .u32 0,.int .i64 0,.int .i64 0] (0,0) _ rfl qq_x Tryz.underlying116 rfl qq_6) rfl ?_;exact⟨qq_5,qq_b⟩
end Go.Proofs.YteaocbonofboeaaGreat.C
end
