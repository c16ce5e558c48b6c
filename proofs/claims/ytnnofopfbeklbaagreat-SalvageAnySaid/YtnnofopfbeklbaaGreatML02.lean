/- Merged texts. -/
import Derived.Test.YtnnofopfbeklbaaGreatML01
set_option linter.unusedVariables false
set_option linter.unusedSimpArgs false
set_option maxHeartbeats 8000000
set_option maxRecDepth 100000
section
namespace Go.Proofs.YtnnofopfbeklbaaGreat.C
open Go.RowKit Go.Proofs.YtnnofopfbeklbaaGreatW.PrintWords Go.Proofs.YtnnofopfbeklbaaGreatW.PrintLast Go.Proofs.YtnnofopfbeklbaaGreatW.PrintMore
attribute [local go_sem] Qib Qic Qid Qie Qif Qig Qih Qii
mutual
def Qbk.l0:Nat→ByteArray→ByteArray→ByteArray→Int→Option (ByteArray)
 | 0,_,_,_,_=>none
 | k+1,x3,x4,x5,x6=>if x6<(x3.size:Int)then(if 0≤x6 then(if(bt x3 x6)=0 then(if x6=(wrap64 ((x3.size:Int)-1))then(if x5.toList=([]:List UInt8)then(if x6 > 0 then(if 0≤(wrap64 (x6-1))then(if(wrap64 (x6-1))<(x3.size:Int)then(Qbk.j1 k x3 x4 x5 x6 ((bt x3 (wrap64 (x6-1))) != 0))else(none))else(none))else(Qbk.j1 k x3 x4 x5 x6 false))else(Qbk.j1 k x3 x4 x5 x6 false))else(Qbk.j1 k x3 x4 x5 x6 false))else(if x6≤(wrap64 (x6+1))then(if(wrap64 (x6+1))≤(x3.size:Int)then(if x5.size+(x3.extract (x6:Int).toNat ((wrap64 (x6+1)):Int).toNat).size≤9223372036854775807 then(if((x5++(x3.extract (x6:Int).toNat ((wrap64 (x6+1)):Int).toNat)).size:Int)=254 then(if x4.size+1≤9223372036854775807 then(if(x4++(⟨#[255]⟩:ByteArray)).size+(x5++(x3.extract (x6:Int).toNat ((wrap64 (x6+1)):Int).toNat)).size≤9223372036854775807 then(Qbk.l0 k x3 ((x4++(⟨#[255]⟩:ByteArray))++(x5++(x3.extract (x6:Int).toNat ((wrap64 (x6+1)):Int).toNat))) (⟨#[]⟩:ByteArray) (wrap64 (x6+1)))else(none))else(none))else(Qbk.l0 k x3 x4 (x5++(x3.extract (x6:Int).toNat ((wrap64 (x6+1)):Int).toNat)) (wrap64 (x6+1))))else(none))else(none))else(none)))else(none))else(some x4)
def Qbk.j1:Nat→ByteArray→ByteArray→ByteArray→Int→Bool→Option (ByteArray)
 | 0,_,_,_,_,_=>none
 | k+1,x3,x4,x5,x6,x38=>if x38=true then(some x4)else((some (([(wrap64 ((x5.size:Int)+1))%256]:List Int):List Int)).bind fun y283=>(if x4.size+(strOfNums y283).size≤9223372036854775807 then(if(x4++(strOfNums y283)).size+x5.size≤9223372036854775807 then(Qbk.l0 k x3 ((x4++(strOfNums y283))++x5) (⟨#[]⟩:ByteArray) (wrap64 (x6+1)))else(none))else(none)))
end
def Qbk.f(k:Nat)(a0:ByteArray):Option (ByteArray):=if a0.size+1≤9223372036854775807 then(Qbk.l0 k (a0++(⟨#[0]⟩:ByteArray)) (⟨#[]⟩:ByteArray) (⟨#[]⟩:ByteArray) 0)else(none)
theorem Qbk.calls (k:Nat) (a0:ByteArray) (r:ByteArray) (w:World) (h:Qbk.f k a0=some r) :
  Calls Tryz.prog 102 #[.string a0] w fun e w'=>e=.returned (.string r)∧Below w.heap.size w w':=by
 have HB:=QA (Below.refl w.heap.size w);have H:(if a0.size+1≤9223372036854775807 then(Qbk.l0 k (a0++(⟨#[0]⟩:ByteArray)) (⟨#[]⟩:ByteArray) (⟨#[]⟩:ByteArray) 0)else(none))=some r:=h;clear h
 by_cases c2:a0.size+1≤9223372036854775807
 ·rw [if_pos c2]at H;have L:=eq_true c2;have O:=decide_eq_true c2
  try have T:(9223372036854775807<a0.size+1)=False:=eq_false (Nat.not_lt.2 c2)
  have H':=QA H;clear H
  go_enter Tryz.func102,Tryz.ntmps102
  go_wp2;generalize hal:a0++(⟨#[0]⟩:ByteArray)=al at *;clear hal
  go_loopg [4,5,6] k (fun kq v4 v5 v6 w'=>∃(c:ByteArray) (b:ByteArray) (a:Int),v4=.string c∧v5=.string b∧v6=.int .i64 a∧Aside0 (Qbk.l0 kq al c b a=some r)∧Aside0 (kq≤k)∧Aside0 (Below w.heap.size w w'))
  case atStart=>exact⟨((⟨#[]⟩:ByteArray)),((⟨#[]⟩:ByteArray)),(0),qq_4,qq_4,qq_4,H',⟨Nat.le_refl _⟩,⟨qq_b⟩⟩
  case round =>
   clear H'
   try clear c2
   try clear L
   try clear O
   try clear T
   obtain⟨c,b,a,rfl,rfl,rfl,HA,HK1,HB⟩:=hrel
   cases gk with
   | zero=>exact absurd HA.out (by simp[Qbk.l0])
   | succ k1 =>
    have H:=HA.out;clear HA;simp only[Qbk.l0]at H
    by_cases c3:a<(al.size:Int)
    ·rw [if_pos c3]at H;have U:=decide_eq_true c3;clear c3
     by_cases c4:0≤a
     ·rw [if_pos c4]at H;have ao:=decide_eq_true c4;clear c4
      by_cases c6:(bt al a)=0
      ·rw [if_pos c6]at H;have W:((bt al a) == 0)=true:=beq_iff_eq.mpr c6;have X:((bt al a) != 0)=false:=bne_eq_false_iff_eq.mpr c6;clear c6;have Y:=QA H;clear H;have p5:0≤(a:Int):=of_decide_eq_true qq_3;have q5:a<(al.size:Int):=of_decide_eq_true qq_3;have Z:=Qcv al a;replace p5:=eq_true p5;replace q5:=eq_true q5
       go_upto_region 8 with(fail)
       go_cut [38] (fun aq wc=>∃(kq:Nat) (m:Bool),aq=.bool m∧Aside0 (Qbk.j1 kq al c b a m=some r)∧Aside0 (kq≤k1)∧Aside0 (Below w.heap.size w wc))
       case first =>
        have H:=Y.out;clear Y
        by_cases c8:a=(wrap64 ((al.size:Int)-1))
        ·rw [if_pos c8]at H;have l:(a == (wrap64 ((al.size:Int)-1)))=true:=beq_iff_eq.mpr c8;have aa:(a != (wrap64 ((al.size:Int)-1)))=false:=bne_eq_false_iff_eq.mpr c8;clear c8
         (first|rw[l] |(simp only[Qgo,Qgp];rw[l])|skip)
         by_cases c9:b.toList=([]:List UInt8)
         ·rw [if_pos c9]at H;have ab:(b.toList == ([]:List UInt8))=true:=beq_iff_eq.mpr c9;have ac:(b.toList != ([]:List UInt8))=false:=bne_eq_false_iff_eq.mpr c9;clear c9
          by_cases c10:a > 0
          ·rw[if_pos c10]at H;have z:decide (0<a)=true:=decide_eq_true c10;clear c10;obtain⟨d,n⟩:∃j_:Int,(wrap64 (a-1))=j_:=⟨_,rfl⟩;replace H:(if 0≤(d)then(if(d)<(al.size:Int)then(Qbk.j1 k1 al c b a ((bt al (d)) != 0))else(none))else(none))=some r:=by first |(rw[n]at H;exact H) |(simp only[n]at H ⊢;exact H)
           have ar:(IntKind.i64.wrap (a-1))=d:=(Qgo _).trans n
           by_cases q:0≤(d)
           ·rw[if_pos q]at H;have ae:=decide_eq_true q;clear q
            by_cases s:(d)<(al.size:Int)
            ·rw[if_pos s]at H;have af:=decide_eq_true s;clear s;have H':=QA H;clear H;have A:0≤((d):Int):=of_decide_eq_true qq_3;have B:(d)<(al.size:Int):=of_decide_eq_true qq_3;have ap:=Qcv al (d);replace A:=eq_true A;replace B:=eq_true B;go_wp2
             go_meet
             case rel=>exact⟨_,(((bt al (d)) != 0)),(by first|rfl |(simp;done) |(simp only[← n]<;>(first|rfl|simp)) |(simp[*];done)),H',⟨by have:=HK1.out;first|omega|exact Nat.le_refl _⟩,⟨qq_b⟩⟩
            ·rw[if_neg s]at H;exact absurd H (by simp)
           ·rw[if_neg q]at H;exact absurd H (by simp)
          ·rw[if_neg c10]at H;have z:decide (0<a)=false:=decide_eq_false c10;clear c10;have H':=QA H;clear H;go_wp2
           go_meet
           case rel=>exact⟨_,(false),qq_4,H',⟨by have:=HK1.out;first|omega|exact Nat.le_refl _⟩,⟨qq_b⟩⟩
         ·rw[if_neg c9]at H;have ab:(b.toList == ([]:List UInt8))=false:=beq_eq_false_iff_ne.mpr c9;have ac:(b.toList != ([]:List UInt8))=true:=bne_iff_ne.mpr c9;have H':=QA H;clear H;go_wp2
          go_meet
          case rel=>exact⟨_,(false),qq_4,H',⟨by have:=HK1.out;first|omega|exact Nat.le_refl _⟩,⟨qq_b⟩⟩
        ·rw[if_neg c8]at H;have l:(a == (wrap64 ((al.size:Int)-1)))=false:=beq_eq_false_iff_ne.mpr c8;have aa:(a != (wrap64 ((al.size:Int)-1)))=true:=bne_iff_ne.mpr c8
         (first|rw[l] |(simp only[Qgo,Qgp];rw[l])|skip)
         have H':=QA H;clear H;go_wp2
         go_meet
         case rel=>exact⟨_,(false),qq_4,H',⟨by have:=HK1.out;first|omega|exact Nat.le_refl _⟩,⟨qq_b⟩⟩
       case rest =>
        clear Y
        try clear c2
        try clear L
        try clear O
        try clear T
        try clear c3
        try clear U
        try clear c4
        try clear ao
        try clear p5
        try clear q5
        try clear Z
        try clear c6
        try clear W
        try clear X
        try clear c8
        try clear l
        try clear aa
        try clear c9
        try clear ab
        try clear ac
        try clear c10
        try clear z
        try clear q
        try clear ae
        try clear s
        try clear af
        try clear A
        try clear B
        try clear ap
        try clear A
        try clear p5
        try clear B
        try clear q5
        obtain⟨kq,m,rfl,HA,HJ6,HB⟩:=hcut
        cases kq with
        | zero=>exact absurd HA.out (by simp[Qbk.j1])
        | succ kj6 =>
         have H:=HA.out;clear HA;simp only[Qbk.j1]at H
         by_cases D:m=true
         ·subst D;rw[if_pos rfl]at H;obtain rfl:=Option.some.inj H;go_wp2;go_ret
          exact⟨qq_2,qq_b⟩
         ·replace D:=Bool.eq_false_iff.mpr D;subst D;rw[if_neg (show ¬(false=true)by decide)]at H;obtain⟨g,j⟩:∃y_:List Int,y_=(([(wrap64 ((b.size:Int)+1))%256]:List Int)):=⟨_,rfl⟩;replace H:(if c.size+(strOfNums g).size≤9223372036854775807 then(if(c++(strOfNums g)).size+b.size≤9223372036854775807 then(Qbk.l0 kj6 al ((c++(strOfNums g))++b) (⟨#[]⟩:ByteArray) (wrap64 (a+1)))else(none))else(none))=some r:=by first |(rw[j];with_reducible exact H) |(have ad:=(Option.bind_some _ _).symm.trans H;rw[j];with_reducible exact ad) |(have ad:=(Option.bind_some _ _).symm.trans H;with_reducible exact ad)|with_reducible exact H |(rw[j];exact H)|exact H
          have E:=QA j;clear j
          by_cases t:c.size+(strOfNums g).size≤9223372036854775807
          ·rw[if_pos t]at H;have au:=eq_true t;have av:=decide_eq_true t
           try have aw:(9223372036854775807<c.size+(strOfNums g).size)=False:=eq_false (Nat.not_lt.2 t)
           by_cases u:(c++(strOfNums g)).size+b.size≤9223372036854775807
           ·rw[if_pos u]at H;have ax:=eq_true u;have ay:=decide_eq_true u
            try have G:(9223372036854775807<(c++(strOfNums g)).size+b.size)=False:=eq_false (Nat.not_lt.2 u)
            try have ag:=G
            try simp only[ByteArray.size_append,(show ∀x_:UInt8,(⟨#[x_]⟩:ByteArray).size=1 from fun _=>rfl),(show ∀x_ y_:UInt8,(⟨#[x_,y_]⟩:ByteArray).size=2 from fun _ _=>rfl)]at ag
            try have ah:=G
            try simp only[ByteArray.size_append,ByteArray.size_extract,(show ∀x_:UInt8,(⟨#[x_]⟩:ByteArray).size=1 from fun _=>rfl),(show ∀x_ y_:UInt8,(⟨#[x_,y_]⟩:ByteArray).size=2 from fun _ _=>rfl)]at ah
            have H':=QA H;clear H
            go_wp2_with (first |((with_reducible refine Qft (N:=44) rfl ?_);refine Kd.R_lit (Kd.int .u8) _ 5 ?hg (N:=44) ?hd (xs:=([(wrap64 ((b.size:Int)+1))%256]:List Int)) (inner:=[.int .u8 ((wrap64 ((b.size:Int)+1))%256)]) (ok:=fun _=>True) (okp:=fun _=>True) ?hr ?hp (fun _ hk=>hk) trivial (Below.refl _ _) (Nat.le_refl _) (by simp) ?_;(case hd=>rfl);(case hg=>rfl);(case hr=>exact qq_18);(case hp=>exact(Reps.one (show Kd.M (Kd.int .u8) _ _ _ ((wrap64 ((b.size:Int)+1))%256) [.int .u8 ((wrap64 ((b.size:Int)+1))%256)] from rfl) (Reps.none _ _)));intro aN aO o hb hg_ hnew_;clear hg_ hnew_;(first|rw[← E.out]at o |(simp only[Int.reduceToNat]at o;rw[← E.out]at o));have n_:=qn2 (Kd.R_lower o (Qfi qq_b)) (Qfj qq_b hb);clear HB;obtain⟨ai,HB⟩:=n_;clear hb o;have az:=Qdg (P:=Tryz.prog) Tryz.underlying52 Tryz.underlying5 Tryz.underlying9 (Kd.own_of_R ai.out)))
            go_roundg kj6
            case measure=>have:=HK1.out;have:=HJ6.out;omega
            case rel=>exact⟨((c++(strOfNums g))++b),((⟨#[]⟩:ByteArray)),(wrap64 (a+1)),qq_4,qq_4,qq_4,H',⟨by have:=HK1.out;have:=HJ6.out;omega⟩,⟨qq_b⟩⟩
           ·rw[if_neg u]at H;exact absurd H (by simp)
          ·rw[if_neg t]at H;exact absurd H (by simp)
      ·rw [if_neg c6]at H;have W:((bt al a) == 0)=false:=beq_eq_false_iff_ne.mpr c6;have X:((bt al a) != 0)=true:=bne_iff_ne.mpr c6;have aA:=eq_true (of_decide_eq_true qq_3:0≤a)
       by_cases I:a≤(wrap64 (a+1))
       ·rw [if_pos I]at H;have aB:=eq_true I;have aC:=decide_eq_true I
        by_cases J:(wrap64 (a+1))≤(al.size:Int)
        ·rw [if_pos J]at H;have aD:=eq_true J;have aE:=decide_eq_true J
         by_cases v:b.size+(al.extract (a:Int).toNat ((wrap64 (a+1)):Int).toNat).size≤9223372036854775807
         ·rw [if_pos v]at H;have aF:=eq_true v;have aG:=decide_eq_true v
          try have aH:(9223372036854775807<b.size+(al.extract (a:Int).toNat ((wrap64 (a+1)):Int).toNat).size)=False:=eq_false (Nat.not_lt.2 v)
          generalize hnw:(b++(al.extract (a:Int).toNat ((wrap64 (a+1)):Int).toNat))=nw at *
          by_cases p:(nw.size:Int)=254
          ·rw[if_pos p]at H;have aj:((nw.size:Int) == 254)=true:=beq_iff_eq.mpr p;have ak:((nw.size:Int) != 254)=false:=bne_eq_false_iff_eq.mpr p;clear p
           by_cases x:c.size+1≤9223372036854775807
           ·rw[if_pos x]at H;have aI:=eq_true x;have aJ:=decide_eq_true x
            try have aK:(9223372036854775807<c.size+1)=False:=eq_false (Nat.not_lt.2 x)
            by_cases y:(c++(⟨#[255]⟩:ByteArray)).size+nw.size≤9223372036854775807
            ·rw[if_pos y]at H;have aL:=eq_true y;have aM:=decide_eq_true y
             try have K:(9223372036854775807<(c++(⟨#[255]⟩:ByteArray)).size+nw.size)=False:=eq_false (Nat.not_lt.2 y)
             try have am:=K
             try simp only[ByteArray.size_append,(show ∀x_:UInt8,(⟨#[x_]⟩:ByteArray).size=1 from fun _=>rfl),(show ∀x_ y_:UInt8,(⟨#[x_,y_]⟩:ByteArray).size=2 from fun _ _=>rfl)]at am
             try have an:=K
             try simp only[ByteArray.size_append,ByteArray.size_extract,(show ∀x_:UInt8,(⟨#[x_]⟩:ByteArray).size=1 from fun _=>rfl),(show ∀x_ y_:UInt8,(⟨#[x_,y_]⟩:ByteArray).size=2 from fun _ _=>rfl)]at an
             have H':=QA H;clear H;have p5:0≤(a:Int):=of_decide_eq_true qq_3;have q5:a<(al.size:Int):=of_decide_eq_true qq_3;have Z:=Qcv al a;replace p5:=eq_true p5;replace q5:=eq_true q5;go_wp2
             go_roundg k1
             case measure=>have:=HK1.out;omega
             case rel=>exact⟨((c++(⟨#[255]⟩:ByteArray))++nw),((⟨#[]⟩:ByteArray)),(wrap64 (a+1)),qq_4,qq_4,qq_4,H',⟨by have:=HK1.out;omega⟩,⟨qq_b⟩⟩
            ·rw[if_neg y]at H;exact absurd H (by simp)
           ·rw[if_neg x]at H;exact absurd H (by simp)
          ·rw[if_neg p]at H;have aj:((nw.size:Int) == 254)=false:=beq_eq_false_iff_ne.mpr p;have ak:((nw.size:Int) != 254)=true:=bne_iff_ne.mpr p;have H':=QA H;clear H;have p5:0≤(a:Int):=of_decide_eq_true qq_3;have q5:a<(al.size:Int):=of_decide_eq_true qq_3;have Z:=Qcv al a;replace p5:=eq_true p5;replace q5:=eq_true q5;go_wp2
           go_roundg k1
           case measure=>have:=HK1.out;omega
           case rel=>exact⟨(c),nw,(wrap64 (a+1)),qq_4,qq_4,qq_4,H',⟨by have:=HK1.out;omega⟩,⟨qq_b⟩⟩
         ·rw[if_neg v]at H;exact absurd H (by simp)
        ·rw[if_neg J]at H;exact absurd H (by simp)
       ·rw[if_neg I]at H;exact absurd H (by simp)
     ·rw[if_neg c4]at H;exact absurd H (by simp)
    ·rw[if_neg c3]at H;have U:=decide_eq_false c3;clear c3;obtain rfl:=Option.some.inj H;go_wp2;go_ret
     exact⟨qq_2,qq_b⟩
 ·rw[if_neg c2]at H;exact absurd H (by simp)
mutual
def Qbl.l0:Nat→ByteArray→Int→Option (ByteArray × Int)
 | 0,_,_=>none
 | k+1,x0,x4=>if x4<(x0.size:Int)then(if 0≤x4 then(if(bt x0 x4)=0 then(some ((⟨#[]⟩:ByteArray),4))else(Qbl.l0 k x0 (wrap64 (x4+1))))else(none))else(if x0.toList=([]:List UInt8)then(some ((⟨#[]⟩:ByteArray),2))else(Qbl.l1 k x0 (⟨#[]⟩:ByteArray) x0))
def Qbl.l1:Nat→ByteArray→ByteArray→ByteArray→Option (ByteArray × Int)
 | 0,_,_,_=>none
 | k+1,x0,x5,x6=>if x6.toList=([]:List UInt8)then((Qbk.f k x5).bind fun t633=>(if t633.toList=x0.toList then(some (x5,0))else(some ((⟨#[]⟩:ByteArray),4))))else(if 0<(x6.size:Int)then(if(wrap64 (bt x6 0)) > (x6.size:Int)then(some ((⟨#[]⟩:ByteArray),2))else(if 1≤(wrap64 (bt x6 0))then(if(wrap64 (bt x6 0))≤(x6.size:Int)then(if x5.size+(x6.extract 1 ((wrap64 (bt x6 0)):Int).toNat).size≤9223372036854775807 then(if 0≤(wrap64 (bt x6 0))then(if(wrap64 (bt x6 0))<255 then(if(x6.extract ((wrap64 (bt x6 0)):Int).toNat x6.size).toList=([]:List UInt8)then(Qbl.l1 k x0 (x5++(x6.extract 1 ((wrap64 (bt x6 0)):Int).toNat)) (x6.extract ((wrap64 (bt x6 0)):Int).toNat x6.size))else(if(x5++(x6.extract 1 ((wrap64 (bt x6 0)):Int).toNat)).size+1≤9223372036854775807 then(Qbl.l1 k x0 ((x5++(x6.extract 1 ((wrap64 (bt x6 0)):Int).toNat))++(⟨#[0]⟩:ByteArray)) (x6.extract ((wrap64 (bt x6 0)):Int).toNat x6.size))else(none)))else(Qbl.l1 k x0 (x5++(x6.extract 1 ((wrap64 (bt x6 0)):Int).toNat)) (x6.extract ((wrap64 (bt x6 0)):Int).toNat x6.size)))else(none))else(none))else(none))else(none)))else(none))
end
def Qbl.f(k:Nat)(a0:ByteArray):Option (ByteArray × Int):=Qbl.l0 k a0 0
theorem Qbl.calls (k:Nat) (a0:ByteArray) (r1:ByteArray) (r2:Int) (w:World) (h:Qbl.f k a0=some (r1,r2)) :
  Calls Tryz.prog 186 #[.string a0] w fun e w'=>e=.returned (.tuple #[.string r1,.int .i64 r2])∧Below w.heap.size w w':=by
 have HB:=QA (Below.refl w.heap.size w);have H:(Qbl.l0 k a0 0)=some (r1,r2):=h;clear h;have H':=QA H;clear H
 go_enter Tryz.func186,Tryz.ntmps186
 go_wp2
 go_loopg [4] k (fun kq v4 w'=>∃(d:Int),v4=.int .i64 d∧Aside0 (Qbl.l0 kq a0 d=some (r1,r2))∧Aside0 (kq≤k)∧Aside0 (Below w.heap.size w w'))
 case atStart=>exact⟨(0),qq_4,H',⟨Nat.le_refl _⟩,⟨qq_b⟩⟩
 case round =>
  clear H';obtain⟨d,rfl,HA,HK1,HB⟩:=hrel
  cases gk with
  | zero=>exact absurd HA.out (by simp[Qbl.l0])
  | succ k1 =>
   have H:=HA.out;clear HA;simp only[Qbl.l0]at H
   by_cases c2:d<(a0.size:Int)
   ·rw[if_pos c2]at H;have A:=decide_eq_true c2;clear c2
    by_cases c3:0≤d
    ·rw[if_pos c3]at H;have aa:=decide_eq_true c3;clear c3
     by_cases c5:(bt a0 d)=0
     ·rw[if_pos c5]at H;have B:((bt a0 d) == 0)=true:=beq_iff_eq.mpr c5;have D:((bt a0 d) != 0)=false:=bne_eq_false_iff_eq.mpr c5;clear c5;simp only[Option.some.injEq,Prod.mk.injEq]at H;obtain⟨rfl,rfl⟩:=H;have p4:0≤(d:Int):=of_decide_eq_true qq_3;have q4:d<(a0.size:Int):=of_decide_eq_true qq_3;have Y:=Qcv a0 d;replace p4:=eq_true p4;replace q4:=eq_true q4;go_wp2
      go_ret2
      exact⟨qq_2,qq_b⟩
     ·rw[if_neg c5]at H;have B:((bt a0 d) == 0)=false:=beq_eq_false_iff_ne.mpr c5;have D:((bt a0 d) != 0)=true:=bne_iff_ne.mpr c5;have H':=QA H;clear H;have p4:0≤(d:Int):=of_decide_eq_true qq_3;have q4:d<(a0.size:Int):=of_decide_eq_true qq_3;have Y:=Qcv a0 d;replace p4:=eq_true p4;replace q4:=eq_true q4;go_wp2
      go_roundg k1
      case measure=>have:=HK1.out;omega
      case rel=>exact⟨(wrap64 (d+1)),qq_4,H',⟨by have:=HK1.out;omega⟩,⟨qq_b⟩⟩
    ·rw[if_neg c3]at H;exact absurd H (by simp)
   ·rw [if_neg c2]at H;have A:=decide_eq_false c2;clear c2
    by_cases c6:a0.toList=([]:List UInt8)
    ·rw[if_pos c6]at H;have E:(a0.toList == ([]:List UInt8))=true:=beq_iff_eq.mpr c6;have G:(a0.toList != ([]:List UInt8))=false:=bne_eq_false_iff_eq.mpr c6;clear c6;simp only[Option.some.injEq,Prod.mk.injEq]at H;obtain⟨rfl,rfl⟩:=H;go_wp2
     go_ret2
     exact⟨qq_2,qq_b⟩
    ·rw [if_neg c6]at H;have E:(a0.toList == ([]:List UInt8))=false:=beq_eq_false_iff_ne.mpr c6;have G:(a0.toList != ([]:List UInt8))=true:=bne_iff_ne.mpr c6;have H':=QA H;clear H;go_wp2
     go_loopg [5,6] k1 (fun kq v5 v6 w'=>∃(c:ByteArray) (a:ByteArray),v5=.string c∧v6=.string a∧Aside0 (Qbl.l1 kq a0 c a=some (r1,r2))∧Aside0 (kq≤k1)∧Aside0 (Below w.heap.size w w'))
     case atStart=>exact⟨((⟨#[]⟩:ByteArray)),(a0),qq_4,qq_4,H',⟨Nat.le_refl _⟩,⟨qq_b⟩⟩
     case round =>
      clear H'
      try clear c2
      try clear A
      try clear c3
      try clear aa
      try clear p4
      try clear q4
      try clear Y
      try clear c5
      try clear B
      try clear D
      try clear c6
      try clear E
      try clear G
      try clear p4
      try clear q4
      obtain⟨c,a,rfl,rfl,HA,HK2,HB⟩:=hrel
      cases gk with
      | zero=>exact absurd HA.out (by simp[Qbl.l1])
      | succ k2 =>
       have H:=HA.out;clear HA;simp only[Qbl.l1]at H
       by_cases c7:a.toList=([]:List UInt8)
       ·rw[if_pos c7]at H;have ab:(a.toList == ([]:List UInt8))=true:=beq_iff_eq.mpr c7;have ac:(a.toList != ([]:List UInt8))=false:=bne_eq_false_iff_eq.mpr c7;clear c7;obtain⟨j,Z,H⟩:=Option.bind_eq_some_iff.mp H;have A8:=QA Z;clear Z
        by_cases c9:j.toList=a0.toList
        ·rw[if_pos c9]at H;have ad:(j.toList == a0.toList)=true:=beq_iff_eq.mpr c9;have ae:(j.toList != a0.toList)=false:=bne_eq_false_iff_eq.mpr c9;clear c9;simp only[Option.some.injEq,Prod.mk.injEq]at H;obtain⟨rfl,rfl⟩:=H
         go_wp2_with (first |((with_reducible refine Qij (f:=102) rfl ?_);refine Qgm (some 47) rfl rfl Tryz.func102 qq_7 rfl #[.string c] rfl qq_1 ?_;(with_reducible refine(Qbk.calls k2 c j _ A8.out).mono ?_);rintro e ap ⟨rfl,hb⟩;refine⟨_,rfl,?_⟩;have n_:=qn1 (Qfj qq_b hb);clear HB;have HB:=n_;clear n_;(try clear hb);(try clear hb2);(try clear hk);(try clear hi)))
         go_ret2
         exact⟨qq_2,qq_b⟩
        ·rw[if_neg c9]at H;have ad:(j.toList == a0.toList)=false:=beq_eq_false_iff_ne.mpr c9;have ae:(j.toList != a0.toList)=true:=bne_iff_ne.mpr c9;simp only[Option.some.injEq,Prod.mk.injEq]at H;obtain⟨rfl,rfl⟩:=H
         go_wp2_with (first |((with_reducible refine Qij (f:=102) rfl ?_);refine Qgm (some 47) rfl rfl Tryz.func102 qq_7 rfl #[.string c] rfl qq_1 ?_;(with_reducible refine(Qbk.calls k2 c j _ A8.out).mono ?_);rintro e aq ⟨rfl,hb⟩;refine⟨_,rfl,?_⟩;have n_:=qn1 (Qfj qq_b hb);clear HB;have HB:=n_;clear n_;(try clear hb);(try clear hb2);(try clear hk);(try clear hi)))
         go_ret2
         exact⟨qq_2,qq_b⟩
       ·rw [if_neg c7]at H;have ab:(a.toList == ([]:List UInt8))=false:=beq_eq_false_iff_ne.mpr c7;have ac:(a.toList != ([]:List UInt8))=true:=bne_iff_ne.mpr c7
        by_cases v:0<(a.size:Int)
        ·rw [if_pos v]at H;have ag:=decide_eq_true v;have ah:decide (0<a.size)=true:=decide_eq_true (by omega);clear v
         by_cases n:(wrap64 (bt a 0)) > (a.size:Int)
         ·rw[if_pos n]at H;have x:decide ((a.size:Int)<(wrap64 (bt a 0)))=true:=decide_eq_true n;clear n;simp only[Option.some.injEq,Prod.mk.injEq]at H;obtain⟨rfl,rfl⟩:=H;have l:0≤(0:Int):=(by omega);have g:0<a.size:=(by have:(0:Int)<(a.size:Int):=of_decide_eq_true qq_3;omega);have u:∀h:0<a.size,((a[0]'h).toNat:Int)=bt a 0:=Qcv a 0;clear l;have qi13:(0<(a.size:Int))=True:=eq_true (of_decide_eq_true qq_3);replace g:=eq_true g;go_wp2
          go_ret2
          exact⟨qq_2,qq_b⟩
         ·rw [if_neg n]at H;have x:decide ((a.size:Int)<(wrap64 (bt a 0)))=false:=decide_eq_false n;clear n
          by_cases r:1≤(wrap64 (bt a 0))
          ·rw [if_pos r]at H;have I:=eq_true r;have J:=decide_eq_true r;clear r
           by_cases s:(wrap64 (bt a 0))≤(a.size:Int)
           ·rw [if_pos s]at H;have K:=eq_true s;have L:=decide_eq_true s;clear s
            by_cases o:c.size+(a.extract 1 ((wrap64 (bt a 0)):Int).toNat).size≤9223372036854775807
            ·rw [if_pos o]at H;have M:=eq_true o;have O:=decide_eq_true o
             try have ai:(9223372036854775807<c.size+(a.extract 1 ((wrap64 (bt a 0)):Int).toNat).size)=False:=eq_false (Nat.not_lt.2 o)
             obtain⟨b,hji18⟩:∃j_:Int,(wrap64 (bt a 0))=j_:=⟨_,rfl⟩;replace H:(if 0≤(b)then(if(b)<255 then(if(a.extract ((b):Int).toNat a.size).toList=([]:List UInt8)then(Qbl.l1 k2 a0 (c++(a.extract 1 ((b):Int).toNat)) (a.extract ((b):Int).toNat a.size))else(if(c++(a.extract 1 ((b):Int).toNat)).size+1≤9223372036854775807 then(Qbl.l1 k2 a0 ((c++(a.extract 1 ((b):Int).toNat))++(⟨#[0]⟩:ByteArray)) (a.extract ((b):Int).toNat a.size))else(none)))else(Qbl.l1 k2 a0 (c++(a.extract 1 ((b):Int).toNat)) (a.extract ((b):Int).toNat a.size)))else(none))=some (r1,r2):=by first |(rw[hji18]at H;exact H) |(simp only[hji18]at H ⊢;exact H)
             (try rw[hji18]at x)
             (try rw[hji18]at I)
             (try rw[hji18]at J)
             (try rw[hji18]at K)
             (try rw[hji18]at L)
             (try rw[hji18]at M)
             (try rw[hji18]at O)
             (try rw[hji18]at o)
             have af:(IntKind.i64.wrap (bt a 0))=b:=(Qgo _).trans hji18
             by_cases t:0≤(b)
             ·rw [if_pos t]at H;have aj:=eq_true t;have ak:=decide_eq_true t;clear t;have al:=eq_true (of_decide_eq_true qq_3:(b)≤(a.size:Int))
              by_cases p:(b)<255
              ·rw[if_pos p]at H;have P:=decide_eq_true p;clear p
               by_cases m:(a.extract ((b):Int).toNat a.size).toList=([]:List UInt8)
               ·rw[if_pos m]at H;have T:((a.extract ((b):Int).toNat a.size).toList == ([]:List UInt8))=true:=beq_iff_eq.mpr m;have U:((a.extract ((b):Int).toNat a.size).toList != ([]:List UInt8))=false:=bne_eq_false_iff_eq.mpr m;clear m;have H':=QA H;clear H;have l:0≤(0:Int):=(by omega);have g:0<a.size:=(by have:(0:Int)<(a.size:Int):=of_decide_eq_true qq_3;omega);have u:∀h:0<a.size,((a[0]'h).toNat:Int)=bt a 0:=Qcv a 0;clear l;have qi13:(0<(a.size:Int))=True:=eq_true (of_decide_eq_true qq_3);replace g:=eq_true g;go_wp2
                go_roundg k2
                case measure=>have:=HK1.out;have:=HK2.out;omega
                case rel=>exact⟨(c++(a.extract 1 ((b):Int).toNat)),(a.extract ((b):Int).toNat a.size),qq_17,qq_17,H',⟨by have:=HK1.out;have:=HK2.out;omega⟩,⟨qq_b⟩⟩
               ·rw[if_neg m]at H;have T:((a.extract ((b):Int).toNat a.size).toList == ([]:List UInt8))=false:=beq_eq_false_iff_ne.mpr m;have U:((a.extract ((b):Int).toNat a.size).toList != ([]:List UInt8))=true:=bne_iff_ne.mpr m
                by_cases q:(c++(a.extract 1 ((b):Int).toNat)).size+1≤9223372036854775807
                ·rw[if_pos q]at H;have am:=eq_true q;have an:=decide_eq_true q;have ao:(9223372036854775807<c.size+(b.toNat-1)+1)=False:=eq_false (by have z:=of_decide_eq_true (show decide (b≤(a.size:Int))=true by assumption);have z2:=q;simp only[ByteArray.size_append,ByteArray.size_extract]at z2;omega)
                 try have y:(9223372036854775807<(c++(a.extract 1 ((b):Int).toNat)).size+1)=False:=eq_false (Nat.not_lt.2 q)
                 try have W:=y
                 try simp only[ByteArray.size_append,(show ∀x_:UInt8,(⟨#[x_]⟩:ByteArray).size=1 from fun _=>rfl),(show ∀x_ y_:UInt8,(⟨#[x_,y_]⟩:ByteArray).size=2 from fun _ _=>rfl)]at W
                 try have X:=y
                 try simp only[ByteArray.size_append,ByteArray.size_extract,(show ∀x_:UInt8,(⟨#[x_]⟩:ByteArray).size=1 from fun _=>rfl),(show ∀x_ y_:UInt8,(⟨#[x_,y_]⟩:ByteArray).size=2 from fun _ _=>rfl)]at X
                 have H':=QA H;clear H;have l:0≤(0:Int):=(by omega);have g:0<a.size:=(by have:(0:Int)<(a.size:Int):=of_decide_eq_true qq_3;omega);have u:∀h:0<a.size,((a[0]'h).toNat:Int)=bt a 0:=Qcv a 0;clear l;have qi13:(0<(a.size:Int))=True:=eq_true (of_decide_eq_true qq_3);replace g:=eq_true g;go_wp2
                 go_roundg k2
                 case measure=>have:=HK1.out;have:=HK2.out;omega
                 case rel=>exact⟨((c++(a.extract 1 ((b):Int).toNat))++(⟨#[0]⟩:ByteArray)),(a.extract ((b):Int).toNat a.size),qq_17,qq_17,H',⟨by have:=HK1.out;have:=HK2.out;omega⟩,⟨qq_b⟩⟩
                ·rw[if_neg q]at H;exact absurd H (by simp)
              ·rw[if_neg p]at H;have P:=decide_eq_false p;clear p;have H':=QA H;clear H;have l:0≤(0:Int):=(by omega);have g:0<a.size:=(by have:(0:Int)<(a.size:Int):=of_decide_eq_true qq_3;omega);have u:∀h:0<a.size,((a[0]'h).toNat:Int)=bt a 0:=Qcv a 0;clear l;have qi13:(0<(a.size:Int))=True:=eq_true (of_decide_eq_true qq_3);replace g:=eq_true g;go_wp2
               go_roundg k2
               case measure=>have:=HK1.out;have:=HK2.out;omega
               case rel=>exact⟨(c++(a.extract 1 ((b):Int).toNat)),(a.extract ((b):Int).toNat a.size),qq_17,qq_17,H',⟨by have:=HK1.out;have:=HK2.out;omega⟩,⟨qq_b⟩⟩
             ·rw[if_neg t]at H;exact absurd H (by simp)
            ·rw[if_neg o]at H;exact absurd H (by simp)
           ·rw[if_neg s]at H;exact absurd H (by simp)
          ·rw[if_neg r]at H;exact absurd H (by simp)
        ·rw[if_neg v]at H;exact absurd H (by simp)
def Qak.f(a0:Int):Option (Int):=if a0≤0 then(some 1)else(some (wrap64 ((wrap64 (a0+1))+(wrap64 (Int.tdiv (wrap64 (a0-1)) 254)))))
theorem Qak.calls(a0:Int)(r:Int)(w:World)(h:Qak.f a0=some r) :
  Calls Tryz.prog 197 #[.int .i64 a0] w fun e w'=>e=.returned (.int .i64 r)∧Drawn0 w w':=by
 have H:(if a0≤0 then(some 1)else(some (wrap64 ((wrap64 (a0+1))+(wrap64 (Int.tdiv (wrap64 (a0-1)) 254))))))=some r:=h;clear h
 by_cases c2:a0≤0
 ·rw[if_pos c2]at H;have c2b0:=decide_eq_true c2;clear c2;obtain rfl:=Option.some.inj H
  go_enter Tryz.func197,Tryz.ntmps197
  go_wp2;go_ret
  exact⟨by first|rfl |(simp;done) |(simp[*];done),by repeat(first|exact Drawn0.refl _|apply Drawn0.step)⟩
 ·rw[if_neg c2]at H;have c2b0:=decide_eq_false c2;clear c2;obtain rfl:=Option.some.inj H
  go_enter Tryz.func197,Tryz.ntmps197
  go_wp2;go_ret
  exact⟨by first|rfl |(simp;done) |(simp[*];done),by repeat(first|exact Drawn0.refl _|apply Drawn0.step)⟩
def Qan.f(a0_0:Int)(a0_1:Int):Option (Int):=if a0_0<12 then(some 1)else(if a0_0 > 24 then(some 1)else(if a0_1<1 then(some 1)else(if a0_1 > 65536 then(some 1)else(some 0))))
theorem Qan.calls(c:Int)(d:Int)(r:Int)(w:World)(h:Qan.f c d=some r) :
  Calls Tryz.prog 85 #[.agg #[.int .u8 c,.int .u32 d]] w fun e w'=>e=.returned (.int .i64 r)∧Below w.heap.size w w':=by
 have hu27:=Tryz.underlying27;have HB:=QA (Below.refl w.heap.size w);have H:(if c<12 then(some 1)else(if c > 24 then(some 1)else(if d<1 then(some 1)else(if d > 65536 then(some 1)else(some 0)))))=some r:=h;clear h
 by_cases c2:c<12
 ·rw[if_pos c2]at H;have m:=decide_eq_true c2;clear c2;obtain rfl:=Option.some.inj H
  go_enter Tryz.func85,Tryz.ntmps85
  go_wp2_with (first |((with_reducible refine Qft (N:=1) rfl ?_);refine qq_e 1 #[.int .u8 c,.int .u32 d] 27 ?_;intro a hg w3 hbox hb;have n_:=qn4 (Qfj qq_b hb) (hbox) (qq_s hg:w.heap.size≤a) (qq_s hg:w.heap.size≤a);clear HB;obtain⟨HB,b,g,j⟩:=n_;clear hb hbox hg;obtain⟨x,y⟩:=qc2 b.out;have G:=Qdw b.out))
  go_ret
  exact⟨qq_2,qq_b⟩
 ·rw [if_neg c2]at H;have m:=decide_eq_false c2;clear c2
  by_cases c5:c > 24
  ·rw[if_pos c5]at H;have n:decide (24<c)=true:=decide_eq_true c5;clear c5;obtain rfl:=Option.some.inj H
   go_enter Tryz.func85,Tryz.ntmps85
   go_wp2_with (first |((with_reducible refine Qft (N:=1) rfl ?_);refine qq_e 1 #[.int .u8 c,.int .u32 d] 27 ?_;intro a hg w6 hbox hb;have n_:=qn4 (Qfj qq_b hb) (hbox) (qq_s hg:w.heap.size≤a) (qq_s hg:w.heap.size≤a);clear HB;obtain⟨HB,b,g,j⟩:=n_;clear hb hbox hg;obtain⟨z,A⟩:=qc2 b.out;have I:=Qdw b.out))
   go_ret
   exact⟨qq_2,qq_b⟩
  ·rw[if_neg c5]at H;have n:decide (24<c)=false:=decide_eq_false c5;clear c5
   by_cases c8:d<1
   ·rw[if_pos c8]at H;have o:=decide_eq_true c8;clear c8;obtain rfl:=Option.some.inj H
    go_enter Tryz.func85,Tryz.ntmps85
    go_wp2_with (first |((with_reducible refine Qft (N:=1) rfl ?_);refine qq_e 1 #[.int .u8 c,.int .u32 d] 27 ?_;intro a hg w9 hbox hb;have n_:=qn4 (Qfj qq_b hb) (hbox) (qq_s hg:w.heap.size≤a) (qq_s hg:w.heap.size≤a);clear HB;obtain⟨HB,b,g,j⟩:=n_;clear hb hbox hg;obtain⟨p,q⟩:=qc2 b.out;have B:=Qdw b.out))
    go_ret
    exact⟨qq_2,qq_b⟩
   ·rw[if_neg c8]at H;have o:=decide_eq_false c8;clear c8
    by_cases k:d > 65536
    ·rw[if_pos k]at H;have l:decide (65536<d)=true:=decide_eq_true k;clear k;obtain rfl:=Option.some.inj H
     go_enter Tryz.func85,Tryz.ntmps85
     go_wp2_with (first |((with_reducible refine Qft (N:=1) rfl ?_);refine qq_e 1 #[.int .u8 c,.int .u32 d] 27 ?_;intro a hg J hbox hb;have n_:=qn4 (Qfj qq_b hb) (hbox) (qq_s hg:w.heap.size≤a) (qq_s hg:w.heap.size≤a);clear HB;obtain⟨HB,b,g,j⟩:=n_;clear hb hbox hg;obtain⟨s,t⟩:=qc2 b.out;have D:=Qdw b.out))
     go_ret
     exact⟨qq_2,qq_b⟩
    ·rw[if_neg k]at H;have l:decide (65536<d)=false:=decide_eq_false k;clear k;obtain rfl:=Option.some.inj H
     go_enter Tryz.func85,Tryz.ntmps85
     go_wp2_with (first |((with_reducible refine Qft (N:=1) rfl ?_);refine qq_e 1 #[.int .u8 c,.int .u32 d] 27 ?_;intro a hg K hbox hb;have n_:=qn4 (Qfj qq_b hb) (hbox) (qq_s hg:w.heap.size≤a) (qq_s hg:w.heap.size≤a);clear HB;obtain⟨HB,b,g,j⟩:=n_;clear hb hbox hg;obtain⟨u,v⟩:=qc2 b.out;have E:=Qdw b.out))
     go_ret
     exact⟨qq_2,qq_b⟩
def Qcc.f(a0_0:Int)(a0_1:Int)(a1:Int):Option (Int):=(Qan.f a0_0 a0_1).bind fun t105=>(if t105=0 then(if a1≥a0_1 then(some 1)else(some 0))else(some 1))
theorem Qcc.calls(c:Int)(b:Int)(a1:Int)(r:Int)(w:World)(h:Qcc.f c b a1=some r) :
  Calls Tryz.prog 93 #[.agg #[.int .u8 c,.int .u32 b],.int .u32 a1] w fun e w'=>e=.returned (.int .i64 r)∧Below w.heap.size w w':=by
 have hu27:=Tryz.underlying27;have HB:=QA (Below.refl w.heap.size w);have H:((Qan.f c b).bind fun j=>(if j=0 then(if a1≥b then(some 1)else(some 0))else(some 1)))=some r:=h;clear h;obtain⟨j,m,H⟩:=Option.bind_eq_some_iff.mp H;have A3:=QA m;clear m
 by_cases c4:j=0
 ·rw[if_pos c4]at H;have n:(j == 0)=true:=beq_iff_eq.mpr c4;have p:(j != 0)=false:=bne_eq_false_iff_eq.mpr c4;clear c4
  by_cases c5:a1≥b
  ·rw[if_pos c5]at H;have q:decide (b≤a1)=true:=decide_eq_true c5;clear c5;obtain rfl:=Option.some.inj H
   go_enter Tryz.func93,Tryz.ntmps93
   go_wp2_with (first |((with_reducible refine Qft (N:=2) rfl ?_);refine qq_e 2 #[.int .u8 c,.int .u32 b] 27 ?_;intro d hg w6 hbox hb;have n_:=qn4 (Qfj qq_b hb) (hbox) (qq_s hg:w.heap.size≤d) (qq_s hg:w.heap.size≤d);clear HB;obtain⟨HB,a,k,l⟩:=n_;clear hb hbox hg;obtain⟨z,A⟩:=qc2 a.out;have J:=Qdw a.out) |((with_reducible refine Qij (f:=85) rfl ?_);refine Qgm (some 6) rfl rfl Tryz.func85 qq_7 rfl #[.agg #[.int .u8 c,.int .u32 b]] rfl qq_1 ?_;(with_reducible refine(Qan.calls c b j _ A3.out).mono ?_);rintro e w8 ⟨rfl,hb⟩;refine⟨_,rfl,?_⟩;have n_:=qn2 (Qei (g:=d) (o:=.cells #[.int .u8 c,.int .u32 b] 27 (0,0)) qq_0 hb) (Qfj qq_b hb);clear a HB;obtain⟨a,HB⟩:=n_;(try clear hb);(try clear hb2);(try clear hk);(try clear hi);obtain⟨B,D⟩:=qc2 a.out;have K:=Qdw a.out))
   go_ret
   exact⟨qq_2,qq_b⟩
  ·rw[if_neg c5]at H;have q:decide (b≤a1)=false:=decide_eq_false c5;clear c5;obtain rfl:=Option.some.inj H
   go_enter Tryz.func93,Tryz.ntmps93
   go_wp2_with (first |((with_reducible refine Qft (N:=2) rfl ?_);refine qq_e 2 #[.int .u8 c,.int .u32 b] 27 ?_;intro d hg L hbox hb;have n_:=qn4 (Qfj qq_b hb) (hbox) (qq_s hg:w.heap.size≤d) (qq_s hg:w.heap.size≤d);clear HB;obtain⟨HB,a,k,l⟩:=n_;clear hb hbox hg;obtain⟨s,t⟩:=qc2 a.out;have E:=Qdw a.out) |((with_reducible refine Qij (f:=85) rfl ?_);refine Qgm (some 6) rfl rfl Tryz.func85 qq_7 rfl #[.agg #[.int .u8 c,.int .u32 b]] rfl qq_1 ?_;(with_reducible refine(Qan.calls c b j _ A3.out).mono ?_);rintro e M ⟨rfl,hb⟩;refine⟨_,rfl,?_⟩;have n_:=qn2 (Qei (g:=d) (o:=.cells #[.int .u8 c,.int .u32 b] 27 (0,0)) qq_0 hb) (Qfj qq_b hb);clear a HB;obtain⟨a,HB⟩:=n_;(try clear hb);(try clear hb2);(try clear hk);(try clear hi);obtain⟨u,v⟩:=qc2 a.out;have G:=Qdw a.out))
   go_ret
   exact⟨qq_2,qq_b⟩
 ·rw[if_neg c4]at H;have n:(j == 0)=false:=beq_eq_false_iff_ne.mpr c4;have p:(j != 0)=true:=bne_iff_ne.mpr c4;obtain rfl:=Option.some.inj H
  go_enter Tryz.func93,Tryz.ntmps93
  go_wp2_with (first |((with_reducible refine Qft (N:=2) rfl ?_);refine qq_e 2 #[.int .u8 c,.int .u32 b] 27 ?_;intro d hg O hbox hb;have n_:=qn4 (Qfj qq_b hb) (hbox) (qq_s hg:w.heap.size≤d) (qq_s hg:w.heap.size≤d);clear HB;obtain⟨HB,a,k,l⟩:=n_;clear hb hbox hg;obtain⟨x,y⟩:=qc2 a.out;have I:=Qdw a.out) |((with_reducible refine Qij (f:=85) rfl ?_);refine Qgm (some 6) rfl rfl Tryz.func85 qq_7 rfl #[.agg #[.int .u8 c,.int .u32 b]] rfl qq_1 ?_;(with_reducible refine(Qan.calls c b j _ A3.out).mono ?_);rintro e P ⟨rfl,hb⟩;refine⟨_,rfl,?_⟩;have n_:=qn2 (Qei (g:=d) (o:=.cells #[.int .u8 c,.int .u32 b] 27 (0,0)) qq_0 hb) (Qfj qq_b hb);clear a HB;obtain⟨a,HB⟩:=n_;(try clear hb);(try clear hb2);(try clear hk);(try clear hi)))
  go_ret
  exact⟨qq_2,qq_b⟩
def Qcm.j0:Nat→Bool→Bool→Int→ByteArray→ByteArray→Option (Int)
 | 0,_,_,_,_,_=>none
 | k+1,x12,x117000,x117001,x117002,x117003=>if x12=true then(some 4)else(if(x117003.size:Int) > 1048576 then(some 3)else(some 0))
def Qcm.f(k:Nat)(a0_0:Bool)(a0_1:Int)(a0_2:ByteArray)(a0_3:ByteArray):Option (Int):=if a0_2.toList=([]:List UInt8)then(some 4)else(if(a0_2.size:Int) > 4096 then(some 3)else(if a0_0=true then(Qcm.j0 k (a0_3.toList != ([]:List UInt8)) a0_0 a0_1 a0_2 a0_3)else(Qcm.j0 k false a0_0 a0_1 a0_2 a0_3)))
theorem Qcm.calls(k:Nat)(g:Bool)(j:Int)(b:ByteArray)(c:ByteArray)(r:Int)(w:World)(h:Qcm.f k g j b c=some r) :
  Calls Tryz.prog 56 #[.agg #[.bool g,.int .u64 j,.string b,.string c]] w fun e w'=>e=.returned (.int .i64 r)∧Below w.heap.size w w':=by
 have hu39:=Tryz.underlying39;have HB:=QA (Below.refl w.heap.size w);have H:(if b.toList=([]:List UInt8)then(some 4)else(if(b.size:Int) > 4096 then(some 3)else(if g=true then(Qcm.j0 k (c.toList != ([]:List UInt8)) g j b c)else(Qcm.j0 k false g j b c))))=some r:=h;clear h
 by_cases c2:b.toList=([]:List UInt8)
 ·rw[if_pos c2]at H;have I:(b.toList == ([]:List UInt8))=true:=beq_iff_eq.mpr c2;have J:(b.toList != ([]:List UInt8))=false:=bne_eq_false_iff_eq.mpr c2;clear c2;obtain rfl:=Option.some.inj H
  go_enter Tryz.func56,Tryz.ntmps56
  go_wp2_with (first |((with_reducible refine Qft (N:=1) rfl ?_);refine qq_e 1 #[.bool g,.int .u64 j,.string b,.string c] 39 ?_;intro d hg w3 hbox hb;have n_:=qn4 (Qfj qq_b hb) (hbox) (qq_s hg:w.heap.size≤d) (qq_s hg:w.heap.size≤d);clear HB;obtain⟨HB,a,o,p⟩:=n_;clear hb hbox hg;obtain⟨K,L,M,O⟩:=qc4 a.out;have af:=Qdw a.out))
  go_ret
  exact⟨qq_2,qq_b⟩
 ·rw [if_neg c2]at H;have I:(b.toList == ([]:List UInt8))=false:=beq_eq_false_iff_ne.mpr c2;have J:(b.toList != ([]:List UInt8))=true:=bne_iff_ne.mpr c2
  by_cases c5:(b.size:Int) > 4096
  ·rw[if_pos c5]at H;have P:decide (4096<(b.size:Int))=true:=decide_eq_true c5;have T:decide (4096<b.size)=true:=decide_eq_true (by omega);clear c5;obtain rfl:=Option.some.inj H
   go_enter Tryz.func56,Tryz.ntmps56
   go_wp2_with (first |((with_reducible refine Qft (N:=1) rfl ?_);refine qq_e 1 #[.bool g,.int .u64 j,.string b,.string c] 39 ?_;intro d hg w6 hbox hb;have n_:=qn4 (Qfj qq_b hb) (hbox) (qq_s hg:w.heap.size≤d) (qq_s hg:w.heap.size≤d);clear HB;obtain⟨HB,a,o,p⟩:=n_;clear hb hbox hg;obtain⟨U,W,X,Y⟩:=qc4 a.out;have ag:=Qdw a.out))
   go_ret
   exact⟨qq_2,qq_b⟩
  ·rw [if_neg c5]at H;have P:decide (4096<(b.size:Int))=false:=decide_eq_false c5;have T:decide (4096<b.size)=false:=decide_eq_false (by omega);clear c5;have Z:=QA H;clear H
   go_enter Tryz.func56,Tryz.ntmps56
   go_upto_region 5 with(first |((with_reducible refine Qft (N:=1) rfl ?_);refine qq_e 1 #[.bool g,.int .u64 j,.string b,.string c] 39 ?_;intro d hg w9 hbox hb;have n_:=qn4 (Qfj qq_b hb) (hbox) (qq_s hg:w.heap.size≤d) (qq_s hg:w.heap.size≤d);clear HB;obtain⟨HB,a,o,p⟩:=n_;clear hb hbox hg;obtain⟨s,t,u,v⟩:=qc4 a.out;have aa:=Qdw a.out))
   (try simp only[Act.put,List.setIfInBounds_toArray,List.set_cons_zero,List.set_cons_succ])
   go_cut [12] (fun ap wc=>∃(kq:Nat) (l:Bool),ap=.bool l∧Aside0 (Qcm.j0 kq l g j b c=some r)∧Aside0 (kq≤k)∧Aside0 (wc.heap[d]? = some (.cells #[.bool g,.int .u64 j,.string b,.string c] 39 (0,0)))∧Aside0 (Below w.heap.size w wc))
   case first =>
    have H:=Z.out;clear Z
    by_cases n:g=true
    ·subst n;rw[if_pos rfl]at H;have H':=QA H;clear H;obtain⟨x,y,z,A⟩:=qc4 a.out;have ab:=Qdw a.out;go_wp2
     go_meet
     case rel=>exact⟨_,((c.toList != ([]:List UInt8))),(by first|rfl |(simp;done) |(simp[*];done) |(cases c.toList<;>rfl)),H',⟨by first|omega|exact Nat.le_refl _⟩,⟨by(with_reducible repeat(first|apply Qeh|apply Qeg|apply Qef));exact a.out⟩,⟨qq_b⟩⟩
    ·replace n:=Bool.eq_false_iff.mpr n;subst n;rw[if_neg (show ¬(false=true)by decide)]at H;have H':=QA H;clear H;obtain⟨B,D,E,G⟩:=qc4 a.out;have ac:=Qdw a.out;go_wp2
     go_meet
     case rel=>exact⟨_,(false),(by first|rfl |(simp;done) |(simp[*];done) |(cases c.toList<;>rfl)),H',⟨by first|omega|exact Nat.le_refl _⟩,⟨by(with_reducible repeat(first|apply Qeh|apply Qeg|apply Qef));exact a.out⟩,⟨qq_b⟩⟩
   case rest =>
    clear Z
    try clear c2
    try clear I
    try clear J
    try clear c5
    try clear P
    try clear T
    try clear n
    try clear s
    try clear t
    try clear u
    try clear v
    try clear x
    try clear y
    try clear z
    try clear A
    try clear B
    try clear D
    try clear E
    try clear G
    try clear K
    try clear L
    try clear M
    try clear O
    try clear U
    try clear W
    try clear X
    try clear Y
    try clear aa
    try clear ab
    try clear ac
    try clear af
    try clear ag
    obtain⟨kq,l,rfl,HA,HJ7,a,HB⟩:=hcut
    cases kq with
    | zero=>exact absurd HA.out (by simp[Qcm.j0])
    | succ kj7 =>
     have H:=HA.out;clear HA;simp only[Qcm.j0]at H
     by_cases q:l=true
     ·subst q;rw[if_pos rfl]at H;obtain rfl:=Option.some.inj H;go_wp2;go_ret
      exact⟨qq_2,qq_b⟩
     ·replace q:=Bool.eq_false_iff.mpr q;subst q;rw[if_neg (show ¬(false=true)by decide)]at H
      by_cases m:(c.size:Int) > 1048576
      ·rw[if_pos m]at H;have ad:decide (1048576<(c.size:Int))=true:=decide_eq_true m;have ae:decide (1048576<c.size)=true:=decide_eq_true (by omega);clear m;obtain rfl:=Option.some.inj H;obtain⟨ah,ai,aj,ak⟩:=qc4 a.out;have aq:=Qdw a.out;go_wp2;go_ret
       exact⟨qq_2,qq_b⟩
      ·rw[if_neg m]at H;have ad:decide (1048576<(c.size:Int))=false:=decide_eq_false m;have ae:decide (1048576<c.size)=false:=decide_eq_false (by omega);clear m;obtain rfl:=Option.some.inj H;obtain⟨al,am,an,ao⟩:=qc4 a.out;have ar:=Qdw a.out;go_wp2;go_ret
       exact⟨qq_2,qq_b⟩
def Qaw.f(a0_0:ByteArray)(a0_1:Int)(a0_2:Int)(a1:Int):Option (ByteArray × Int × Int):=if a0_2=0 then(some (a0_0,a0_1,a1))else(some (a0_0,a0_1,a0_2))
theorem Qaw.calls(c:ByteArray)(d:Int)(b:Int)(a1:Int)(r1:ByteArray)(r2:Int)(r3:Int)(w:World)(h:Qaw.f c d b a1=some (r1,r2,r3)) :
  Calls Tryz.prog 222 #[.agg #[.string c,.int .i64 d,.int .i64 b],.int .i64 a1] w fun e w'=>e=.returned (.agg #[.string r1,.int .i64 r2,.int .i64 r3])∧Below w.heap.size w w':=by
 have hu257:=Tryz.underlying257;have HB:=QA (Below.refl w.heap.size w);have H:(if b=0 then(some (c,d,a1))else(some (c,d,b)))=some (r1,r2,r3):=h;clear h
 by_cases c3:b=0
 ·rw[if_pos c3]at H;have t:(b == 0)=true:=beq_iff_eq.mpr c3;have u:(b != 0)=false:=bne_eq_false_iff_eq.mpr c3;clear c3;simp only[Option.some.injEq,Prod.mk.injEq]at H;obtain⟨rfl,rfl,rfl⟩:=H
  go_enter Tryz.func222,Tryz.ntmps222
  go_wp2_with (first |((with_reducible refine Qft (N:=2) rfl ?_);refine qq_e 2 #[.string c,.int .i64 d,.int .i64 b] 257 ?_;intro a hg w4 hbox hb;have n_:=qn4 (Qfj qq_b hb) (hbox) (qq_s hg:w.heap.size≤a) (qq_s hg:w.heap.size≤a);clear HB;obtain⟨HB,k,p,q⟩:=n_;clear hb hbox hg) |((with_reducible refine Qft (N:=4) rfl ?_);refine qq_e 4 #[.string (⟨#[]⟩:ByteArray),.int .i64 0,.int .i64 0] 257 ?_;intro j hg w5 hbox hb;have n_:=qn7 (Qei (g:=a) (o:=.cells #[.string c,.int .i64 d,.int .i64 b] 257 (0,0)) qq_0 hb) (Qfj qq_b hb) (hbox) (qq_s hg:w.heap.size≤j) (qq_s hg:w.heap.size≤j) ((by rw[hg];exact Nat.ne_of_lt (Qdu (g:=a) (o:=.cells #[.string c,.int .i64 d,.int .i64 b] 257 (0,0)) qq_0):a≠j)) ((by rw[hg];exact Nat.ne_of_gt (Qdu (g:=a) (o:=.cells #[.string c,.int .i64 d,.int .i64 b] 257 (0,0)) qq_0):j≠a));clear k HB;obtain⟨k,HB,n,r,s,m,l⟩:=n_;clear hb hbox hg;have T:=m.out;have U:=l.out;obtain⟨D,E,G⟩:=qc3 k.out;have W:=Qdw k.out;obtain⟨I,J,K⟩:=qc3 n.out;have X:=Qdw n.out))
  refine bodyPost_ret (results_cell_row rfl _ _ j 257 #[.string c,.int .i64 d,.int .i64 a1] (0,0) _ rfl (by(with_reducible repeat(first|apply Qeh|apply Qeg|apply Qef));refine Qfp (cs:=#[.string c,.int .i64 d,.int .i64 0]) ?_ 2 _ rfl;(with_reducible repeat(first|apply Qeh|apply Qeg|apply Qef));refine Qfp (cs:=#[.string c,.int .i64 0,.int .i64 0]) ?_ 1 _ rfl;(with_reducible repeat(first|apply Qeh|apply Qeg|apply Qef));refine Qfp (cs:=#[.string (⟨#[]⟩:ByteArray),.int .i64 0,.int .i64 0]) ?_ 0 _ rfl;(with_reducible repeat(first|apply Qeh|apply Qeg|apply Qef));refine Qdt ?_ l.out _;(with_reducible repeat(first|apply Qeh|apply Qeg|apply Qef));exact n.out) Tryz.underlying257 rfl qq_7) rfl ?_;exact⟨qq_2,qq_b⟩
 ·rw[if_neg c3]at H;have t:(b == 0)=false:=beq_eq_false_iff_ne.mpr c3;have u:(b != 0)=true:=bne_iff_ne.mpr c3;simp only[Option.some.injEq,Prod.mk.injEq]at H;obtain⟨rfl,rfl,rfl⟩:=H
  go_enter Tryz.func222,Tryz.ntmps222
  go_wp2_with (first |((with_reducible refine Qft (N:=2) rfl ?_);refine qq_e 2 #[.string c,.int .i64 d,.int .i64 b] 257 ?_;intro a hg w9 hbox hb;have n_:=qn4 (Qfj qq_b hb) (hbox) (qq_s hg:w.heap.size≤a) (qq_s hg:w.heap.size≤a);clear HB;obtain⟨HB,k,p,q⟩:=n_;clear hb hbox hg) |((with_reducible refine Qft (N:=4) rfl ?_);refine qq_e 4 #[.string (⟨#[]⟩:ByteArray),.int .i64 0,.int .i64 0] 257 ?_;intro j hg Y hbox hb;have n_:=qn7 (Qei (g:=a) (o:=.cells #[.string c,.int .i64 d,.int .i64 b] 257 (0,0)) qq_0 hb) (Qfj qq_b hb) (hbox) (qq_s hg:w.heap.size≤j) (qq_s hg:w.heap.size≤j) ((by rw[hg];exact Nat.ne_of_lt (Qdu (g:=a) (o:=.cells #[.string c,.int .i64 d,.int .i64 b] 257 (0,0)) qq_0):a≠j)) ((by rw[hg];exact Nat.ne_of_gt (Qdu (g:=a) (o:=.cells #[.string c,.int .i64 d,.int .i64 b] 257 (0,0)) qq_0):j≠a));clear k HB;obtain⟨k,HB,n,r,s,m,l⟩:=n_;clear hb hbox hg;have L:=m.out;have M:=l.out;obtain⟨v,x,y⟩:=qc3 k.out;have O:=Qdw k.out;obtain⟨z,A,B⟩:=qc3 n.out;have P:=Qdw n.out))
  refine bodyPost_ret (results_cell_row rfl _ _ j 257 #[.string c,.int .i64 d,.int .i64 b] (0,0) _ rfl qq_x Tryz.underlying257 rfl qq_7) rfl ?_;exact⟨qq_2,qq_b⟩
def Qav.f(a0_0:ByteArray)(a0_1:Int)(a0_2:Int):Option (ByteArray × Int × Int):=if a0_0.toList=([]:List UInt8)then(some (a0_0,a0_1,a0_2))else((Qaw.f a0_0 a0_1 a0_2 3).bind fun bt685=>(some (bt685.1,bt685.2.1,bt685.2.2)))
theorem Qav.calls(a:ByteArray)(c:Int)(d:Int)(r1:ByteArray)(r2:Int)(r3:Int)(w:World)(h:Qav.f a c d=some (r1,r2,r3)) :
  Calls Tryz.prog 189 #[.agg #[.string a,.int .i64 c,.int .i64 d]] w fun e w'=>e=.returned (.agg #[.string r1,.int .i64 r2,.int .i64 r3])∧Below w.heap.size w w':=by
 have hu257:=Tryz.underlying257;have HB:=QA (Below.refl w.heap.size w);have H:(if a.toList=([]:List UInt8)then(some (a,c,d))else((Qaw.f a c d 3).bind fun bt685=>(some (bt685.1,bt685.2.1,bt685.2.2))))=some (r1,r2,r3):=h;clear h
 by_cases c2:a.toList=([]:List UInt8)
 ·rw[if_pos c2]at H;have y:(a.toList == ([]:List UInt8))=true:=beq_iff_eq.mpr c2;have z:(a.toList != ([]:List UInt8))=false:=bne_eq_false_iff_eq.mpr c2;clear c2;simp only[Option.some.injEq,Prod.mk.injEq]at H;obtain⟨rfl,rfl,rfl⟩:=H
  go_enter Tryz.func189,Tryz.ntmps189
  go_wp2_with (first |((with_reducible refine Qft (N:=1) rfl ?_);refine qq_e 1 #[.string a,.int .i64 c,.int .i64 d] 257 ?_;intro b hg w3 hbox hb;have n_:=qn4 (Qfj qq_b hb) (hbox) (qq_s hg:w.heap.size≤b) (qq_s hg:w.heap.size≤b);clear HB;obtain⟨HB,k,s,t⟩:=n_;clear hb hbox hg) |((with_reducible refine Qft (N:=2) rfl ?_);refine qq_e 2 #[.string (⟨#[]⟩:ByteArray),.int .i64 0,.int .i64 0] 257 ?_;intro j hg w4 hbox hb;have n_:=qn7 (Qei (g:=b) (o:=.cells #[.string a,.int .i64 c,.int .i64 d] 257 (0,0)) qq_0 hb) (Qfj qq_b hb) (hbox) (qq_s hg:w.heap.size≤j) (qq_s hg:w.heap.size≤j) ((by rw[hg];exact Nat.ne_of_lt (Qdu (g:=b) (o:=.cells #[.string a,.int .i64 c,.int .i64 d] 257 (0,0)) qq_0):b≠j)) ((by rw[hg];exact Nat.ne_of_gt (Qdu (g:=b) (o:=.cells #[.string a,.int .i64 c,.int .i64 d] 257 (0,0)) qq_0):j≠b));clear k HB;obtain⟨k,HB,l,u,v,m,n⟩:=n_;clear hb hbox hg;have Y:=m.out;have Z:=n.out;obtain⟨J,K,L⟩:=qc3 k.out;have aa:=Qdw k.out;obtain⟨M,O,P⟩:=qc3 l.out;have ab:=Qdw l.out))
  refine bodyPost_ret (results_cell_row rfl _ _ j 257 #[.string a,.int .i64 c,.int .i64 d] (0,0) _ rfl qq_x Tryz.underlying257 rfl qq_7) rfl ?_;exact⟨qq_2,qq_b⟩
 ·rw[if_neg c2]at H;have y:(a.toList == ([]:List UInt8))=false:=beq_eq_false_iff_ne.mpr c2;have z:(a.toList != ([]:List UInt8))=true:=bne_iff_ne.mpr c2;replace H:=Option.bind_eq_some_iff.mp H;obtain⟨⟨p,q,r⟩,x,H⟩:=H;replace H:(some (p,q,r))=some (r1,r2,r3):=H;have A8:=QA x;clear x;simp only[Option.some.injEq,Prod.mk.injEq]at H;obtain⟨rfl,rfl,rfl⟩:=H
  go_enter Tryz.func189,Tryz.ntmps189
  go_wp2_with (first |((with_reducible refine Qft (N:=1) rfl ?_);refine qq_e 1 #[.string a,.int .i64 c,.int .i64 d] 257 ?_;intro b hg w9 hbox hb;have n_:=qn4 (Qfj qq_b hb) (hbox) (qq_s hg:w.heap.size≤b) (qq_s hg:w.heap.size≤b);clear HB;obtain⟨HB,k,s,t⟩:=n_;clear hb hbox hg) |((with_reducible refine Qft (N:=2) rfl ?_);refine qq_e 2 #[.string (⟨#[]⟩:ByteArray),.int .i64 0,.int .i64 0] 257 ?_;intro j hg ac hbox hb;have n_:=qn7 (Qei (g:=b) (o:=.cells #[.string a,.int .i64 c,.int .i64 d] 257 (0,0)) qq_0 hb) (Qfj qq_b hb) (hbox) (qq_s hg:w.heap.size≤j) (qq_s hg:w.heap.size≤j) ((by rw[hg];exact Nat.ne_of_lt (Qdu (g:=b) (o:=.cells #[.string a,.int .i64 c,.int .i64 d] 257 (0,0)) qq_0):b≠j)) ((by rw[hg];exact Nat.ne_of_gt (Qdu (g:=b) (o:=.cells #[.string a,.int .i64 c,.int .i64 d] 257 (0,0)) qq_0):j≠b));clear k HB;obtain⟨k,HB,l,u,v,m,n⟩:=n_;clear hb hbox hg;have T:=m.out;have U:=n.out;obtain⟨A,B,D⟩:=qc3 k.out;have W:=Qdw k.out) |((with_reducible refine Qij (f:=222) rfl ?_);refine Qgm (some 7) rfl rfl Tryz.func222 qq_7 rfl #[.agg #[.string a,.int .i64 c,.int .i64 d],.int .i64 3] rfl qq_1 ?_;(with_reducible refine(Qaw.calls a c d 3 p q r _ A8.out).mono ?_);rintro e ad ⟨rfl,hb⟩;refine⟨_,rfl,?_⟩;have n_:=qn3 (Qei (g:=b) (o:=.cells #[.string a,.int .i64 c,.int .i64 d] 257 (0,0)) qq_0 hb) (Qei (g:=j) (o:=.cells #[.string (⟨#[]⟩:ByteArray),.int .i64 0,.int .i64 0] 257 (0,0)) qq_0 hb) (Qfj qq_b hb);clear k l HB;obtain⟨k,l,HB⟩:=n_;(try clear hb);(try clear hb2);(try clear hk);(try clear hi);obtain⟨E,G,I⟩:=qc3 l.out;have X:=Qdw l.out))
  refine bodyPost_ret (results_cell_row rfl _ _ j 257 #[.string p,.int .i64 q,.int .i64 r] (0,0) _ rfl qq_x Tryz.underlying257 rfl qq_7) rfl ?_;exact⟨qq_2,qq_b⟩
def Qaz.j0:Nat→Int→Bool→ByteArray→Int→Int→Option (ByteArray × Int × Int × ByteArray)
 | 0,_,_,_,_,_=>none
 | k+1,x1,x12,x639000,x639001,x639002=>if x12=true then(some (x639000,x639001,x639002,(⟨#[]⟩:ByteArray)))else(if x1 > (x639000.size:Int)then(some (x639000,x639001,2,(⟨#[]⟩:ByteArray)))else(if 0≤x1 then(if x1≤(x639000.size:Int)then(some (x639000.extract (x1:Int).toNat x639000.size,wrap64 (x639001+x1),0,x639000.extract 0 (x1:Int).toNat))else(none))else(none)))
def Qaz.f(k:Nat)(a0_0:ByteArray)(a0_1:Int)(a0_2:Int)(a1:Int):Option (ByteArray × Int × Int × ByteArray):=if a0_2=0 then(Qaz.j0 k a1 (decide (a1≤0)) a0_0 a0_1 a0_2)else(Qaz.j0 k a1 true a0_0 a0_1 a0_2)
def Qaz.T6:Bool × List (List Nat × List Nat):=(true,[([],[]),([0],[0]),([],[]),([1,2],[1,2]),([],[]),([4],[4]),([],[]),([5,6],[5,6]),([3,7],[3,7]),([],[]),([9],[9]),([],[]),([10,11],[10,11]),([8,0,1,2,3,4,5,6,7,8],[8]),([12,13,0,1,2,3,4,5,6,7,8,9,10,11,12,13],[12])])
def Qaz.B6:List Nat:=[0,1,0,7,0,16,0,112,255,0,512,0,3584,511,16383]
theorem Qaz.tab6:rtab .any (Qhu Tryz.f223 6)=Qaz.T6:=by kernel_rfl
theorem Qaz.bits6:Qho Qaz.T6.2 Qaz.B6=true:=by kernel_rfl
theorem Qaz.calls (k:Nat) (j:ByteArray) (q:Int) (m:Int) (a1:Int) (r1:ByteArray) (r2:Int) (r3:Int) (r4:ByteArray) (w:World) (h:Qaz.f k j q m a1=some (r1,r2,r3,r4)) :
  Calls Tryz.prog 223 #[.agg #[.string j,.int .i64 q,.int .i64 m],.int .i64 a1] w fun e w'=>e=.returned (.tuple #[.agg #[.string r1,.int .i64 r2,.int .i64 r3],.string r4])∧Below w.heap.size w w':=by
 have hu257:=Tryz.underlying257;have HB:=QA (Below.refl w.heap.size w);have H:(if m=0 then(Qaz.j0 k a1 (decide (a1≤0)) j q m)else(Qaz.j0 k a1 true j q m))=some (r1,r2,r3,r4):=h;clear h;have E:=QA H;clear H
 go_enter Tryz.func223,Tryz.ntmps223
 go_upto_region 1 with(first |((with_reducible refine Qft (N:=2) rfl ?_);refine qq_e 2 #[.string j,.int .i64 q,.int .i64 m] 257 ?_;intro r hg w4 hbox hb;have n_:=qn4 (Qfj qq_b hb) (hbox) (qq_s hg:w.heap.size≤r) (qq_s hg:w.heap.size≤r);clear HB;obtain⟨HB,b,ak,al⟩:=n_;clear hb hbox hg) |((with_reducible refine Qft (N:=4) rfl ?_);refine qq_e 4 #[.string (⟨#[]⟩:ByteArray),.int .i64 0,.int .i64 0] 257 ?_;intro c hg w5 hbox hb;have n_:=qn7 (Qei (g:=r) (o:=.cells #[.string j,.int .i64 q,.int .i64 m] 257 (0,0)) qq_0 hb) (Qfj qq_b hb) (hbox) (qq_s hg:w.heap.size≤c) (qq_s hg:w.heap.size≤c) ((by rw[hg];exact Nat.ne_of_lt (Qdu (g:=r) (o:=.cells #[.string j,.int .i64 q,.int .i64 m] 257 (0,0)) qq_0):r≠c)) ((by rw[hg];exact Nat.ne_of_gt (Qdu (g:=r) (o:=.cells #[.string j,.int .i64 q,.int .i64 m] 257 (0,0)) qq_0):c≠r));clear b HB;obtain⟨b,HB,d,am,an,a,l⟩:=n_;clear hb hbox hg))
 (try simp only[Act.put,List.setIfInBounds_toArray,List.set_cons_zero,List.set_cons_succ])
 go_cut [12] (fun aj wc=>∃(kq:Nat) (u:Bool),aj=.bool u∧Aside0 (Qaz.j0 kq a1 u j q m=some (r1,r2,r3,r4))∧Aside0 (kq≤k)∧Aside0 (wc.heap[r]? = some (.cells #[.string j,.int .i64 q,.int .i64 m] 257 (0,0)))∧Aside0 (wc.heap[c]? = some (.cells #[.string (⟨#[]⟩:ByteArray),.int .i64 0,.int .i64 0] 257 (0,0)))∧Aside0 (Below w.heap.size w wc))
 case first =>
  have H:=E.out;clear E
  by_cases c6:m=0
  ·rw[if_pos c6]at H;have t:(m == 0)=true:=beq_iff_eq.mpr c6;have G:(m != 0)=false:=bne_eq_false_iff_eq.mpr c6;clear c6
   (first|rw[t] |(simp only[Qgo,Qgp];rw[t])|skip)
   have H':=QA H;clear H;have aH:=a.out;have aI:=l.out;obtain⟨I,J,L⟩:=qc3 b.out;have P:=Qdw b.out;go_wp2
   go_meet
   case rel=>exact⟨_,(decide (a1≤0)),qq_4,H',⟨by first|omega|exact Nat.le_refl _⟩,⟨by(with_reducible repeat(first|apply Qeh|apply Qeg|apply Qef));exact b.out⟩,⟨by(with_reducible repeat(first|apply Qeh|apply Qeg|apply Qef));exact d.out⟩,⟨qq_b⟩⟩
  ·rw[if_neg c6]at H;have t:(m == 0)=false:=beq_eq_false_iff_ne.mpr c6;have G:(m != 0)=true:=bne_iff_ne.mpr c6
   (first|rw[t] |(simp only[Qgo,Qgp];rw[t])|skip)
   have H':=QA H;clear H;have aJ:=a.out;have aK:=l.out;obtain⟨A,B,D⟩:=qc3 b.out;have M:=Qdw b.out;go_wp2
   go_meet
   case rel=>exact⟨_,(true),qq_4,H',⟨by first|omega|exact Nat.le_refl _⟩,⟨by(with_reducible repeat(first|apply Qeh|apply Qeg|apply Qef));exact b.out⟩,⟨by(with_reducible repeat(first|apply Qeh|apply Qeg|apply Qef));exact d.out⟩,⟨qq_b⟩⟩
 case rest =>
  clear E
  try clear c6
  try clear t
  try clear G
  try clear A
  try clear B
  try clear D
  try clear I
  try clear J
  try clear L
  try clear M
  try clear P
  obtain⟨kq,u,rfl,HA,HJ2,b,d,HB⟩:=hcut
  cases kq with
  | zero=>exact absurd HA.out (by simp[Qaz.j0])
  | succ kj2 =>
   have H:=HA.out;clear HA;simp only[Qaz.j0]at H
   by_cases z:u=true
   ·subst z;rw[if_pos rfl]at H;simp only[Option.some.injEq,Prod.mk.injEq]at H;obtain⟨rfl,rfl,rfl,rfl⟩:=H;have ao:=a.out;have ap:=l.out;obtain⟨T,U,W⟩:=qc3 b.out;have aq:=Qdw b.out;obtain⟨X,Y,Z⟩:=qc3 d.out;have ar:=Qdw d.out;go_wp2;refine bodyPost_ret (Qek rfl _ _ c 257 #[.string j,.int .i64 q,.int .i64 m] (0,0) _ rfl qq_x Tryz.underlying257 rfl qq_7) rfl ?_;exact⟨qq_2,qq_b⟩
   ·replace z:=Bool.eq_false_iff.mpr z;subst z;rw[if_neg (show ¬(false=true)by decide)]at H
    by_cases v:a1 > (j.size:Int)
    ·rw[if_pos v]at H;have O:decide ((j.size:Int)<a1)=true:=decide_eq_true v;clear v;simp only[Option.some.injEq,Prod.mk.injEq]at H;obtain⟨rfl,rfl,rfl,rfl⟩:=H;have au:=a.out;have av:=l.out;obtain⟨aa,ab,ac⟩:=qc3 b.out;have aw:=Qdw b.out;obtain⟨ad,ae,af⟩:=qc3 d.out;have ax:=Qdw d.out;go_wp2;refine bodyPost_ret (Qek rfl _ _ c 257 #[.string j,.int .i64 q,.int .i64 2] (0,0) _ rfl (by(with_reducible repeat(first|apply Qeh|apply Qeg|apply Qef));refine Qfp (cs:=#[.string j,.int .i64 q,.int .i64 0]) ?_ 2 _ rfl;(with_reducible repeat(first|apply Qeh|apply Qeg|apply Qef));refine Qfp (cs:=#[.string j,.int .i64 0,.int .i64 0]) ?_ 1 _ rfl;(with_reducible repeat(first|apply Qeh|apply Qeg|apply Qef));refine Qfp (cs:=#[.string (⟨#[]⟩:ByteArray),.int .i64 0,.int .i64 0]) ?_ 0 _ rfl;(with_reducible repeat(first|apply Qeh|apply Qeg|apply Qef));refine Qdt ?_ l.out _;(with_reducible repeat(first|apply Qeh|apply Qeg|apply Qef));exact d.out) Tryz.underlying257 rfl qq_7) rfl ?_;exact⟨qq_2,qq_b⟩
    ·rw [if_neg v]at H;have O:decide ((j.size:Int)<a1)=false:=decide_eq_false v;clear v
     by_cases x:0≤a1
     ·rw[if_pos x]at H;have ay:=eq_true x;have az:=decide_eq_true x;clear x
      by_cases y:a1≤(j.size:Int)
      ·rw[if_pos y]at H;have aA:=eq_true y;have aB:=decide_eq_true y;clear y;have aC:=eq_true (of_decide_eq_true qq_3:0≤a1);have aD:=eq_true (of_decide_eq_true qq_3:a1≤(j.size:Int));simp only[Option.some.injEq,Prod.mk.injEq]at H;obtain⟨rfl,rfl,rfl,rfl⟩:=H;have aE:=a.out;have aF:=l.out;obtain⟨ag,ah,ai⟩:=qc3 b.out;have aG:=Qdw b.out
       try go_wp2
       have n_:=qn3 (Qeg b.out) (Qeg d.out) (Qfq HB.out);clear b d HB;obtain⟨b,d,HB⟩:=n_;refine Qge (n:=15) (S:=fun w'=>w'.cell? ⟨r,0,none⟩=some (.string j)∧w'.cell? ⟨r,1,none⟩=some (.int .i64 q)∧w'.cell? ⟨r,2,none⟩=some (.int .i64 m)) (ds:=[]) (bm 15 0) qq_7 rfl rfl ⟨(Qdv b.out 0).trans rfl,(Qdv b.out 1).trans rfl,(Qdv b.out 2).trans rfl⟩ (fun s=>?_);refine Qhs Qaz.tab6 Qaz.bits6 (fun HT_ HW_=>?_);generalize wc.drew=w25 at b d HB s ⊢;refine pz_ (i:=0) (N:=some 21) (bm 15 1) (Qhk HT_.out qq_7) ?_;refine pz_ (i:=2) (N:=some 23) (bm 15 5) (Qhk HT_.out qq_7) ?_;refine pz_ (i:=4) (N:=some 25) (bm 15 21) (Qhk HT_.out qq_7) ?_;refine pz_ (i:=6) (N:=some 27) (bm 15 85) (Qhk HT_.out qq_7) ?_;refine pz_ (i:=9) (N:=some 30) (bm 15 597) (Qhk HT_.out qq_7) ?_;refine pz_ (i:=11) (N:=some 32) (bm 15 2645) (Qhk HT_.out qq_7) ?_;refine tz_ (i:=1) (N:=some 22) (bm 15 2647) (Qhr HT_.out HW_.out qq_7) s ?_;refine pz_ (i:=3) (N:=some 24) (bm 15 2655) (Qhk HT_.out qq_7) ?_;refine tz_ (i:=5) (N:=some 26) (bm 15 2687) (Qhr HT_.out HW_.out qq_7) s ?_;refine pz_ (i:=7) (N:=some 28) (bm 15 2815) (Qhk HT_.out qq_7) ?_;refine pz_ (i:=8) (N:=some 29) (bm 15 3071) (Qhk HT_.out qq_7) ?_;refine tz_ (i:=10) (N:=some 31) (bm 15 4095) (Qhr HT_.out HW_.out qq_7) s ?_;refine pz_ (i:=12) (N:=some 33) (bm 15 8191) (Qhk HT_.out qq_7) ?_;refine one_ (i:=13) (N:=none) (bm 15 16383) rfl rfl (Qhl HT_.out qq_7) (by decide) (fun K hK=>?_);have hs26:w25.cell? ⟨c,0,none⟩=some (.string (⟨#[]⟩:ByteArray)):=(Qdv d.out 0).trans rfl;have hfs26:=Qdw d.out 0;have hns26_0:=a.out;have hms26_0:=l.out;have hs27:w25.cell? ⟨c,1,none⟩=some (.int .i64 0):=(Qdv d.out 1).trans rfl;have hfs27:=Qdw d.out 1;have hns27_0:=a.out;have hms27_0:=l.out;have hs28:w25.cell? ⟨c,2,none⟩=some (.int .i64 0):=(Qdv d.out 2).trans rfl;have hfs28:=Qdw d.out 2;have hns28_0:=a.out;have hms28_0:=l.out;refine skip_ (w1:=?_) (by rfl) rfl ?_ ?_;rotate_left
       ·go_simp;rfl
       refine hK.out _ _ ⟨((Qfo (p:=⟨c,_,none⟩) a.out _).trans (((Qfo (p:=⟨c,_,none⟩) a.out _).trans (((Qfo (p:=⟨c,_,none⟩) a.out _).trans (s.1)))))),((Qfo (p:=⟨c,_,none⟩) a.out _).trans (((Qfo (p:=⟨c,_,none⟩) a.out _).trans (((Qfo (p:=⟨c,_,none⟩) a.out _).trans (s.2.1)))))),((Qfo (p:=⟨c,_,none⟩) a.out _).trans (((Qfo (p:=⟨c,_,none⟩) a.out _).trans (((Qfo (p:=⟨c,_,none⟩) a.out _).trans (s.2.2))))))⟩ (fun s=>?_);clear hK K;refine pz_ (i:=14) (N:=some 5) (bm 15 32767) (Qhk HT_.out qq_7) ?_;refine Qgh (Qhn HT_.out qq_7) ?_
       try go_wp2
       refine bodyPost_ret (Qek rfl _ _ c 257 #[.string (j.extract (a1:Int).toNat j.size),.int .i64 (wrap64 (q+a1)),.int .i64 0] (0,0) _ rfl qq_x Tryz.underlying257 rfl qq_7) rfl ?_;exact⟨qq_2,qq_b⟩
      ·rw[if_neg y]at H;exact absurd H (by simp)
     ·rw[if_neg x]at H;exact absurd H (by simp)
def Qax.f(k:Nat)(a0_0:ByteArray)(a0_1:Int)(a0_2:Int)(a1:Int):Option (ByteArray × Int × Int × Int):=(Qaz.f k a0_0 a0_1 a0_2 a1).bind fun bt642=>((Qba.f k bt642.2.2.2).bind fun t647=>(some (bt642.1,bt642.2.1,bt642.2.2.1,t647)))
theorem Qax.calls(k:Nat)(r:ByteArray)(s:Int)(t:Int)(a1:Int)(r1:ByteArray)(r2:Int)(r3:Int)(r4:Int)(w:World)(h:Qax.f k r s t a1=some (r1,r2,r3,r4)) :
  Calls Tryz.prog 221 #[.agg #[.string r,.int .i64 s,.int .i64 t],.int .i64 a1] w fun e w'=>e=.returned (.tuple #[.agg #[.string r1,.int .i64 r2,.int .i64 r3],.int .u64 r4])∧Below w.heap.size w w':=by
 have hu257:=Tryz.underlying257;have HB:=QA (Below.refl w.heap.size w);have H:((Qaz.f k r s t a1).bind fun bt642=>((Qba.f k bt642.2.2.2).bind fun D=>(some (bt642.1,bt642.2.1,bt642.2.2.1,D))))=some (r1,r2,r3,r4):=h;clear h;replace H:=Option.bind_eq_some_iff.mp H;obtain⟨⟨u,v,A,E⟩,P,H⟩:=H;replace H:((Qba.f k E).bind fun D=>(some (u,v,A,D)))=some (r1,r2,r3,r4):=H;have A3:=QA P;clear P;obtain⟨D,T,H⟩:=Option.bind_eq_some_iff.mp H;have A4:=QA T;clear T;simp only[Option.some.injEq,Prod.mk.injEq]at H;obtain⟨rfl,rfl,rfl,rfl⟩:=H
 go_enter Tryz.func221,Tryz.ntmps221
 try go_wp2_with (first |((with_reducible refine Qft (N:=2) rfl ?_);refine qq_e 2 #[.string r,.int .i64 s,.int .i64 t] 257 ?_;intro m hg w5 hbox hb;have n_:=qn4 (Qfj qq_b hb) (hbox) (qq_s hg:w.heap.size≤m) (qq_s hg:w.heap.size≤m);clear HB;obtain⟨HB,j,ab,ac⟩:=n_;clear hb hbox hg) |((with_reducible refine Qft (N:=4) rfl ?_);refine qq_e 4 #[.string (⟨#[]⟩:ByteArray),.int .i64 0,.int .i64 0] 257 ?_;intro c hg w6 hbox hb;have n_:=qn7 (Qei (g:=m) (o:=.cells #[.string r,.int .i64 s,.int .i64 t] 257 (0,0)) qq_0 hb) (Qfj qq_b hb) (hbox) (qq_s hg:w.heap.size≤c) (qq_s hg:w.heap.size≤c) ((by rw[hg];exact Nat.ne_of_lt (Qdu (g:=m) (o:=.cells #[.string r,.int .i64 s,.int .i64 t] 257 (0,0)) qq_0):m≠c)) ((by rw[hg];exact Nat.ne_of_gt (Qdu (g:=m) (o:=.cells #[.string r,.int .i64 s,.int .i64 t] 257 (0,0)) qq_0):c≠m));clear j HB;obtain⟨j,HB,d,ad,ae,x,y⟩:=n_;clear hb hbox hg;have am:=x.out;have an:=y.out;obtain⟨Y,Z,aa⟩:=qc3 j.out;have ao:=Qdw j.out) |((with_reducible refine Qij (f:=223) rfl ?_);refine Qgm (some 11) rfl rfl Tryz.func223 qq_7 rfl #[.agg #[.string r,.int .i64 s,.int .i64 t],.int .i64 a1] rfl qq_1 ?_;(with_reducible refine(Qaz.calls k r s t a1 u v A E _ A3.out).mono ?_);rintro e w9 ⟨rfl,hb⟩;refine⟨_,rfl,?_⟩;have n_:=qn3 (Qei (g:=m) (o:=.cells #[.string r,.int .i64 s,.int .i64 t] 257 (0,0)) qq_0 hb) (Qei (g:=c) (o:=.cells #[.string (⟨#[]⟩:ByteArray),.int .i64 0,.int .i64 0] 257 (0,0)) qq_0 hb) (Qfj qq_b hb);clear j d HB;obtain⟨j,d,HB⟩:=n_;(try clear hb);(try clear hb2);(try clear hk);(try clear hi)) |((with_reducible refine Qft (N:=6) rfl ?_);refine qq_e 6 #[.string (⟨#[]⟩:ByteArray),.int .i64 0,.int .i64 0] 257 ?_;intro a hg G hbox hb;have n_:=qn10 (Qei (g:=m) (o:=.cells #[.string r,.int .i64 s,.int .i64 t] 257 (0,0)) qq_0 hb) (Qei (g:=c) (o:=.cells #[.string (⟨#[]⟩:ByteArray),.int .i64 0,.int .i64 0] 257 (0,0)) qq_0 hb) (Qfj qq_b hb) (hbox) (qq_s hg:w.heap.size≤a) (qq_s hg:w.heap.size≤a) ((by rw[hg];exact Nat.ne_of_lt (Qdu (g:=m) (o:=.cells #[.string r,.int .i64 s,.int .i64 t] 257 (0,0)) qq_0):m≠a)) ((by rw[hg];exact Nat.ne_of_gt (Qdu (g:=m) (o:=.cells #[.string r,.int .i64 s,.int .i64 t] 257 (0,0)) qq_0):a≠m)) ((by rw[hg];exact Nat.ne_of_lt (Qdu (g:=c) (o:=.cells #[.string (⟨#[]⟩:ByteArray),.int .i64 0,.int .i64 0] 257 (0,0)) qq_0):c≠a)) ((by rw[hg];exact Nat.ne_of_gt (Qdu (g:=c) (o:=.cells #[.string (⟨#[]⟩:ByteArray),.int .i64 0,.int .i64 0] 257 (0,0)) qq_0):a≠c));clear j d HB;obtain⟨j,d,HB,l,af,ag,z,I,q,b⟩:=n_;clear hb hbox hg;have ah:=I.out;have ai:=z.out;have aj:=b.out;have ak:=q.out;obtain⟨U,W,X⟩:=qc3 l.out;have al:=Qdw l.out))
 have J:Aside0 ((((G.setCell ⟨a,0,none⟩ (.string u)).setCell ⟨a,1,none⟩ (.int .i64 v)).setCell ⟨a,2,none⟩ (.int .i64 A)).heap[m]? = some (.cells #[.string r,.int .i64 s,.int .i64 t] 257 (0,0))):=⟨by(with_reducible repeat(first|apply Qeh|apply Qeg|apply Qef));refine Qdt ?_ z.out _;(with_reducible repeat(first|apply Qeh|apply Qeg|apply Qef));refine Qdt ?_ z.out _;(with_reducible repeat(first|apply Qeh|apply Qeg|apply Qef));refine Qdt ?_ z.out _;(with_reducible repeat(first|apply Qeh|apply Qeg|apply Qef));exact j.out⟩;have L:Aside0 ((((G.setCell ⟨a,0,none⟩ (.string u)).setCell ⟨a,1,none⟩ (.int .i64 v)).setCell ⟨a,2,none⟩ (.int .i64 A)).heap[c]? = some (.cells #[.string (⟨#[]⟩:ByteArray),.int .i64 0,.int .i64 0] 257 (0,0))):=⟨by(with_reducible repeat(first|apply Qeh|apply Qeg|apply Qef));refine Qdt ?_ q.out _;(with_reducible repeat(first|apply Qeh|apply Qeg|apply Qef));refine Qdt ?_ q.out _;(with_reducible repeat(first|apply Qeh|apply Qeg|apply Qef));refine Qdt ?_ q.out _;(with_reducible repeat(first|apply Qeh|apply Qeg|apply Qef));exact d.out⟩;have M:Aside0 ((((G.setCell ⟨a,0,none⟩ (.string u)).setCell ⟨a,1,none⟩ (.int .i64 v)).setCell ⟨a,2,none⟩ (.int .i64 A)).heap[a]? = some (.cells #[.string u,.int .i64 v,.int .i64 A] 257 (0,0))):=⟨by(with_reducible repeat(first|apply Qeh|apply Qeg|apply Qef));refine Qfp (cs:=#[.string u,.int .i64 v,.int .i64 0]) ?_ 2 _ rfl;(with_reducible repeat(first|apply Qeh|apply Qeg|apply Qef));refine Qfp (cs:=#[.string u,.int .i64 0,.int .i64 0]) ?_ 1 _ rfl;(with_reducible repeat(first|apply Qeh|apply Qeg|apply Qef));refine Qfp (cs:=#[.string (⟨#[]⟩:ByteArray),.int .i64 0,.int .i64 0]) ?_ 0 _ rfl;(with_reducible repeat(first|apply Qeh|apply Qeg|apply Qef));exact l.out⟩;have O:Aside0 (Below w.heap.size w (((G.setCell ⟨a,0,none⟩ (.string u)).setCell ⟨a,1,none⟩ (.int .i64 v)).setCell ⟨a,2,none⟩ (.int .i64 A))):=⟨qq_b⟩
 (try clear j)
 (try clear d)
 (try clear l)
 (try clear HB)
 generalize (((G.setCell ⟨a,0,none⟩ (.string u)).setCell ⟨a,1,none⟩ (.int .i64 v)).setCell ⟨a,2,none⟩ (.int .i64 A))=w14 at J L M O ⊢;have j:=J;have d:=L;have l:=M;have HB:=O;clear J L M O;have n_:=qn4 (Qeg j.out) (Qeg d.out) (Qeg l.out) (Qfq HB.out);clear j d l HB;obtain⟨j,d,l,HB⟩:=n_;refine Qge (n:=5) (S:=fun w'=>w'.cell? ⟨a,0,none⟩=some (.string u)∧w'.cell? ⟨a,1,none⟩=some (.int .i64 v)∧w'.cell? ⟨a,2,none⟩=some (.int .i64 A)) (ds:=[]) #[false,false,false,false,false] qq_7 rfl rfl ⟨(Qdv l.out 0).trans rfl,(Qdv l.out 1).trans rfl,(Qdv l.out 2).trans rfl⟩ (fun B=>?_);generalize w14.drew=w15 at j d l HB B ⊢;refine pz_ (i:=1) (N:=some 15) #[false,true,false,false,false] qq_7 ?_;refine tz_ (i:=0) (N:=some 14) #[true,true,false,false,false] qq_7 B ?_;refine one_ (i:=2) (N:=some 16) #[true,true,true,false,false] rfl rfl qq_7 (by decide) (fun K hK=>?_);refine Qgl Tryz.func107 qq_7 rfl #[.string E] (by rfl) rfl rfl qq_1 ?_;with_reducible refine(Qba.calls k E D _ A4.out).mono ?_
 rintro e w' ⟨rfl,⟨nd,rfl⟩⟩;refine⟨_,rfl,?_⟩;refine hK.out _ _ ⟨(Qdv l.out 0).trans rfl,(Qdv l.out 1).trans rfl,(Qdv l.out 2).trans rfl⟩ (fun B=>?_);clear hK K;refine nzp_ 16 ?_;refine one_ (i:=3) (N:=none) #[true,true,true,true,false] rfl rfl qq_7 (by decide) (fun K hK=>?_);have hs16:w15.cell? ⟨c,0,none⟩=some (.string (⟨#[]⟩:ByteArray)):=(Qdv d.out 0).trans rfl;have hfs16:=Qdw d.out 0;have hns16_0:=x.out;have hns16_2:=b.out;have hms16_0:=y.out;have hms16_2:=q.out;have hs17:w15.cell? ⟨c,1,none⟩=some (.int .i64 0):=(Qdv d.out 1).trans rfl;have hfs17:=Qdw d.out 1;have hns17_0:=x.out;have hns17_2:=b.out;have hms17_0:=y.out;have hms17_2:=q.out;have hs18:w15.cell? ⟨c,2,none⟩=some (.int .i64 0):=(Qdv d.out 2).trans rfl;have hfs18:=Qdw d.out 2;have hns18_0:=x.out;have hns18_2:=b.out;have hms18_0:=y.out;have hms18_2:=q.out;refine skip_ (w1:=?_) (by rfl) rfl ?_ ?_;rotate_left
 ·go_simp;rfl
 refine hK.out _ _ ⟨((Qfo (p:=⟨c,_,none⟩) b.out _).trans (((Qfo (p:=⟨c,_,none⟩) b.out _).trans (((Qfo (p:=⟨c,_,none⟩) b.out _).trans (B.1)))))),((Qfo (p:=⟨c,_,none⟩) b.out _).trans (((Qfo (p:=⟨c,_,none⟩) b.out _).trans (((Qfo (p:=⟨c,_,none⟩) b.out _).trans (B.2.1)))))),((Qfo (p:=⟨c,_,none⟩) b.out _).trans (((Qfo (p:=⟨c,_,none⟩) b.out _).trans (((Qfo (p:=⟨c,_,none⟩) b.out _).trans (B.2.2))))))⟩ (fun B=>?_);clear hK K;refine pz_ (i:=4) (N:=some 5) #[true,true,true,true,true] qq_7 ?_;refine Qgh qq_7 ?_
 try go_wp2
 refine bodyPost_ret (Qek rfl _ _ c 257 #[.string u,.int .i64 v,.int .i64 A] (0,0) _ rfl qq_x Tryz.underlying257 rfl qq_7) rfl ?_;exact⟨qq_2,qq_b⟩
mutual
def Qbb.l0:Nat→Int→Int→Int→ByteArray→Int→Int→Option (ByteArray × Int × Int × Int)
 | 0,_,_,_,_,_,_=>none
 | k+1,x4,x5,x9,x651000,x651001,x651002=>if x9<10 then((Qax.f k x651000 x651001 x651002 1).bind fun bt652=>(if bt652.2.2.1=0 then(if x9=9 then(Qbb.j1 k x4 x5 x9 bt652.2.2.2 x9 (decide (bt652.2.2.2 > 1)) bt652.1 bt652.2.1 bt652.2.2.1)else(Qbb.j1 k x4 x5 x9 bt652.2.2.2 x9 false bt652.1 bt652.2.1 bt652.2.2.1))else(some (bt652.1,bt652.2.1,bt652.2.2.1,0))))else(some (x651000,x651001,x651002,x4))
def Qbb.j1:Nat→Int→Int→Int→Int→Int→Bool→ByteArray→Int→Int→Option (ByteArray × Int × Int × Int)
 | 0,_,_,_,_,_,_,_,_,_=>none
 | k+1,x4,x5,x6,x8,x9,x27,x651000,x651001,x651002=>if x27=true then((Qaw.f x651000 x651001 x651002 3).bind fun bt657=>(some (bt657.1,bt657.2.1,bt657.2.2,0)))else(if x8≥128 then(Qbb.l0 k (IntKind.u64.wrap (x4+(IntKind.u64.wrap ((Int.tmod x8 128)*x5)))) (IntKind.u64.wrap (x5*128)) (wrap64 (x9+1)) x651000 x651001 x651002)else(if x8=0 then(if x6 > 0 then((Qaw.f x651000 x651001 x651002 4).bind fun bt660=>(some (bt660.1,bt660.2.1,bt660.2.2,0)))else(some (x651000,x651001,x651002,IntKind.u64.wrap (x4+(IntKind.u64.wrap ((Int.tmod x8 128)*x5))))))else(some (x651000,x651001,x651002,IntKind.u64.wrap (x4+(IntKind.u64.wrap ((Int.tmod x8 128)*x5)))))))
end
def Qbb.f(k:Nat)(a0_0:ByteArray)(a0_1:Int)(a0_2:Int):Option (ByteArray × Int × Int × Int):=Qbb.l0 k 0 1 0 a0_0 a0_1 a0_2
theorem Qbb.calls (k:Nat) (I:ByteArray) (J:Int) (K:Int) (r1:ByteArray) (r2:Int) (r3:Int) (r4:Int) (w:World) (h:Qbb.f k I J K=some (r1,r2,r3,r4)) :
  Calls Tryz.prog 187 #[.agg #[.string I,.int .i64 J,.int .i64 K]] w fun e w'=>e=.returned (.tuple #[.agg #[.string r1,.int .i64 r2,.int .i64 r3],.int .u64 r4])∧Below w.heap.size w w':=by
 have hu257:=Tryz.underlying257;have HB:=QA (Below.refl w.heap.size w);have H:(Qbb.l0 k 0 1 0 I J K)=some (r1,r2,r3,r4):=h;clear h;have H':=QA H;clear H
 go_enter Tryz.func187,Tryz.ntmps187
 go_wp2_with (first |((with_reducible refine Qft (N:=1) rfl ?_);refine qq_e 1 #[.string I,.int .i64 J,.int .i64 K] 257 ?_;intro v hg w2 hbox hb;have n_:=qn4 (Qfj qq_b hb) (hbox) (qq_s hg:w.heap.size≤v) (qq_s hg:w.heap.size≤v);clear HB;obtain⟨HB,b,bD,bE⟩:=n_;clear hb hbox hg) |((with_reducible refine Qft (N:=2) rfl ?_);refine qq_e 2 #[.string (⟨#[]⟩:ByteArray),.int .i64 0,.int .i64 0] 257 ?_;intro r hg w3 hbox hb;have n_:=qn7 (Qei (g:=v) (o:=.cells #[.string I,.int .i64 J,.int .i64 K] 257 (0,0)) qq_0 hb) (Qfj qq_b hb) (hbox) (qq_s hg:w.heap.size≤r) (qq_s hg:w.heap.size≤r) ((by rw[hg];exact Nat.ne_of_lt (Qdu (g:=v) (o:=.cells #[.string I,.int .i64 J,.int .i64 K] 257 (0,0)) qq_0):v≠r)) ((by rw[hg];exact Nat.ne_of_gt (Qdu (g:=v) (o:=.cells #[.string I,.int .i64 J,.int .i64 K] 257 (0,0)) qq_0):r≠v));clear b HB;obtain⟨b,HB,l,bF,bG,B,m⟩:=n_;clear hb hbox hg))
 go_loopg [4,5,9] k (fun kq v4 v5 v9 w'=>∃(O:Int) (L:Int) (A:Int) (d:ByteArray) (c:Int) (a:Int) (q:ByteArray) (n:Int) (j:Int),v4=.int .u64 O∧v5=.int .u64 L∧v9=.int .i64 A∧Aside0 (Qbb.l0 kq O L A d c a=some (r1,r2,r3,r4))∧Aside0 (kq≤k)∧Aside0 (w'.heap[v]? = some (.cells #[.string d,.int .i64 c,.int .i64 a] 257 (0,0)))∧Aside0 (w'.heap[r]? = some (.cells #[.string q,.int .i64 n,.int .i64 j] 257 (0,0)))∧Aside0 (Below w.heap.size w w'))
 case atStart=>exact⟨(0),(1),(0),(I),(J),(K),((⟨#[]⟩:ByteArray)),(0),(0),qq_4,qq_4,qq_4,H',⟨Nat.le_refl _⟩,⟨by(with_reducible repeat(first|apply Qeh|apply Qeg|apply Qef));exact b.out⟩,⟨by(with_reducible repeat(first|apply Qeh|apply Qeg|apply Qef));exact l.out⟩,⟨qq_b⟩⟩
 case round =>
  clear H';obtain⟨O,L,A,d,c,a,q,n,j,rfl,rfl,rfl,HA,HK1,b,l,HB⟩:=hrel
  cases gk with
  | zero=>exact absurd HA.out (by simp[Qbb.l0])
  | succ k1 =>
   have H:=HA.out;clear HA;simp only[Qbb.l0]at H
   by_cases c4:A<10
   ·rw [if_pos c4]at H;have am:=decide_eq_true c4;clear c4;replace H:=Option.bind_eq_some_iff.mp H;obtain⟨⟨u,y,x,E⟩,aF,H⟩:=H;replace H:(if x=0 then(if A=9 then(Qbb.j1 k1 O L A E A (decide (E > 1)) u y x)else(Qbb.j1 k1 O L A E A false u y x))else(some (u,y,x,0)))=some (r1,r2,r3,r4):=H;have A5:=QA aF;clear aF
    by_cases c6:x=0
    ·rw [if_pos c6]at H;have an:(x == 0)=true:=beq_iff_eq.mpr c6;have ao:(x != 0)=false:=bne_eq_false_iff_eq.mpr c6;clear c6;have ap:=QA H;clear H;have cx:=B.out;have cy:=m.out;obtain⟨aq,ar,au⟩:=qc3 b.out;have aG:=Qdw b.out
     go_upto_region 10 with(first |((with_reducible refine Qij (f:=221) rfl ?_);refine Qgm (some 14) rfl rfl Tryz.func221 qq_7 rfl #[.agg #[.string d,.int .i64 c,.int .i64 a],.int .i64 1] rfl qq_1 ?_;(with_reducible refine(Qax.calls k1 d c a 1 u y x E _ A5.out).mono ?_);rintro e cz ⟨rfl,hb⟩;refine⟨_,rfl,?_⟩;have n_:=qn3 (Qei (g:=v) (o:=.cells #[.string d,.int .i64 c,.int .i64 a] 257 (0,0)) qq_0 hb) (Qei (g:=r) (o:=.cells #[.string q,.int .i64 n,.int .i64 j] 257 (0,0)) qq_0 hb) (Qfj qq_b hb);clear b l HB;obtain⟨b,l,HB⟩:=n_;(try clear hb);(try clear hb2);(try clear hk);(try clear hi)) |((with_reducible refine Qft (N:=7) rfl ?_);refine qq_e 7 #[.string (⟨#[]⟩:ByteArray),.int .i64 0,.int .i64 0] 257 ?_;intro z hg cA hbox hb;have n_:=qn10 (Qei (g:=v) (o:=.cells #[.string d,.int .i64 c,.int .i64 a] 257 (0,0)) qq_0 hb) (Qei (g:=r) (o:=.cells #[.string q,.int .i64 n,.int .i64 j] 257 (0,0)) qq_0 hb) (Qfj qq_b hb) (hbox) (qq_s hg:w.heap.size≤z) (qq_s hg:w.heap.size≤z) ((by rw[hg];exact Nat.ne_of_lt (Qdu (g:=v) (o:=.cells #[.string d,.int .i64 c,.int .i64 a] 257 (0,0)) qq_0):v≠z)) ((by rw[hg];exact Nat.ne_of_gt (Qdu (g:=v) (o:=.cells #[.string d,.int .i64 c,.int .i64 a] 257 (0,0)) qq_0):z≠v)) ((by rw[hg];exact Nat.ne_of_lt (Qdu (g:=r) (o:=.cells #[.string q,.int .i64 n,.int .i64 j] 257 (0,0)) qq_0):r≠z)) ((by rw[hg];exact Nat.ne_of_gt (Qdu (g:=r) (o:=.cells #[.string q,.int .i64 n,.int .i64 j] 257 (0,0)) qq_0):z≠r));clear b l HB;obtain⟨b,l,HB,G,ax,ay,s,t,p,D⟩:=n_;clear hb hbox hg;have bH:=t.out;have bI:=s.out;have bJ:=D.out;have bK:=p.out;obtain⟨ag,ah,ai⟩:=qc3 G.out;have az:=Qdw G.out;obtain⟨aj,ak,al⟩:=qc3 b.out;have aA:=Qdw b.out))
     (try simp only[Act.put,List.setIfInBounds_toArray,List.set_cons_zero,List.set_cons_succ])
     go_cut [27] (fun bA wc=>∃(kq:Nat) (T:Bool),bA=.bool T∧Aside0 (Qbb.j1 kq O L A E A T u y x=some (r1,r2,r3,r4))∧Aside0 (kq≤k1)∧Aside0 (wc.heap[v]? = some (.cells #[.string u,.int .i64 y,.int .i64 x] 257 (0,0)))∧Aside0 (wc.heap[r]? = some (.cells #[.string q,.int .i64 n,.int .i64 j] 257 (0,0)))∧Aside0 (wc.heap[z]? = some (.cells #[.string u,.int .i64 y,.int .i64 x] 257 (0,0)))∧Aside0 (Below w.heap.size w wc))
     case first =>
      have H:=ap.out;clear ap
      by_cases P:A=9
      ·rw[if_pos P]at H;have M:(A == 9)=true:=beq_iff_eq.mpr P;have ae:(A != 9)=false:=bne_eq_false_iff_eq.mpr P;clear P
       (first|rw[M] |(simp only[Qgo,Qgp];rw[M])|skip)
       have H':=QA H;clear H;go_wp2
       go_meet
       case rel=>exact⟨_,(decide (E > 1)),qq_4,H',⟨by have:=HK1.out;first|omega|exact Nat.le_refl _⟩,⟨by(with_reducible repeat(first|apply Qeh|apply Qeg|apply Qef));refine Qfp (cs:=#[.string u,.int .i64 y,.int .i64 a]) ?_ 2 _ rfl;(with_reducible repeat(first|apply Qeh|apply Qeg|apply Qef));refine Qfp (cs:=#[.string u,.int .i64 c,.int .i64 a]) ?_ 1 _ rfl;(with_reducible repeat(first|apply Qeh|apply Qeg|apply Qef));refine Qfp (cs:=#[.string d,.int .i64 c,.int .i64 a]) ?_ 0 _ rfl;(with_reducible repeat(first|apply Qeh|apply Qeg|apply Qef));refine Qdt ?_ s.out _;(with_reducible repeat(first|apply Qeh|apply Qeg|apply Qef));refine Qdt ?_ s.out _;(with_reducible repeat(first|apply Qeh|apply Qeg|apply Qef));refine Qdt ?_ s.out _;(with_reducible repeat(first|apply Qeh|apply Qeg|apply Qef));exact b.out⟩,⟨by(with_reducible repeat(first|apply Qeh|apply Qeg|apply Qef));refine Qdt ?_ m.out _;(with_reducible repeat(first|apply Qeh|apply Qeg|apply Qef));refine Qdt ?_ m.out _;(with_reducible repeat(first|apply Qeh|apply Qeg|apply Qef));refine Qdt ?_ m.out _;(with_reducible repeat(first|apply Qeh|apply Qeg|apply Qef));refine Qdt ?_ p.out _;(with_reducible repeat(first|apply Qeh|apply Qeg|apply Qef));refine Qdt ?_ p.out _;(with_reducible repeat(first|apply Qeh|apply Qeg|apply Qef));refine Qdt ?_ p.out _;(with_reducible repeat(first|apply Qeh|apply Qeg|apply Qef));exact l.out⟩,⟨by(with_reducible repeat(first|apply Qeh|apply Qeg|apply Qef));refine Qdt ?_ t.out _;(with_reducible repeat(first|apply Qeh|apply Qeg|apply Qef));refine Qdt ?_ t.out _;(with_reducible repeat(first|apply Qeh|apply Qeg|apply Qef));refine Qdt ?_ t.out _;(with_reducible repeat(first|apply Qeh|apply Qeg|apply Qef));refine Qfp (cs:=#[.string u,.int .i64 y,.int .i64 0]) ?_ 2 _ rfl;(with_reducible repeat(first|apply Qeh|apply Qeg|apply Qef));refine Qfp (cs:=#[.string u,.int .i64 0,.int .i64 0]) ?_ 1 _ rfl;(with_reducible repeat(first|apply Qeh|apply Qeg|apply Qef));refine Qfp (cs:=#[.string (⟨#[]⟩:ByteArray),.int .i64 0,.int .i64 0]) ?_ 0 _ rfl;(with_reducible repeat(first|apply Qeh|apply Qeg|apply Qef));exact G.out⟩,⟨qq_b⟩⟩
      ·rw[if_neg P]at H;have M:(A == 9)=false:=beq_eq_false_iff_ne.mpr P;have ae:(A != 9)=true:=bne_iff_ne.mpr P
       (first|rw[M] |(simp only[Qgo,Qgp];rw[M])|skip)
       have H':=QA H;clear H;go_wp2
       go_meet
       case rel=>exact⟨_,(false),qq_4,H',⟨by have:=HK1.out;first|omega|exact Nat.le_refl _⟩,⟨by(with_reducible repeat(first|apply Qeh|apply Qeg|apply Qef));refine Qfp (cs:=#[.string u,.int .i64 y,.int .i64 a]) ?_ 2 _ rfl;(with_reducible repeat(first|apply Qeh|apply Qeg|apply Qef));refine Qfp (cs:=#[.string u,.int .i64 c,.int .i64 a]) ?_ 1 _ rfl;(with_reducible repeat(first|apply Qeh|apply Qeg|apply Qef));refine Qfp (cs:=#[.string d,.int .i64 c,.int .i64 a]) ?_ 0 _ rfl;(with_reducible repeat(first|apply Qeh|apply Qeg|apply Qef));refine Qdt ?_ s.out _;(with_reducible repeat(first|apply Qeh|apply Qeg|apply Qef));refine Qdt ?_ s.out _;(with_reducible repeat(first|apply Qeh|apply Qeg|apply Qef));refine Qdt ?_ s.out _;(with_reducible repeat(first|apply Qeh|apply Qeg|apply Qef));exact b.out⟩,⟨by(with_reducible repeat(first|apply Qeh|apply Qeg|apply Qef));refine Qdt ?_ m.out _;(with_reducible repeat(first|apply Qeh|apply Qeg|apply Qef));refine Qdt ?_ m.out _;(with_reducible repeat(first|apply Qeh|apply Qeg|apply Qef));refine Qdt ?_ m.out _;(with_reducible repeat(first|apply Qeh|apply Qeg|apply Qef));refine Qdt ?_ p.out _;(with_reducible repeat(first|apply Qeh|apply Qeg|apply Qef));refine Qdt ?_ p.out _;(with_reducible repeat(first|apply Qeh|apply Qeg|apply Qef));refine Qdt ?_ p.out _;(with_reducible repeat(first|apply Qeh|apply Qeg|apply Qef));exact l.out⟩,⟨by(with_reducible repeat(first|apply Qeh|apply Qeg|apply Qef));refine Qdt ?_ t.out _;(with_reducible repeat(first|apply Qeh|apply Qeg|apply Qef));refine Qdt ?_ t.out _;(with_reducible repeat(first|apply Qeh|apply Qeg|apply Qef));refine Qdt ?_ t.out _;(with_reducible repeat(first|apply Qeh|apply Qeg|apply Qef));refine Qfp (cs:=#[.string u,.int .i64 y,.int .i64 0]) ?_ 2 _ rfl;(with_reducible repeat(first|apply Qeh|apply Qeg|apply Qef));refine Qfp (cs:=#[.string u,.int .i64 0,.int .i64 0]) ?_ 1 _ rfl;(with_reducible repeat(first|apply Qeh|apply Qeg|apply Qef));refine Qfp (cs:=#[.string (⟨#[]⟩:ByteArray),.int .i64 0,.int .i64 0]) ?_ 0 _ rfl;(with_reducible repeat(first|apply Qeh|apply Qeg|apply Qef));exact G.out⟩,⟨qq_b⟩⟩
     case rest =>
      clear ap
      try clear c4
      try clear am
      try clear c6
      try clear an
      try clear ao
      try clear P
      try clear M
      try clear ae
      try clear ag
      try clear ah
      try clear ai
      try clear aj
      try clear ak
      try clear al
      try clear aq
      try clear ar
      try clear au
      try clear az
      try clear aA
      try clear aG
      obtain⟨kq,T,rfl,HA,HJ6,b,l,G,HB⟩:=hcut
      cases kq with
      | zero=>exact absurd HA.out (by simp[Qbb.j1])
      | succ kj6 =>
       have H:=HA.out;clear HA;simp only[Qbb.j1]at H
       by_cases af:T=true
       ·subst af;rw[if_pos rfl]at H;replace H:=Option.bind_eq_some_iff.mp H;obtain⟨⟨Y,Z,aa⟩,av,H⟩:=H;replace H:(some (Y,Z,aa,0))=some (r1,r2,r3,r4):=H;have bB:=QA av;clear av;simp only[Option.some.injEq,Prod.mk.injEq]at H;obtain⟨rfl,rfl,rfl,rfl⟩:=H;have bL:=B.out;have bM:=m.out;have bN:=s.out;have bO:=t.out;obtain⟨aH,aI,aJ⟩:=qc3 b.out;have bP:=Qdw b.out
        go_wp2_with (first |((with_reducible refine Qij (f:=222) rfl ?_);refine Qgm (some 29) rfl rfl Tryz.func222 qq_7 rfl #[.agg #[.string u,.int .i64 y,.int .i64 x],.int .i64 3] rfl qq_1 ?_;(with_reducible refine(Qaw.calls u y x 3 Y Z aa _ bB.out).mono ?_);rintro e cB ⟨rfl,hb⟩;refine⟨_,rfl,?_⟩;have n_:=qn4 (Qei (g:=v) (o:=.cells #[.string u,.int .i64 y,.int .i64 x] 257 (0,0)) qq_0 hb) (Qei (g:=r) (o:=.cells #[.string q,.int .i64 n,.int .i64 j] 257 (0,0)) qq_0 hb) (Qei (g:=z) (o:=.cells #[.string u,.int .i64 y,.int .i64 x] 257 (0,0)) qq_0 hb) (Qfj qq_b hb);clear b l G HB;obtain⟨b,l,G,HB⟩:=n_;(try clear hb);(try clear hb2);(try clear hk);(try clear hi);have bQ:=p.out;have bR:=D.out;obtain⟨aK,aL,aM⟩:=qc3 l.out;have bS:=Qdw l.out))
        refine bodyPost_ret (Qek rfl _ _ r 257 #[.string Y,.int .i64 Z,.int .i64 aa] (0,0) _ rfl qq_x Tryz.underlying257 rfl qq_7) rfl ?_;exact⟨qq_2,qq_b⟩
       ·replace af:=Bool.eq_false_iff.mpr af;subst af;rw[if_neg (show ¬(false=true)by decide)]at H
        by_cases W:E≥128
        ·rw[if_pos W]at H;have aB:decide (128≤E)=true:=decide_eq_true W;clear W;have H':=QA H;clear H;go_wp2
         go_roundg kj6
         case measure=>have:=HK1.out;have:=HJ6.out;omega
         case rel=>exact⟨(IntKind.u64.wrap (O+(IntKind.u64.wrap ((Int.tmod E 128)*L)))),(IntKind.u64.wrap (L*128)),(wrap64 (A+1)),(u),(y),(x),(q),(n),(j),qq_4,qq_4,qq_4,H',⟨by have:=HK1.out;have:=HJ6.out;omega⟩,⟨by(with_reducible repeat(first|apply Qeh|apply Qeg|apply Qef));exact b.out⟩,⟨by(with_reducible repeat(first|apply Qeh|apply Qeg|apply Qef));exact l.out⟩,⟨qq_b⟩⟩
        ·rw[if_neg W]at H;have aB:decide (128≤E)=false:=decide_eq_false W;clear W
         by_cases U:E=0
         ·rw[if_pos U]at H;have aC:(E == 0)=true:=beq_iff_eq.mpr U;have aD:(E != 0)=false:=bne_eq_false_iff_eq.mpr U;clear U
          by_cases X:A > 0
          ·rw[if_pos X]at H;have aE:decide (0<A)=true:=decide_eq_true X;clear X;replace H:=Option.bind_eq_some_iff.mp H;obtain⟨⟨ab,ac,ad⟩,aw,H⟩:=H;replace H:(some (ab,ac,ad,0))=some (r1,r2,r3,r4):=H;have bC:=QA aw;clear aw;simp only[Option.some.injEq,Prod.mk.injEq]at H;obtain⟨rfl,rfl,rfl,rfl⟩:=H;have bT:=B.out;have bU:=m.out;have bV:=s.out;have bW:=t.out;obtain⟨aN,aO,aP⟩:=qc3 b.out;have bX:=Qdw b.out
           go_wp2_with (first |((with_reducible refine Qij (f:=222) rfl ?_);refine Qgm (some 47) rfl rfl Tryz.func222 qq_7 rfl #[.agg #[.string u,.int .i64 y,.int .i64 x],.int .i64 4] rfl qq_1 ?_;(with_reducible refine(Qaw.calls u y x 4 ab ac ad _ bC.out).mono ?_);rintro e cC ⟨rfl,hb⟩;refine⟨_,rfl,?_⟩;have n_:=qn4 (Qei (g:=v) (o:=.cells #[.string u,.int .i64 y,.int .i64 x] 257 (0,0)) qq_0 hb) (Qei (g:=r) (o:=.cells #[.string q,.int .i64 n,.int .i64 j] 257 (0,0)) qq_0 hb) (Qei (g:=z) (o:=.cells #[.string u,.int .i64 y,.int .i64 x] 257 (0,0)) qq_0 hb) (Qfj qq_b hb);clear b l G HB;obtain⟨b,l,G,HB⟩:=n_;(try clear hb);(try clear hb2);(try clear hk);(try clear hi);have bY:=p.out;have bZ:=D.out;obtain⟨aQ,aR,aS⟩:=qc3 l.out;have b0:=Qdw l.out))
           refine bodyPost_ret (Qek rfl _ _ r 257 #[.string ab,.int .i64 ac,.int .i64 ad] (0,0) _ rfl qq_x Tryz.underlying257 rfl qq_7) rfl ?_;exact⟨qq_2,qq_b⟩
          ·rw[if_neg X]at H;have aE:decide (0<A)=false:=decide_eq_false X;clear X;simp only[Option.some.injEq,Prod.mk.injEq]at H;obtain⟨rfl,rfl,rfl,rfl⟩:=H;have b1:=B.out;have b2:=m.out;have b3:=s.out;have b4:=t.out;obtain⟨aT,aU,aV⟩:=qc3 b.out;have b5:=Qdw b.out;have b6:=p.out;have b7:=D.out;obtain⟨aW,aX,aY⟩:=qc3 l.out;have b8:=Qdw l.out;go_wp2;refine bodyPost_ret (Qek rfl _ _ r 257 #[.string u,.int .i64 y,.int .i64 x] (0,0) _ rfl qq_x Tryz.underlying257 rfl qq_7) rfl ?_;exact⟨qq_2,qq_b⟩
         ·rw[if_neg U]at H;have aC:(E == 0)=false:=beq_eq_false_iff_ne.mpr U;have aD:(E != 0)=true:=bne_iff_ne.mpr U;simp only[Option.some.injEq,Prod.mk.injEq]at H;obtain⟨rfl,rfl,rfl,rfl⟩:=H;have b9:=B.out;have ca:=m.out;have cb:=s.out;have cc:=t.out;obtain⟨aZ,ba,bb⟩:=qc3 b.out;have cd:=Qdw b.out;have ce:=p.out;have cf:=D.out;obtain⟨bc,bd,be⟩:=qc3 l.out;have cg:=Qdw l.out;go_wp2;refine bodyPost_ret (Qek rfl _ _ r 257 #[.string u,.int .i64 y,.int .i64 x] (0,0) _ rfl qq_x Tryz.underlying257 rfl qq_7) rfl ?_;exact⟨qq_2,qq_b⟩
    ·rw[if_neg c6]at H;have an:(x == 0)=false:=beq_eq_false_iff_ne.mpr c6;have ao:(x != 0)=true:=bne_iff_ne.mpr c6;simp only[Option.some.injEq,Prod.mk.injEq]at H;obtain⟨rfl,rfl,rfl,rfl⟩:=H;have ch:=B.out;have cj:=m.out;obtain⟨bf,bg,bh⟩:=qc3 b.out;have ck:=Qdw b.out
     go_wp2_with (first |((with_reducible refine Qij (f:=221) rfl ?_);refine Qgm (some 14) rfl rfl Tryz.func221 qq_7 rfl #[.agg #[.string d,.int .i64 c,.int .i64 a],.int .i64 1] rfl qq_1 ?_;(with_reducible refine(Qax.calls k1 d c a 1 u y x E _ A5.out).mono ?_);rintro e cD ⟨rfl,hb⟩;refine⟨_,rfl,?_⟩;have n_:=qn3 (Qei (g:=v) (o:=.cells #[.string d,.int .i64 c,.int .i64 a] 257 (0,0)) qq_0 hb) (Qei (g:=r) (o:=.cells #[.string q,.int .i64 n,.int .i64 j] 257 (0,0)) qq_0 hb) (Qfj qq_b hb);clear b l HB;obtain⟨b,l,HB⟩:=n_;(try clear hb);(try clear hb2);(try clear hk);(try clear hi)) |((with_reducible refine Qft (N:=7) rfl ?_);refine qq_e 7 #[.string (⟨#[]⟩:ByteArray),.int .i64 0,.int .i64 0] 257 ?_;intro z hg cE hbox hb;have n_:=qn10 (Qei (g:=v) (o:=.cells #[.string d,.int .i64 c,.int .i64 a] 257 (0,0)) qq_0 hb) (Qei (g:=r) (o:=.cells #[.string q,.int .i64 n,.int .i64 j] 257 (0,0)) qq_0 hb) (Qfj qq_b hb) (hbox) (qq_s hg:w.heap.size≤z) (qq_s hg:w.heap.size≤z) ((by rw[hg];exact Nat.ne_of_lt (Qdu (g:=v) (o:=.cells #[.string d,.int .i64 c,.int .i64 a] 257 (0,0)) qq_0):v≠z)) ((by rw[hg];exact Nat.ne_of_gt (Qdu (g:=v) (o:=.cells #[.string d,.int .i64 c,.int .i64 a] 257 (0,0)) qq_0):z≠v)) ((by rw[hg];exact Nat.ne_of_lt (Qdu (g:=r) (o:=.cells #[.string q,.int .i64 n,.int .i64 j] 257 (0,0)) qq_0):r≠z)) ((by rw[hg];exact Nat.ne_of_gt (Qdu (g:=r) (o:=.cells #[.string q,.int .i64 n,.int .i64 j] 257 (0,0)) qq_0):z≠r));clear b l HB;obtain⟨b,l,HB,G,ax,ay,s,t,p,D⟩:=n_;clear hb hbox hg;have cl:=t.out;have cm:=s.out;have cn:=D.out;have co:=p.out;obtain⟨bi,bj,bk⟩:=qc3 G.out;have cp:=Qdw G.out;obtain⟨bl,bn,bo⟩:=qc3 b.out;have cq:=Qdw b.out;obtain⟨bp,bq,br⟩:=qc3 l.out;have cr:=Qdw l.out))
     refine bodyPost_ret (Qek rfl _ _ r 257 #[.string u,.int .i64 y,.int .i64 x] (0,0) _ rfl (by(with_reducible repeat(first|apply Qeh|apply Qeg|apply Qef));refine Qfp (cs:=#[.string u,.int .i64 y,.int .i64 j]) ?_ 2 _ rfl;(with_reducible repeat(first|apply Qeh|apply Qeg|apply Qef));refine Qfp (cs:=#[.string u,.int .i64 n,.int .i64 j]) ?_ 1 _ rfl;(with_reducible repeat(first|apply Qeh|apply Qeg|apply Qef));refine Qfp (cs:=#[.string q,.int .i64 n,.int .i64 j]) ?_ 0 _ rfl;(with_reducible repeat(first|apply Qeh|apply Qeg|apply Qef));refine Qdt ?_ m.out _;(with_reducible repeat(first|apply Qeh|apply Qeg|apply Qef));refine Qdt ?_ m.out _;(with_reducible repeat(first|apply Qeh|apply Qeg|apply Qef));refine Qdt ?_ m.out _;(with_reducible repeat(first|apply Qeh|apply Qeg|apply Qef));refine Qdt ?_ p.out _;(with_reducible repeat(first|apply Qeh|apply Qeg|apply Qef));refine Qdt ?_ p.out _;(with_reducible repeat(first|apply Qeh|apply Qeg|apply Qef));refine Qdt ?_ p.out _;(with_reducible repeat(first|apply Qeh|apply Qeg|apply Qef));exact l.out) Tryz.underlying257 rfl qq_7) rfl ?_;exact⟨qq_2,qq_b⟩
   ·rw[if_neg c4]at H;have am:=decide_eq_false c4;clear c4;simp only[Option.some.injEq,Prod.mk.injEq]at H;obtain⟨rfl,rfl,rfl,rfl⟩:=H;have ct:=B.out;have cu:=m.out;obtain⟨bs,bu,bv⟩:=qc3 b.out;have cv:=Qdw b.out;obtain⟨bw,bx,bz⟩:=qc3 l.out;have cw:=Qdw l.out;go_wp2;refine bodyPost_ret (Qek rfl _ _ r 257 #[.string d,.int .i64 c,.int .i64 a] (0,0) _ rfl qq_x Tryz.underlying257 rfl qq_7) rfl ?_;exact⟨qq_2,qq_b⟩
end Go.Proofs.YtnnofopfbeklbaaGreat.C
end
