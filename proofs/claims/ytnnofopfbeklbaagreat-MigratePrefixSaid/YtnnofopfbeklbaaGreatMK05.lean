/- Merged texts. -/
import Derived.Test.YtnnofopfbeklbaaGreatMK02
import Derived.Test.YtnnofopfbeklbaaGreatMK04
set_option linter.unusedVariables false
set_option linter.unusedSimpArgs false
set_option maxHeartbeats 8000000
set_option maxRecDepth 100000
section
namespace Go.Proofs.YtnnofopfbeklbaaGreat.C
open Go.RowKit Go.Proofs.YtnnofopfbeklbaaGreatW.PrintWords Go.Proofs.YtnnofopfbeklbaaGreatW.PrintLast Go.Proofs.YtnnofopfbeklbaaGreatW.PrintMore
attribute [local go_sem] Qjm Qjn Qjo Qjp Qjq Qjr Qjs Qjt
mutual
def Qbh.l0:Nat→ByteArray→ByteArray→ByteArray→Int→Option (ByteArray)
 | 0,_,_,_,_=>none
 | k+1,x3,x4,x5,x6=>if x6<(x3.size:Int)then(if 0≤x6 then(if(bt x3 x6)=0 then(if x6=(wrap64 ((x3.size:Int)-1))then(if x5.toList=([]:List UInt8)then(if x6 > 0 then(if 0≤(wrap64 (x6-1))then(if(wrap64 (x6-1))<(x3.size:Int)then(Qbh.j1 k x3 x4 x5 x6 ((bt x3 (wrap64 (x6-1))) != 0))else(none))else(none))else(Qbh.j1 k x3 x4 x5 x6 false))else(Qbh.j1 k x3 x4 x5 x6 false))else(Qbh.j1 k x3 x4 x5 x6 false))else(if x6≤(wrap64 (x6+1))then(if(wrap64 (x6+1))≤(x3.size:Int)then(if x5.size+(x3.extract (x6:Int).toNat ((wrap64 (x6+1)):Int).toNat).size≤9223372036854775807 then(if((x5++(x3.extract (x6:Int).toNat ((wrap64 (x6+1)):Int).toNat)).size:Int)=254 then(if x4.size+1≤9223372036854775807 then(if(x4++(⟨#[255]⟩:ByteArray)).size+(x5++(x3.extract (x6:Int).toNat ((wrap64 (x6+1)):Int).toNat)).size≤9223372036854775807 then(Qbh.l0 k x3 ((x4++(⟨#[255]⟩:ByteArray))++(x5++(x3.extract (x6:Int).toNat ((wrap64 (x6+1)):Int).toNat))) (⟨#[]⟩:ByteArray) (wrap64 (x6+1)))else(none))else(none))else(Qbh.l0 k x3 x4 (x5++(x3.extract (x6:Int).toNat ((wrap64 (x6+1)):Int).toNat)) (wrap64 (x6+1))))else(none))else(none))else(none)))else(none))else(some x4)
def Qbh.j1:Nat→ByteArray→ByteArray→ByteArray→Int→Bool→Option (ByteArray)
 | 0,_,_,_,_,_=>none
 | k+1,x3,x4,x5,x6,x38=>if x38=true then(some x4)else((some (([(wrap64 ((x5.size:Int)+1))%256]:List Int):List Int)).bind fun y283=>(if x4.size+(strOfNums y283).size≤9223372036854775807 then(if(x4++(strOfNums y283)).size+x5.size≤9223372036854775807 then(Qbh.l0 k x3 ((x4++(strOfNums y283))++x5) (⟨#[]⟩:ByteArray) (wrap64 (x6+1)))else(none))else(none)))
end
def Qbh.f(k:Nat)(a0:ByteArray):Option (ByteArray):=if a0.size+1≤9223372036854775807 then(Qbh.l0 k (a0++(⟨#[0]⟩:ByteArray)) (⟨#[]⟩:ByteArray) (⟨#[]⟩:ByteArray) 0)else(none)
theorem Qbh.calls (k:Nat) (a0:ByteArray) (r:ByteArray) (w:World) (h:Qbh.f k a0=some r) :
  Calls Tryz.prog 102 #[.string a0] w fun e w'=>e=.returned (.string r)∧Below w.heap.size w w':=by
 have HB:=QA (Below.refl w.heap.size w);have H:(if a0.size+1≤9223372036854775807 then(Qbh.l0 k (a0++(⟨#[0]⟩:ByteArray)) (⟨#[]⟩:ByteArray) (⟨#[]⟩:ByteArray) 0)else(none))=some r:=h;clear h
 by_cases c2:a0.size+1≤9223372036854775807
 ·rw [if_pos c2]at H;have K:=eq_true c2;have L:=decide_eq_true c2
  try have O:(9223372036854775807<a0.size+1)=False:=eq_false (Nat.not_lt.2 c2)
  have H':=QA H;clear H
  go_enter Tryz.func102,Tryz.ntmps102
  go_wp2;generalize hal:a0++(⟨#[0]⟩:ByteArray)=al at *;clear hal
  go_loopg [4,5,6] k (fun kq v4 v5 v6 w'=>∃(b:ByteArray) (x5_1:ByteArray) (a:Int),v4=.string b∧v5=.string x5_1∧v6=.int .i64 a∧Aside0 (Qbh.l0 kq al b x5_1 a=some r)∧Aside0 (kq≤k)∧Aside0 (Below w.heap.size w w'))
  case atStart=>exact⟨((⟨#[]⟩:ByteArray)),((⟨#[]⟩:ByteArray)),(0),qq_8,qq_8,qq_8,H',⟨Nat.le_refl _⟩,⟨qq_b⟩⟩
  case round =>
   clear H'
   try clear c2
   try clear K
   try clear L
   try clear O
   obtain⟨b,x5_1,a,rfl,rfl,rfl,HA,HK1,HB⟩:=hrel
   cases gk with
   | zero=>exact absurd HA.out (by simp[Qbh.l0])
   | succ k1 =>
    have H:=HA.out;clear HA;simp only[Qbh.l0]at H
    by_cases c3:a<(al.size:Int)
    ·rw [if_pos c3]at H;have T:=decide_eq_true c3;clear c3
     by_cases c4:0≤a
     ·rw [if_pos c4]at H;have an:=decide_eq_true c4;clear c4
      by_cases c6:(bt al a)=0
      ·rw [if_pos c6]at H;have U:((bt al a) == 0)=true:=beq_iff_eq.mpr c6;have W:((bt al a) != 0)=false:=bne_eq_false_iff_eq.mpr c6;clear c6;have X:=QA H;clear H;have p5:0≤(a:Int):=of_decide_eq_true qq_5;have q5:a<(al.size:Int):=of_decide_eq_true qq_5;have Y:=Qdq al a;replace p5:=eq_true p5;replace q5:=eq_true q5
       go_upto_region 8 with(fail)
       go_cut [38] (fun ap wc=>∃(kq:Nat) (l:Bool),ap=.bool l∧Aside0 (Qbh.j1 kq al b x5_1 a l=some r)∧Aside0 (kq≤k1)∧Aside0 (Below w.heap.size w wc))
       case first =>
        have H:=X.out;clear X
        by_cases c8:a=(wrap64 ((al.size:Int)-1))
        ·rw [if_pos c8]at H;have j:(a == (wrap64 ((al.size:Int)-1)))=true:=beq_iff_eq.mpr c8;have Z:(a != (wrap64 ((al.size:Int)-1)))=false:=bne_eq_false_iff_eq.mpr c8;clear c8
         (first|rw[j] |(simp only[Qhx,Qhy];rw[j])|skip)
         by_cases c9:x5_1.toList=([]:List UInt8)
         ·rw [if_pos c9]at H;have aa:(x5_1.toList == ([]:List UInt8))=true:=beq_iff_eq.mpr c9;have ab:(x5_1.toList != ([]:List UInt8))=false:=bne_eq_false_iff_eq.mpr c9;clear c9
          by_cases c10:a > 0
          ·rw[if_pos c10]at H;have y:decide (0<a)=true:=decide_eq_true c10;clear c10;obtain⟨c,m⟩:∃j_:Int,(wrap64 (a-1))=j_:=⟨_,rfl⟩;replace H:(if 0≤(c)then(if(c)<(al.size:Int)then(Qbh.j1 k1 al b x5_1 a ((bt al (c)) != 0))else(none))else(none))=some r:=by first |(rw[m]at H;exact H) |(simp only[m]at H ⊢;exact H)
           have aq:(IntKind.i64.wrap (a-1))=c:=(Qhx _).trans m
           by_cases p:0≤(c)
           ·rw[if_pos p]at H;have ad:=decide_eq_true p;clear p
            by_cases q:(c)<(al.size:Int)
            ·rw[if_pos q]at H;have ae:=decide_eq_true q;clear q;have H':=QA H;clear H;have z:0≤((c):Int):=of_decide_eq_true qq_5;have A:(c)<(al.size:Int):=of_decide_eq_true qq_5;have ao:=Qdq al (c);replace z:=eq_true z;replace A:=eq_true A;go_wp2
             go_meet
             case rel=>exact⟨_,(((bt al (c)) != 0)),(by first|rfl |(simp;done) |(simp only[← m]<;>(first|rfl|simp)) |(simp[*];done)),H',⟨by have:=HK1.out;first|omega|exact Nat.le_refl _⟩,⟨qq_b⟩⟩
            ·rw[if_neg q]at H;exact absurd H (by simp)
           ·rw[if_neg p]at H;exact absurd H (by simp)
          ·rw[if_neg c10]at H;have y:decide (0<a)=false:=decide_eq_false c10;clear c10;have H':=QA H;clear H;go_wp2
           go_meet
           case rel=>exact⟨_,(false),qq_8,H',⟨by have:=HK1.out;first|omega|exact Nat.le_refl _⟩,⟨qq_b⟩⟩
         ·rw[if_neg c9]at H;have aa:(x5_1.toList == ([]:List UInt8))=false:=beq_eq_false_iff_ne.mpr c9;have ab:(x5_1.toList != ([]:List UInt8))=true:=bne_iff_ne.mpr c9;have H':=QA H;clear H;go_wp2
          go_meet
          case rel=>exact⟨_,(false),qq_8,H',⟨by have:=HK1.out;first|omega|exact Nat.le_refl _⟩,⟨qq_b⟩⟩
        ·rw[if_neg c8]at H;have j:(a == (wrap64 ((al.size:Int)-1)))=false:=beq_eq_false_iff_ne.mpr c8;have Z:(a != (wrap64 ((al.size:Int)-1)))=true:=bne_iff_ne.mpr c8
         (first|rw[j] |(simp only[Qhx,Qhy];rw[j])|skip)
         have H':=QA H;clear H;go_wp2
         go_meet
         case rel=>exact⟨_,(false),qq_8,H',⟨by have:=HK1.out;first|omega|exact Nat.le_refl _⟩,⟨qq_b⟩⟩
       case rest =>
        clear X
        try clear c2
        try clear K
        try clear L
        try clear O
        try clear c3
        try clear T
        try clear c4
        try clear an
        try clear p5
        try clear q5
        try clear Y
        try clear c6
        try clear U
        try clear W
        try clear c8
        try clear j
        try clear Z
        try clear c9
        try clear aa
        try clear ab
        try clear c10
        try clear y
        try clear p
        try clear ad
        try clear q
        try clear ae
        try clear z
        try clear A
        try clear ao
        try clear z
        try clear p5
        try clear A
        try clear q5
        obtain⟨kq,l,rfl,HA,HJ6,HB⟩:=hcut
        cases kq with
        | zero=>exact absurd HA.out (by simp[Qbh.j1])
        | succ kj6 =>
         have H:=HA.out;clear HA;simp only[Qbh.j1]at H
         by_cases B:l=true
         ·subst B;rw[if_pos rfl]at H;obtain rfl:=Option.some.inj H;go_wp2;go_ret
          exact⟨qq_7,qq_b⟩
         ·replace B:=Bool.eq_false_iff.mpr B;subst B;rw[if_neg (show ¬(false=true)by decide)]at H;obtain⟨d,g⟩:∃y_:List Int,y_=(([(wrap64 ((x5_1.size:Int)+1))%256]:List Int)):=⟨_,rfl⟩;replace H:(if b.size+(strOfNums d).size≤9223372036854775807 then(if(b++(strOfNums d)).size+x5_1.size≤9223372036854775807 then(Qbh.l0 kj6 al ((b++(strOfNums d))++x5_1) (⟨#[]⟩:ByteArray) (wrap64 (a+1)))else(none))else(none))=some r:=by first |(rw[g];with_reducible exact H) |(have ac:=(Option.bind_some _ _).symm.trans H;rw[g];with_reducible exact ac) |(have ac:=(Option.bind_some _ _).symm.trans H;with_reducible exact ac)|with_reducible exact H |(rw[g];exact H)|exact H
          have D:=QA g;clear g
          by_cases s:b.size+(strOfNums d).size≤9223372036854775807
          ·rw[if_pos s]at H;have ar:=eq_true s;have au:=decide_eq_true s
           try have av:(9223372036854775807<b.size+(strOfNums d).size)=False:=eq_false (Nat.not_lt.2 s)
           by_cases t:(b++(strOfNums d)).size+x5_1.size≤9223372036854775807
           ·rw[if_pos t]at H;have aw:=eq_true t;have ax:=decide_eq_true t
            try have E:(9223372036854775807<(b++(strOfNums d)).size+x5_1.size)=False:=eq_false (Nat.not_lt.2 t)
            try have af:=E
            try simp only[ByteArray.size_append,(show ∀x_:UInt8,(⟨#[x_]⟩:ByteArray).size=1 from fun _=>rfl),(show ∀x_ y_:UInt8,(⟨#[x_,y_]⟩:ByteArray).size=2 from fun _ _=>rfl)]at af
            try have ag:=E
            try simp only[ByteArray.size_append,ByteArray.size_extract,(show ∀x_:UInt8,(⟨#[x_]⟩:ByteArray).size=1 from fun _=>rfl),(show ∀x_ y_:UInt8,(⟨#[x_,y_]⟩:ByteArray).size=2 from fun _ _=>rfl)]at ag
            have H':=QA H;clear H
            go_wp2_with (first |((with_reducible refine Qgv (N:=44) rfl ?_);refine Kd.R_lit (Kd.int .u8) _ 5 ?hg (N:=44) ?hd (xs:=([(wrap64 ((x5_1.size:Int)+1))%256]:List Int)) (inner:=[.int .u8 ((wrap64 ((x5_1.size:Int)+1))%256)]) (ok:=fun _=>True) (okp:=fun _=>True) ?hr ?hp (fun _ hk=>hk) trivial (Below.refl _ _) (Nat.le_refl _) (by simp) ?_;(case hd=>rfl);(case hg=>rfl);(case hr=>exact qq_14);(case hp=>exact(Reps.one (show Kd.M (Kd.int .u8) _ _ _ ((wrap64 ((x5_1.size:Int)+1))%256) [.int .u8 ((wrap64 ((x5_1.size:Int)+1))%256)] from rfl) (Reps.none _ _)));intro aM aN n hb hg_ hnew_;clear hg_ hnew_;(first|rw[← D.out]at n |(simp only[Int.reduceToNat]at n;rw[← D.out]at n));have n_:=qn2 (Kd.R_lower n (Qgj qq_b)) (Qgk qq_b hb);clear HB;obtain⟨ah,HB⟩:=n_;clear hb n;have ay:=Qea (P:=Tryz.prog) Tryz.underlying52 Tryz.underlying5 Tryz.underlying9 (Kd.own_of_R ah.out)))
            go_roundg kj6
            case measure=>have:=HK1.out;have:=HJ6.out;omega
            case rel=>exact⟨((b++(strOfNums d))++x5_1),((⟨#[]⟩:ByteArray)),(wrap64 (a+1)),qq_8,qq_8,qq_8,H',⟨by have:=HK1.out;have:=HJ6.out;omega⟩,⟨qq_b⟩⟩
           ·rw[if_neg t]at H;exact absurd H (by simp)
          ·rw[if_neg s]at H;exact absurd H (by simp)
      ·rw [if_neg c6]at H;have U:((bt al a) == 0)=false:=beq_eq_false_iff_ne.mpr c6;have W:((bt al a) != 0)=true:=bne_iff_ne.mpr c6;have az:=eq_true (of_decide_eq_true qq_5:0≤a)
       by_cases G:a≤(wrap64 (a+1))
       ·rw [if_pos G]at H;have aA:=eq_true G;have aB:=decide_eq_true G
        by_cases I:(wrap64 (a+1))≤(al.size:Int)
        ·rw [if_pos I]at H;have aC:=eq_true I;have aD:=decide_eq_true I
         by_cases u:x5_1.size+(al.extract (a:Int).toNat ((wrap64 (a+1)):Int).toNat).size≤9223372036854775807
         ·rw [if_pos u]at H;have aE:=eq_true u;have aF:=decide_eq_true u
          try have aG:(9223372036854775807<x5_1.size+(al.extract (a:Int).toNat ((wrap64 (a+1)):Int).toNat).size)=False:=eq_false (Nat.not_lt.2 u)
          generalize hnw:(x5_1++(al.extract (a:Int).toNat ((wrap64 (a+1)):Int).toNat))=nw at *
          by_cases o:(nw.size:Int)=254
          ·rw[if_pos o]at H;have ai:((nw.size:Int) == 254)=true:=beq_iff_eq.mpr o;have aj:((nw.size:Int) != 254)=false:=bne_eq_false_iff_eq.mpr o;clear o
           by_cases v:b.size+1≤9223372036854775807
           ·rw[if_pos v]at H;have aH:=eq_true v;have aI:=decide_eq_true v
            try have aJ:(9223372036854775807<b.size+1)=False:=eq_false (Nat.not_lt.2 v)
            by_cases x:(b++(⟨#[255]⟩:ByteArray)).size+nw.size≤9223372036854775807
            ·rw[if_pos x]at H;have aK:=eq_true x;have aL:=decide_eq_true x
             try have J:(9223372036854775807<(b++(⟨#[255]⟩:ByteArray)).size+nw.size)=False:=eq_false (Nat.not_lt.2 x)
             try have ak:=J
             try simp only[ByteArray.size_append,(show ∀x_:UInt8,(⟨#[x_]⟩:ByteArray).size=1 from fun _=>rfl),(show ∀x_ y_:UInt8,(⟨#[x_,y_]⟩:ByteArray).size=2 from fun _ _=>rfl)]at ak
             try have am:=J
             try simp only[ByteArray.size_append,ByteArray.size_extract,(show ∀x_:UInt8,(⟨#[x_]⟩:ByteArray).size=1 from fun _=>rfl),(show ∀x_ y_:UInt8,(⟨#[x_,y_]⟩:ByteArray).size=2 from fun _ _=>rfl)]at am
             have H':=QA H;clear H;have p5:0≤(a:Int):=of_decide_eq_true qq_5;have q5:a<(al.size:Int):=of_decide_eq_true qq_5;have Y:=Qdq al a;replace p5:=eq_true p5;replace q5:=eq_true q5;go_wp2
             go_roundg k1
             case measure=>have:=HK1.out;omega
             case rel=>exact⟨((b++(⟨#[255]⟩:ByteArray))++nw),((⟨#[]⟩:ByteArray)),(wrap64 (a+1)),qq_8,qq_8,qq_8,H',⟨by have:=HK1.out;omega⟩,⟨qq_b⟩⟩
            ·rw[if_neg x]at H;exact absurd H (by simp)
           ·rw[if_neg v]at H;exact absurd H (by simp)
          ·rw[if_neg o]at H;have ai:((nw.size:Int) == 254)=false:=beq_eq_false_iff_ne.mpr o;have aj:((nw.size:Int) != 254)=true:=bne_iff_ne.mpr o;have H':=QA H;clear H;have p5:0≤(a:Int):=of_decide_eq_true qq_5;have q5:a<(al.size:Int):=of_decide_eq_true qq_5;have Y:=Qdq al a;replace p5:=eq_true p5;replace q5:=eq_true q5;go_wp2
           go_roundg k1
           case measure=>have:=HK1.out;omega
           case rel=>exact⟨(b),nw,(wrap64 (a+1)),qq_8,qq_8,qq_8,H',⟨by have:=HK1.out;omega⟩,⟨qq_b⟩⟩
         ·rw[if_neg u]at H;exact absurd H (by simp)
        ·rw[if_neg I]at H;exact absurd H (by simp)
       ·rw[if_neg G]at H;exact absurd H (by simp)
     ·rw[if_neg c4]at H;exact absurd H (by simp)
    ·rw[if_neg c3]at H;have T:=decide_eq_false c3;clear c3;obtain rfl:=Option.some.inj H;go_wp2;go_ret
     exact⟨qq_7,qq_b⟩
 ·rw[if_neg c2]at H;exact absurd H (by simp)
def Qbv.l0:Nat→ByteArray→List (S122)→Int→Int→Option (ByteArray)
 | 0,_,_,_,_=>none
 | k+1,x3,x6,x7,x8=>if x8<x7 then(if 0≤x8 then(if x8<(x6.length:Int)then((Qau.f k ((Qkv x6 x8).f0) 8).bind fun t465=>(if x3.size+t465.size≤9223372036854775807 then((Qau.f k (IntKind.u64.wrap ((Qkv x6 x8).f1)) 4).bind fun t466=>(if(x3++t465).size+t466.size≤9223372036854775807 then(Qbv.l0 k ((x3++t465)++t466) x6 x7 (wrap64 (x8+1)))else(none)))else(none)))else(none))else(none))else(some x3)
def Qbv.f(k:Nat)(l0:List (S122)):Option (ByteArray):=Qbv.l0 k (⟨#[]⟩:ByteArray) l0 (l0.length:Int) 0
def Qbv.T5:Bool × List (List Nat × List Nat):=(true,[([],[]),([],[]),([1],[1]),([2],[2]),([0,3],[0,3]),([],[]),([5],[5]),([6],[6]),([7,3],[7]),([4,8],[4,8]),([9,8,0,1,2,3,4,5,6,7,8,9],[0,9])])
def Qbv.B5:List Nat:=[0,0,2,6,15,0,32,96,238,511,1023]
theorem Qbv.tab5:rtab .any (Qjd Tryz.f121 5)=Qbv.T5:=by kernel_rfl
theorem Qbv.bits5:Qix Qbv.T5.2 Qbv.B5=true:=by kernel_rfl
theorem Qbv.calls (k:Nat) (A0:Option Addr) (c0:Nat) (l0:List (S122)) (r:ByteArray) (w:World) (hr0:Kd.C k122 w A0 l0.length l0) (hc0:l0.length≤c0) (h:Qbv.f k l0=some r) :
  Calls Tryz.prog 121 #[.slice A0 l0.length c0] w fun e w'=>e=.returned (.string r)∧Below w.heap.size w w':=by
 have hu122:=Tryz.underlying122;have I:=QA hr0;have aa:=QA hc0;clear hr0 hc0;have HB:=QA (Below.refl w.heap.size w);have H:(Qbv.l0 k (⟨#[]⟩:ByteArray) l0 (l0.length:Int) 0)=some r:=h;clear h;have H':=QA H;clear H
 go_enter Tryz.func121,Tryz.ntmps121
 go_wp2
 go_loopg [3,8] k (fun kq v3 v8 w'=>∃(c:ByteArray) (x8_1:Int),v3=.string c∧v8=.int .i64 x8_1∧Aside0 (Qbv.l0 kq c l0 (l0.length:Int) x8_1=some r)∧Aside0 (kq≤k)∧Aside0 (Below w.heap.size w w'))
 case atStart=>exact⟨((⟨#[]⟩:ByteArray)),(0),qq_8,qq_8,H',⟨Nat.le_refl _⟩,⟨qq_b⟩⟩
 case round =>
  clear H';obtain⟨c,x8_1,rfl,rfl,HA,HK1,HB⟩:=hrel
  cases gk with
  | zero=>exact absurd HA.out (by simp[Qbv.l0])
  | succ k1 =>
   have H:=HA.out;clear HA;simp only[Qbv.l0]at H
   by_cases c2:x8_1<(l0.length:Int)
   ·rw [if_pos c2]at H;have z:=decide_eq_true c2;clear c2
    by_cases c3:0≤x8_1
    ·rw [if_pos c3]at H;have P:=decide_eq_true c3;clear c3
     by_cases c4:x8_1<(l0.length:Int)
     ·rw[if_pos c4]at H;have T:=decide_eq_true c4;clear c4;replace H:=Option.bind_eq_some_iff.mp H;obtain⟨j,x,H⟩:=H;have A5:=QA x;clear x
      by_cases c6:c.size+j.size≤9223372036854775807
      ·rw[if_pos c6]at H;have U:=eq_true c6;have W:=decide_eq_true c6
       try have X:(9223372036854775807<c.size+j.size)=False:=eq_false (Nat.not_lt.2 c6)
       replace H:=Option.bind_eq_some_iff.mp H;obtain⟨p,y,H⟩:=H;have A7:=QA y;clear y
       by_cases c8:(c++j).size+p.size≤9223372036854775807
       ·rw[if_pos c8]at H;have Y:=eq_true c8;have Z:=decide_eq_true c8
        try have t:(9223372036854775807<(c++j).size+p.size)=False:=eq_false (Nat.not_lt.2 c8)
        try have A:=t
        try simp only[ByteArray.size_append,(show ∀x_:UInt8,(⟨#[x_]⟩:ByteArray).size=1 from fun _=>rfl),(show ∀x_ y_:UInt8,(⟨#[x_,y_]⟩:ByteArray).size=2 from fun _ _=>rfl)]at A
        try have B:=t
        try simp only[ByteArray.size_append,ByteArray.size_extract,(show ∀x_:UInt8,(⟨#[x_]⟩:ByteArray).size=1 from fun _=>rfl),(show ∀x_ y_:UInt8,(⟨#[x_,y_]⟩:ByteArray).size=2 from fun _ _=>rfl)]at B
        have H':=QA H;clear H;have q:0≤(x8_1:Int):=of_decide_eq_true qq_5;have s:x8_1<(l0.length:Int):=of_decide_eq_true qq_5;obtain⟨J,D,l,m⟩:=Qkw I.out x8_1 q s
        cases D
        replace l:=qq_h HB.out l;replace m:=qq_h HB.out m;replace q:=eq_true q;replace s:=eq_true s
        try go_wp2_with (first |((with_reducible refine Qgv (N:=5) rfl ?_);refine qq_e 5 #[.int .u64 0,.int .u32 0] 122 ?_;intro b hg w9 hbox hb;have n_:=qn4 (Qgk qq_b hb) (hbox) (qq_s hg:w.heap.size≤b) (qq_s hg:w.heap.size≤b);clear HB;obtain⟨HB,a,L,M⟩:=n_;clear hb hbox hg;obtain⟨E,G⟩:=qc2 a.out;have O:=Qeq a.out))
        have u:Aside0 (((w9.setCell ⟨b,0,none⟩ (.int .u64 ((Qkv l0 x8_1).f0))).setCell ⟨b,1,none⟩ (.int .u32 ((Qkv l0 x8_1).f1))).heap[b]? = some (.cells #[.int .u64 ((Qkv l0 x8_1).f0),.int .u32 ((Qkv l0 x8_1).f1)] 122 (0,0))):=⟨by(with_reducible repeat(first|apply Qfd|apply Qfc|apply Qfb));refine Qgq (cs:=#[.int .u64 ((Qkv l0 x8_1).f0),.int .u32 0]) ?_ 1 _ rfl;(with_reducible repeat(first|apply Qfd|apply Qfc|apply Qfb));refine Qgq (cs:=#[.int .u64 0,.int .u32 0]) ?_ 0 _ rfl;(with_reducible repeat(first|apply Qfd|apply Qfc|apply Qfb));exact a.out⟩;have v:Aside0 (Below w.heap.size w ((w9.setCell ⟨b,0,none⟩ (.int .u64 ((Qkv l0 x8_1).f0))).setCell ⟨b,1,none⟩ (.int .u32 ((Qkv l0 x8_1).f1)))):=⟨qq_b⟩
        (try clear a)
        (try clear HB)
        generalize ((w9.setCell ⟨b,0,none⟩ (.int .u64 ((Qkv l0 x8_1).f0))).setCell ⟨b,1,none⟩ (.int .u32 ((Qkv l0 x8_1).f1)))=w11 at u v ⊢;have a:=u;have HB:=v;clear u v;have n_:=qn2 (Qfc a.out) (Qgr HB.out);clear a HB;obtain⟨a,HB⟩:=n_;refine Qhk (n:=11) (S:=fun w'=>w'.cell? ⟨b,0,none⟩=some (.int .u64 ((Qkv l0 x8_1).f0))∧w'.cell? ⟨b,1,none⟩=some (.int .u32 ((Qkv l0 x8_1).f1))) (ds:=[]) (bm 11 0) qq_6 rfl rfl ⟨(Qep a.out 0).trans rfl,(Qep a.out 1).trans rfl⟩ (fun d=>?_);refine Qjb Qbv.tab5 Qbv.bits5 (fun HT_ HW_=>?_);generalize w11.drew=w12 at a HB d ⊢;refine pz_ (i:=0) (N:=some 12) (bm 11 1) (Qit HT_.out qq_6) ?_;refine pz_ (i:=1) (N:=some 13) (bm 11 3) (Qit HT_.out qq_6) ?_;refine pz_ (i:=5) (N:=some 17) (bm 11 35) (Qit HT_.out qq_6) ?_;refine tz_ (i:=2) (N:=some 14) (bm 11 39) (Qja HT_.out HW_.out qq_6) d ?_;refine tz_ (i:=6) (N:=some 18) (bm 11 103) (Qja HT_.out HW_.out qq_6) d ?_;refine pz_ (i:=7) (N:=some 19) (bm 11 231) (Qit HT_.out qq_6) ?_;refine one_ (i:=3) (N:=some 15) (bm 11 239) rfl rfl (Qiu HT_.out qq_6) (by decide) (fun K hK=>?_);refine Qht Tryz.func103 qq_6 rfl #[.int .u64 ((Qkv l0 x8_1).f0),.int .i64 8] (by rfl) rfl rfl qq_1 ?_;with_reducible refine(Qau.calls k1 ((Qkv l0 x8_1).f0) 8 j _ A5.out).mono ?_
        rintro e ab ⟨rfl,hb⟩;refine⟨_,rfl,?_⟩;have n_:=qn2 (Qfe (g:=b) (o:=.cells #[.int .u64 ((Qkv l0 x8_1).f0),.int .u32 ((Qkv l0 x8_1).f1)] 122 (0,0)) qq_0 hb) (Qgk qq_b hb);clear a HB;obtain⟨a,HB⟩:=n_
        (try clear hb)
        (try clear hb2)
        (try clear hk)
        (try clear hi)
        refine hK.out _ _ ⟨(Qep a.out 0).trans rfl,(Qep a.out 1).trans rfl⟩ (fun d=>?_);clear hK K;refine nzp_ 15 ?_;refine pz_ (i:=4) (N:=some 16) (bm 11 255) (Qit HT_.out qq_6) ?_;refine one_ (i:=8) (N:=some 20) (bm 11 511) rfl rfl (Qiu HT_.out qq_6) (by decide) (fun K hK=>?_);refine Qht Tryz.func103 qq_6 rfl #[.int .u64 (IntKind.u64.wrap ((Qkv l0 x8_1).f1)),.int .i64 4] (by rfl) rfl rfl qq_1 ?_;with_reducible refine(Qau.calls k1 (IntKind.u64.wrap ((Qkv l0 x8_1).f1)) 4 p _ A7.out).mono ?_
        rintro e ac ⟨rfl,hb⟩;refine⟨_,rfl,?_⟩;have n_:=qn2 (Qfe (g:=b) (o:=.cells #[.int .u64 ((Qkv l0 x8_1).f0),.int .u32 ((Qkv l0 x8_1).f1)] 122 (0,0)) qq_0 hb) (Qgk qq_b hb);clear a HB;obtain⟨a,HB⟩:=n_
        (try clear hb)
        (try clear hb2)
        (try clear hk)
        (try clear hi)
        refine hK.out _ _ ⟨(Qep a.out 0).trans rfl,(Qep a.out 1).trans rfl⟩ (fun d=>?_);clear hK K;refine nzp_ 20 ?_;refine pz_ (i:=9) (N:=some 21) (bm 11 1023) (Qit HT_.out qq_6) ?_;refine pz_ (i:=10) (N:=some 3) (bm 11 2047) (Qit HT_.out qq_6) ?_;refine Qhn (Qiw HT_.out qq_6) ?_
        try go_wp2
        go_roundg k1
        case measure=>have:=HK1.out;omega
        case rel=>exact⟨((c++j)++p),(wrap64 (x8_1+1)),qq_8,qq_8,H',⟨by have:=HK1.out;omega⟩,⟨qq_b⟩⟩
       ·rw[if_neg c8]at H;exact absurd H (by simp)
      ·rw[if_neg c6]at H;exact absurd H (by simp)
     ·rw[if_neg c4]at H;exact absurd H (by simp)
    ·rw[if_neg c3]at H;exact absurd H (by simp)
   ·rw[if_neg c2]at H;have z:=decide_eq_false c2;clear c2;obtain rfl:=Option.some.inj H;go_wp2;go_ret
    exact⟨qq_7,qq_b⟩
def Qbx.l0:Nat→List Int→List (S122)→Int→Int→Option (List Int)
 | 0,_,_,_,_=>none
 | k+1,x3,x6,x7,x8=>if x8<x7 then(if 0≤x8 then(if x8<(x6.length:Int)then(if(Int.tmod x8 16)=0 then(if x3.length<17592186044416 then(Qbx.l0 k (x3++[(Qkv x6 x8).f0]) x6 x7 (wrap64 (x8+1)))else(none))else(Qbx.l0 k x3 x6 x7 (wrap64 (x8+1))))else(none))else(none))else(some x3)
def Qbx.f(k:Nat)(l0:List (S122)):Option (List Int):=Qbx.l0 k ([]:List Int) l0 (l0.length:Int) 0
theorem Qbx.calls (k:Nat) (A0:Option Addr) (c0:Nat) (l0:List (S122)) (r:List Int) (w:World) (hr0:Kd.C k122 w A0 l0.length l0) (hc0:l0.length≤c0) (h:Qbx.f k l0=some r) :
  Calls Tryz.prog 123 #[.slice A0 l0.length c0] w fun e w'=>∃B:Value,e=.returned (B)∧Kd.R (Kd.int .u64) 34 w' w.heap.size (fun _=>True) B r∧Below w.heap.size w w':=by
 have hu122:=Tryz.underlying122;have D:=QA hr0;have Y:=QA hc0;clear hr0 hc0;have HB:=QA (Below.refl w.heap.size w);have H:(Qbx.l0 k ([]:List Int) l0 (l0.length:Int) 0)=some r:=h;clear h;have H':=QA H;clear H
 go_enter Tryz.func123,Tryz.ntmps123
 go_wp2
 go_loopg [3,8] k (fun kq v3 v8 w'=>∃(l:List Int) (x8_1:Int),v8=.int .i64 x8_1∧Aside0 (Qbx.l0 kq l l0 (l0.length:Int) x8_1=some r)∧Aside0 (kq≤k)∧Aside0 (Kd.R (Kd.int .u64) 34 w' w.heap.size (fun _=>True) v3 l)∧Aside0 (Below w.heap.size w w'))
 case atStart=>exact⟨(([]:List Int)),(0),qq_8,H',⟨Nat.le_refl _⟩,⟨by first|exact Kd.R_nil _ _ _ _ _|exact Kd.N_nil _ _ _ _ _|exact Kd.V_nil _ _ _ _ _|exact Kd.Q_nil _ _ _ _ _|exact Kd.S_nil _ _ _ _ _⟩,⟨qq_b⟩⟩
 case round =>
  clear H';obtain⟨l,x8_1,rfl,HA,HK1,HO_3,HB⟩:=hrel
  cases gk with
  | zero=>exact absurd HA.out (by simp[Qbx.l0])
  | succ k1 =>
   have H:=HA.out;clear HA;simp only[Qbx.l0]at H
   by_cases c2:x8_1<(l0.length:Int)
   ·rw [if_pos c2]at H;have E:=decide_eq_true c2;clear c2
    by_cases c3:0≤x8_1
    ·rw [if_pos c3]at H;have T:=decide_eq_true c3;clear c3
     by_cases c4:x8_1<(l0.length:Int)
     ·rw[if_pos c4]at H;have U:=decide_eq_true c4;clear c4
      by_cases c5:(Int.tmod x8_1 16)=0
      ·rw[if_pos c5]at H;have G:((Int.tmod x8_1 16) == 0)=true:=beq_iff_eq.mpr c5;have I:((Int.tmod x8_1 16) != 0)=false:=bne_eq_false_iff_eq.mpr c5;clear c5
       by_cases c6:l.length<17592186044416
       ·rw[if_pos c6]at H;have J:=QA c6;clear c6;obtain⟨t,q⟩:∃y_:List Int,y_=(l++[(Qkv l0 x8_1).f0]):=⟨_,rfl⟩;replace H:(Qbx.l0 k1 t l0 (l0.length:Int) (wrap64 (x8_1+1)))=some r:=by first |(rw[q];with_reducible exact H) |(have u:=(Option.bind_some _ _).symm.trans H;rw[q];with_reducible exact u) |(have u:=(Option.bind_some _ _).symm.trans H;with_reducible exact u)|with_reducible exact H |(rw[q];exact H)|exact H
        have v:=QA q;clear q;have H':=QA H;clear H;have m:0≤(x8_1:Int):=of_decide_eq_true qq_5;have n:x8_1<(l0.length:Int):=of_decide_eq_true qq_5;obtain⟨x,s,d,j⟩:=Qkw D.out x8_1 m n
        cases s
        replace d:=qq_h HB.out d;replace j:=qq_h HB.out j;replace m:=eq_true m;replace n:=eq_true n
        go_wp2_with (first |((with_reducible refine Qgv (N:=5) rfl ?_);refine qq_e 5 #[.int .u64 0,.int .u32 0] 122 ?_;intro a hg w7 hbox hb;have n_:=qn5 (Kd.R_below qq_2 hb) (Qgk qq_b hb) (hbox) (qq_s hg:w.heap.size≤a) (qq_s hg:w.heap.size≤a);clear HO_3 HB;obtain⟨HO_3,HB,c,y,z⟩:=n_;clear hb hbox hg;obtain⟨M,O⟩:=qc2 c.out;have W:=Qeq c.out) |((with_reducible refine Qjv (b:=.append) (xs:=#[.tmp 16,.tmp 19]) rfl ?_);at_builtin;refine Kd.R_append (Kd.int .u64) (w0:=w) w.heap.size rfl (.tmp 16) (.tmp 19) 70 34 (.int .u64 0) 8 rfl Tryz.underlying70 Qkf rfl (by decide) (by omega) u3 l ((Qkv l0 x8_1).f0) [.int .u64 ((Qkv l0 x8_1).f0)] (fun _=>True) (fun _=>False) rfl qq_14 ?aP (fun _ hk=>hk.elim) ?aF ?aO ?aB ?aS ?aL ?_;(case aP=>exact rfl);(case aB=>exact qq_b);(case aF=>exact(fun _ _=>trivial));(case aO=>exact(by(with_reducible repeat(first|apply Kd.R_alloc|apply Kd.R_drewN|apply Kd.R_drew));exact Kd.R_mono (Kd.R_far (p:=⟨a,1,none⟩) (Kd.R_far (p:=⟨a,0,none⟩) (Kd.R_types HO_3.out c.out (by decide)) (fun _ hk=>hk.2) (.int .u64 ((Qkv l0 x8_1).f0))) (fun _ hk=>hk.2) (.int .u32 ((Qkv l0 x8_1).f1))) (fun _ hk=>trivial)));(case aS=>exact(Qgj qq_b));(case aL=>have:=J.out;omega);intro X w9 ho hb hg hat;rw[← v.out]at ho;have n_:=qn3 (Qer (g:=a) (o:=.cells #[.int .u64 ((Qkv l0 x8_1).f0),.int .u32 ((Qkv l0 x8_1).f1)] 122 (0,0)) qq_x hg (Kd.R_ne HO_3.out c.out (by decide))) (hb) (ho);clear c HB HO_3;obtain⟨c,HB,A⟩:=n_;clear ho hb hg hat))
        go_roundg k1
        case measure=>have:=HK1.out;omega
        case rel=>exact⟨(t),(wrap64 (x8_1+1)),qq_8,H',⟨by have:=HK1.out;omega⟩,⟨by(with_reducible repeat(first|apply Kd.R_alloc|apply Kd.R_drewN|apply Kd.R_drew));exact A.out⟩,⟨qq_b⟩⟩
       ·rw[if_neg c6]at H;exact absurd H (by simp)
      ·rw[if_neg c5]at H;have G:((Int.tmod x8_1 16) == 0)=false:=beq_eq_false_iff_ne.mpr c5;have I:((Int.tmod x8_1 16) != 0)=true:=bne_iff_ne.mpr c5;have H':=QA H;clear H;have m:0≤(x8_1:Int):=of_decide_eq_true qq_5;have n:x8_1<(l0.length:Int):=of_decide_eq_true qq_5;obtain⟨x,s,d,j⟩:=Qkw D.out x8_1 m n
       cases s
       replace d:=qq_h HB.out d;replace j:=qq_h HB.out j;replace m:=eq_true m;replace n:=eq_true n
       go_wp2_with (first |((with_reducible refine Qgv (N:=5) rfl ?_);refine qq_e 5 #[.int .u64 0,.int .u32 0] 122 ?_;intro a hg Z hbox hb;have n_:=qn5 (Kd.R_below qq_2 hb) (Qgk qq_b hb) (hbox) (qq_s hg:w.heap.size≤a) (qq_s hg:w.heap.size≤a);clear HO_3 HB;obtain⟨HO_3,HB,c,y,z⟩:=n_;clear hb hbox hg;obtain⟨K,L⟩:=qc2 c.out;have P:=Qeq c.out))
       go_roundg k1
       case measure=>have:=HK1.out;omega
       case rel=>exact⟨(l),(wrap64 (x8_1+1)),qq_8,H',⟨by have:=HK1.out;omega⟩,⟨by(with_reducible repeat(first|apply Kd.R_alloc|apply Kd.R_drewN|apply Kd.R_drew));exact Kd.R_mono (Kd.R_far (p:=⟨a,1,none⟩) (Kd.R_far (p:=⟨a,0,none⟩) (Kd.R_types HO_3.out c.out (by decide)) (fun _ hk=>hk.2) (.int .u64 ((Qkv l0 x8_1).f0))) (fun _ hk=>hk.2) (.int .u32 ((Qkv l0 x8_1).f1))) (fun _ hk=>trivial)⟩,⟨qq_b⟩⟩
     ·rw[if_neg c4]at H;exact absurd H (by simp)
    ·rw[if_neg c3]at H;exact absurd H (by simp)
   ·rw[if_neg c2]at H;have E:=decide_eq_false c2;clear c2;obtain rfl:=Option.some.inj H;go_wp2;go_ret
    exact⟨_,by first|rfl |(simp[Qkb,Qkc]<;>rfl) |(simp[*,Qkb,Qkc]<;>rfl),by(with_reducible repeat(first|apply Kd.R_alloc|apply Kd.R_drewN|apply Kd.R_drew));exact HO_3.out,qq_b⟩
def Qby.l0:Nat→ByteArray→List Int→Int→Int→Option (ByteArray)
 | 0,_,_,_,_=>none
 | k+1,x3,x6,x7,x8=>if x8<x7 then(if 0≤x8 then(if x8<(x6.length:Int)then((Qau.f k (rd x6 x8) 8).bind fun t468=>(if x3.size+t468.size≤9223372036854775807 then(Qby.l0 k (x3++t468) x6 x7 (wrap64 (x8+1)))else(none)))else(none))else(none))else(some x3)
def Qby.f(k:Nat)(l0:List Int):Option (ByteArray):=Qby.l0 k (⟨#[]⟩:ByteArray) l0 (l0.length:Int) 0
theorem Qby.calls(k:Nat)(A0:Option Addr)(c0:Nat)(l0:List Int)(r:ByteArray)(w:World)(hr0:Kd.C (Kd.int .u64) w A0 l0.length l0)(hc0:l0.length≤c0)(h:Qby.f k l0=some r) :
  Calls Tryz.prog 122 #[.slice A0 l0.length c0] w fun e w'=>e=.returned (.string r)∧Below w.heap.size w w':=by
 have n:=QA hr0;have v:=QA hc0;clear hr0 hc0;have HB:=QA (Below.refl w.heap.size w);have H:(Qby.l0 k (⟨#[]⟩:ByteArray) l0 (l0.length:Int) 0)=some r:=h;clear h;have H':=QA H;clear H
 go_enter Tryz.func122,Tryz.ntmps122
 go_wp2
 go_loopg [3,8] k (fun kq v3 v8 w'=>∃(a:ByteArray) (x8_1:Int),v3=.string a∧v8=.int .i64 x8_1∧Aside0 (Qby.l0 kq a l0 (l0.length:Int) x8_1=some r)∧Aside0 (kq≤k)∧Aside0 (Below w.heap.size w w'))
 case atStart=>exact⟨((⟨#[]⟩:ByteArray)),(0),qq_8,qq_8,H',⟨Nat.le_refl _⟩,⟨qq_b⟩⟩
 case round =>
  clear H';obtain⟨a,x8_1,rfl,rfl,HA,HK1,HB⟩:=hrel
  cases gk with
  | zero=>exact absurd HA.out (by simp[Qby.l0])
  | succ k1 =>
   have H:=HA.out;clear HA;simp only[Qby.l0]at H
   by_cases c2:x8_1<(l0.length:Int)
   ·rw [if_pos c2]at H;have l:=decide_eq_true c2;clear c2
    by_cases c3:0≤x8_1
    ·rw[if_pos c3]at H;have p:=decide_eq_true c3;clear c3
     by_cases c4:x8_1<(l0.length:Int)
     ·rw[if_pos c4]at H;have q:=decide_eq_true c4;clear c4;replace H:=Option.bind_eq_some_iff.mp H;obtain⟨c,j,H⟩:=H;have A5:=QA j;clear j
      by_cases c6:a.size+c.size≤9223372036854775807
      ·rw[if_pos c6]at H;have s:=eq_true c6;have t:=decide_eq_true c6
       try have u:(9223372036854775807<a.size+c.size)=False:=eq_false (Nat.not_lt.2 c6)
       have H':=QA H;clear H;have d:0≤(x8_1:Int):=of_decide_eq_true qq_5;have g:x8_1<(l0.length:Int):=of_decide_eq_true qq_5;obtain⟨o,m,b⟩:=Kd.at_int n.out x8_1 d g
       cases m
       replace b:=qq_h HB.out b;replace d:=eq_true d;replace g:=eq_true g
       go_wp2_with (first |((with_reducible refine Qju (f:=103) rfl ?_);refine Qhu (some 14) rfl rfl Tryz.func103 qq_6 rfl #[.int .u64 (rd l0 x8_1),.int .i64 8] rfl qq_1 ?_;(with_reducible refine(Qau.calls k1 (rd l0 x8_1) 8 c _ A5.out).mono ?_);rintro e w7 ⟨rfl,hb⟩;refine⟨_,rfl,?_⟩;have n_:=qn1 (Qgk qq_b hb);clear HB;have HB:=n_;clear n_;(try clear hb);(try clear hb2);(try clear hk);(try clear hi)))
       go_roundg k1
       case measure=>have:=HK1.out;omega
       case rel=>exact⟨(a++c),(wrap64 (x8_1+1)),qq_8,qq_8,H',⟨by have:=HK1.out;omega⟩,⟨qq_b⟩⟩
      ·rw[if_neg c6]at H;exact absurd H (by simp)
     ·rw[if_neg c4]at H;exact absurd H (by simp)
    ·rw[if_neg c3]at H;exact absurd H (by simp)
   ·rw[if_neg c2]at H;have l:=decide_eq_false c2;clear c2;obtain rfl:=Option.some.inj H;go_wp2;go_ret
    exact⟨qq_7,qq_b⟩
def Qcf.l0:Nat→List Int→Int→Int→Option (ByteArray)
 | 0,_,_,_=>none
 | k+1,x3,x9,x10=>if x10<x9 then(if 0≤x10 then(if x10<(x3.length:Int)then(Qcf.l0 k (x3.set (x10:Int).toNat 255) x9 (wrap64 (x10+1)))else(none))else(none))else(some (strOfNums x3))
def Qcf.f(k:Nat)(a0:Int):Option (ByteArray):=if 0≤(mx 0 a0)then(if(mx 0 a0:Int).toNat≤281474976710656 then((some (List.replicate (mx 0 a0:Int).toNat 0:List Int)).bind fun y483=>(Qcf.l0 k y483 (y483.length:Int) 0))else(none))else(none)
theorem Qcf.calls (k:Nat) (a0:Int) (r:ByteArray) (w:World) (h:Qcf.f k a0=some r) :
  Calls Tryz.prog 72 #[.int .i64 a0] w fun e w'=>e=.returned (.string r)∧Below w.heap.size w w':=by
 have HB:=QA (Below.refl w.heap.size w);have H:(if 0≤(mx 0 a0)then(if(mx 0 a0:Int).toNat≤281474976710656 then((some (List.replicate (mx 0 a0:Int).toNat 0:List Int)).bind fun a=>(Qcf.l0 k a (a.length:Int) 0))else(none))else(none))=some r:=h;clear h;obtain⟨b,hji2⟩:∃j_:Int,(mx 0 a0)=j_:=⟨_,rfl⟩;replace H:(if 0≤(b)then(if(b:Int).toNat≤281474976710656 then((some (List.replicate (b:Int).toNat 0:List Int)).bind fun a=>(Qcf.l0 k a (a.length:Int) 0))else(none))else(none))=some r:=by first |(rw[hji2]at H;exact H) |(simp only[hji2]at H ⊢;exact H)
 (try(have K:0≤b:=by(rw[← hji2];unfold mx;(repeat' split)<;>omega)))
 (try(have L:0≤b:=by omega))
 have M:(if 0<a0 then a0 else 0)=b:=hji2
 by_cases c3:0≤(b)
 ·rw [if_pos c3]at H;have A:=eq_true c3;have B:=decide_eq_true c3;clear c3
  by_cases c4:(b:Int).toNat≤281474976710656
  ·rw [if_pos c4]at H;have D:=eq_true c4;have E:=decide_eq_true c4;clear c4;obtain⟨a,d⟩:∃y_:List Int,y_=(List.replicate (b:Int).toNat 0):=⟨_,rfl⟩;replace H:(Qcf.l0 k a (a.length:Int) 0)=some r:=by first |(rw[d];with_reducible exact H) |(have j:=(Option.bind_some _ _).symm.trans H;rw[d];with_reducible exact j) |(have j:=(Option.bind_some _ _).symm.trans H;with_reducible exact j)|with_reducible exact H |(rw[d];exact H)|exact H
   have n:=QA d;clear d;have H':=QA H;clear H
   go_enter Tryz.func72,Tryz.ntmps72
   go_wp2_with (first |((with_reducible refine Qgv (N:=7) rfl ?_);refine Kd.R_make (Kd.int .u8) _ 5 rfl (N:=7) rfl 52 _ _ rfl b rfl rfl Tryz.underlying52 (.int .u8 0) 1 Qkd rfl (by decide) (by omega) 0 (ok:=fun _=>True) (okp:=fun _=>True) rfl (fun _ hk=>hk) trivial (of_decide_eq_true qq_5) (Nat.le_trans (Nat.mul_le_mul_right _ (of_decide_eq_true qq_5:b.toNat≤281474976710656)) (by omega)) (Below.refl _ _) (Nat.le_refl _) ?_;intro U w5 l hb hg_ hnew_;clear hg_ hnew_;(first|rw[← n.out]at l |(simp only[Int.reduceToNat]at l;rw[← n.out]at l));have n_:=qn2 (Kd.R_lower l (Qgj qq_b)) (Qgk qq_b hb);clear HB;obtain⟨o,HB⟩:=n_;clear hb l;obtain⟨Ao7,co7,eo7⟩:=Kd.R_slice o.out;subst eo7))
   go_loopg [10] k (fun kq I w'=>∃(c:List Int) (x10_1:Int),I=.int .i64 x10_1∧Aside0 (Qcf.l0 kq c (a.length:Int) x10_1=some r)∧Aside0 (kq≤k)∧Aside0 (Kd.R (Kd.int .u8) 5 w' w.heap.size (fun _=>True) (.slice Ao7 a.length co7) c)∧Aside0 (Below w.heap.size w w'))
   case atStart=>exact⟨(a),(0),qq_8,H',⟨Nat.le_refl _⟩,⟨by(with_reducible repeat(first|apply Kd.R_alloc|apply Kd.R_drewN|apply Kd.R_drew));exact o.out⟩,⟨qq_b⟩⟩
   case round =>
    clear H'
    try clear c3
    try clear A
    try clear B
    try clear c4
    try clear D
    try clear E
    obtain⟨c,x10_1,rfl,HA,HK1,HO_3,HB⟩:=hrel;have hl3_1:=(Kd.R_reads' HO_3.out).1;rw[hl3_1]at HO_3
    (try simp only[hl3_1])
    cases gk with
    | zero=>exact absurd HA.out (by simp[Qcf.l0])
    | succ k1 =>
     have H:=HA.out;clear HA;simp only[Qcf.l0]at H
     by_cases c8:x10_1<(a.length:Int)
     ·rw[if_pos c8]at H;have q:=decide_eq_true c8;clear c8
      by_cases c9:0≤x10_1
      ·rw[if_pos c9]at H;have W:=decide_eq_true c9;clear c9
       by_cases c10:x10_1<(c.length:Int)
       ·rw[if_pos c10]at H;have O:=decide_eq_true c10;clear c10;obtain⟨m,g⟩:∃y_:List Int,y_=(c.set (x10_1:Int).toNat 255):=⟨_,rfl⟩;replace H:(Qcf.l0 k1 m (a.length:Int) (wrap64 (x10_1+1)))=some r:=by first |(rw[g];with_reducible exact H) |(have j:=(Option.bind_some _ _).symm.trans H;rw[g];with_reducible exact j) |(have j:=(Option.bind_some _ _).symm.trans H;with_reducible exact j)|with_reducible exact H |(rw[g];exact H)|exact H
        have z:=QA g;clear g;have H':=QA H;clear H;have s:0≤(x10_1:Int):=of_decide_eq_true qq_5;have u:(x10_1:Int)<((c.length:Int):Int):=of_decide_eq_true qq_5;obtain⟨go11,co11,eo11,x,gl11,cl11,HG11⟩:=Kd.R_form HO_3.out (by omega)
        (first|cases eo11 |(injection eo11 with ea_ en_ ec_;(first|subst ea_ |(injection ea_ with ea_;subst ea_));subst ec_;clear en_))
        have GB11:=QA x;have GG11:=QA HG11;clear x gl11 HG11;obtain⟨J,hf11_0⟩:=Kd.R_celln 0 HO_3.out (x10_1:Int) s u;replace s:=eq_true s;replace u:=eq_true u;have HP12:=Kd.R_putg HO_3.out (x10_1:Int) 255
        go_wp2_with (first |((with_reducible refine Qgw (t:=5) (p:=15) rfl ?_);refine Qgu (t:=5) (p:=15) (v:=?vo_w13) (w1:=(wr.setCell ⟨go11,(x10_1:Int).toNat,none⟩ (.int .u8 255))) ?hg ?ho ?hn ?hr ?_;(case ho=>rfl);(case hg=>rfl);(case hn=>rfl);(case hr=>exact qq_14);intro y hw;have hg:wr.grownBy y (some go11):=(by rw[hw];exact HP12.2);have hp_:Kd.R (Kd.int .u8) 5 y w.heap.size (fun _=>True) (.slice (some ⟨go11,0,none⟩) c.length co7) m:=(by rw[hw,z.out];exact HP12.1);clear HP12;have n_:=qn2 (hp_) ((by rw[hw];exact Qgm (HB.out) GB11.out:Below w.heap.size w y));clear HO_3 HB;obtain⟨HO_3,HB⟩:=n_;clear hg hw hp_))
        (try simp only[← hl3_1])
        go_roundg k1
        case measure=>have:=HK1.out;omega
        case rel=>exact⟨(m),(wrap64 (x10_1+1)),qq_8,H',⟨by have:=HK1.out;omega⟩,⟨by(try simp only[hl3_1]);(with_reducible repeat(first|apply Kd.R_alloc|apply Kd.R_drewN|apply Kd.R_drew));exact HO_3.out⟩,⟨qq_b⟩⟩
       ·rw[if_neg c10]at H;exact absurd H (by simp)
      ·rw[if_neg c9]at H;exact absurd H (by simp)
     ·rw[if_neg c8]at H;have q:=decide_eq_false c8
      first |(have G:=q;simp only[hl3_1]at G)|skip
      clear c8;obtain rfl:=Option.some.inj H;have T:=Qea (P:=Tryz.prog) Tryz.underlying52 Tryz.underlying5 Tryz.underlying9 (Kd.own_of_R HO_3.out);go_wp2;go_ret
      exact⟨by first|rfl |(simp[Qkb,Qkc]<;>rfl) |(simp only[← hji2];first|rfl |(simp[Qkb,Qkc]<;>rfl)) |(simp[*,Qkb,Qkc]<;>rfl),qq_b⟩
  ·rw[if_neg c4]at H;exact absurd H (by simp)
 ·rw[if_neg c3]at H;exact absurd H (by simp)
def Qaw.f:Nat→Int→Option (ByteArray)
 | 0,_=>none
 | k+1,a0=>if a0<128 then(some (strOfNums (([(a0)%256]:List Int))))else((some (([(IntKind.u64.wrap (128+(Int.tmod a0 128)))%256]:List Int):List Int)).bind fun y295=>((Qaw.f k (IntKind.u64.wrap (Int.tdiv a0 128))).bind fun t298=>(if(strOfNums y295).size+t298.size≤9223372036854775807 then(some ((strOfNums y295)++t298))else(none))))
def Qaw.T3:Bool × List (List Nat × List Nat):=(true,[([],[]),([0],[0]),([1],[1]),([2],[2]),([3],[3]),([4],[4]),([],[]),([6],[6]),([7],[7]),([5,8],[5,8]),([9,8,0,1,2,3,4,5,6,7,8,9],[9])])
def Qaw.B3:List Nat:=[0,1,3,7,15,31,0,64,192,511,1023]
theorem Qaw.tab3:rtab .any (Qjd Tryz.f98 3)=Qaw.T3:=by kernel_rfl
theorem Qaw.bits3:Qix Qaw.T3.2 Qaw.B3=true:=by kernel_rfl
theorem Qaw.calls(k:Nat):∀(a0:Int) (r:ByteArray) (w:World) (h:Qaw.f k a0=some r),
  Calls Tryz.prog 98 #[.int .u64 a0] w fun e w'=>e=.returned (.string r)∧Below w.heap.size w w':=by
 induction k using Nat.strongRecOn with
 | _ k ih =>
 intro a0 r w h
 cases k with
 | zero=>exact absurd h (by simp[Qaw.f])
 | succ k =>
 simp only[Qaw.f]at h;have HB:=QA (Below.refl w.heap.size w);have H:(if a0<128 then(some (strOfNums (([(a0)%256]:List Int))))else((some (([(IntKind.u64.wrap (128+(Int.tmod a0 128)))%256]:List Int):List Int)).bind fun d=>((Qaw.f k (IntKind.u64.wrap (Int.tdiv a0 128))).bind fun b=>(if(strOfNums d).size+b.size≤9223372036854775807 then(some ((strOfNums d)++b))else(none)))))=some r:=h;clear h
 by_cases c2:a0<128
 ·rw[if_pos c2]at H;have J:=decide_eq_true c2;clear c2;obtain⟨L,g⟩:∃y_:List Int,y_=(([(a0)%256]:List Int)):=⟨_,rfl⟩;replace H:(some (strOfNums L))=some r:=by first |(rw[g];with_reducible exact H) |(have p:=(Option.bind_some _ _).symm.trans H;rw[g];with_reducible exact p) |(have p:=(Option.bind_some _ _).symm.trans H;with_reducible exact p)|with_reducible exact H |(rw[g];exact H)|exact H
  have x:=QA g;clear g;obtain rfl:=Option.some.inj H
  go_enter Tryz.func98,Tryz.ntmps98
  go_wp2_with (first |((with_reducible refine Qgv (N:=7) rfl ?_);refine Kd.R_lit (Kd.int .u8) _ 5 ?hg (N:=7) ?hd (xs:=([(a0)%256]:List Int)) (inner:=[.int .u8 ((a0)%256)]) (ok:=fun _=>True) (okp:=fun _=>True) ?hr ?hp (fun _ hk=>hk) trivial (Below.refl _ _) (Nat.le_refl _) (by simp) ?_;(case hd=>rfl);(case hg=>rfl);(case hr=>exact qq_14);(case hp=>exact(Reps.one (show Kd.M (Kd.int .u8) _ _ _ ((a0)%256) [.int .u8 ((a0)%256)] from rfl) (Reps.none _ _)));intro O w3 u hb hg_ hnew_;clear hg_ hnew_;(first|rw[← x.out]at u |(simp only[Int.reduceToNat]at u;rw[← x.out]at u));have n_:=qn2 (Kd.R_lower u (Qgj qq_b)) (Qgk qq_b hb);clear HB;obtain⟨y,HB⟩:=n_;clear hb u;have T:=Qea (P:=Tryz.prog) Tryz.underlying52 Tryz.underlying5 Tryz.underlying9 (Kd.own_of_R y.out)))
  go_ret
  exact⟨qq_7,qq_b⟩
 ·rw [if_neg c2]at H;have J:=decide_eq_false c2;clear c2;obtain⟨d,l⟩:∃y_:List Int,y_=(([(IntKind.u64.wrap (128+(Int.tmod a0 128)))%256]:List Int)):=⟨_,rfl⟩;replace H:((Qaw.f k (IntKind.u64.wrap (Int.tdiv a0 128))).bind fun b=>(if(strOfNums d).size+b.size≤9223372036854775807 then(some ((strOfNums d)++b))else(none)))=some r:=by first |(rw[l];with_reducible exact H) |(have p:=(Option.bind_some _ _).symm.trans H;rw[l];with_reducible exact p) |(have p:=(Option.bind_some _ _).symm.trans H;with_reducible exact p)|with_reducible exact H |(rw[l];exact H)|exact H
  have o:=QA l;clear l;replace H:=Option.bind_eq_some_iff.mp H;obtain⟨b,A,H⟩:=H;have A6:=QA A;clear A
  by_cases c7:(strOfNums d).size+b.size≤9223372036854775807
  ·rw [if_pos c7]at H;have U:=eq_true c7;have W:=decide_eq_true c7
   try have X:(9223372036854775807<(strOfNums d).size+b.size)=False:=eq_false (Nat.not_lt.2 c7)
   obtain rfl:=Option.some.inj H
   go_enter Tryz.func98,Tryz.ntmps98
   try go_wp2
   have n_:=qn1 (Qgr HB.out);clear HB;have HB:=n_;clear n_;refine Qhk (n:=11) (S:=fun w'=>True) (ds:=[]) (bm 11 0) qq_6 rfl rfl trivial (fun a=>?_);refine Qjb Qaw.tab3 Qaw.bits3 (fun HT_ HW_=>?_);generalize w.drew=w8 at HB a ⊢;refine pz_ (i:=0) (N:=some 9) (bm 11 1) (Qit HT_.out qq_6) ?_;refine pz_ (i:=1) (N:=some 10) (bm 11 3) (Qit HT_.out qq_6) ?_;refine pz_ (i:=2) (N:=some 11) (bm 11 7) (Qit HT_.out qq_6) ?_;refine pz_ (i:=3) (N:=some 12) (bm 11 15) (Qit HT_.out qq_6) ?_;refine pz_ (i:=6) (N:=some 15) (bm 11 79) (Qit HT_.out qq_6) ?_;refine pz_ (i:=7) (N:=some 16) (bm 11 207) (Qit HT_.out qq_6) ?_;refine Qhq (σ:=Value) 2 (bm 11 511) (fun s_=>[(13,s_),(14,.string (strOfNums d)),(17,.string b)]) (fun s_ w'=>(Kd.R (Kd.int .u8) 5 w' w.heap.size (fun _=>True) s_ d)∧(Below w.heap.size w w')) ?_ ?_;rotate_left
   ·intro hCont;refine two_ (i:=4) (j:=8) (Ni:=some 13) (Nj:=some 17) (bm 11 223) (bm 11 463) rfl rfl rfl rfl (Qiv HT_.out qq_6) (by decide) (by decide) (fun K hK=>?_) (fun K hK=>?_)
    ·skip
     refine Kd.R_lit_step (Kd.int .u8) _ 5 ?hg (N:=13) ?hd (xs:=([(IntKind.u64.wrap (128+(Int.tmod a0 128)))%256]:List Int)) (inner:=[.int .u8 ((IntKind.u64.wrap (128+(Int.tmod a0 128)))%256)]) (ok:=fun _=>True) (okp:=fun _=>True) ?hr ?hp (fun _ hk=>hk) trivial (Below.refl _ _) (Nat.le_refl _) (by simp) ?_;(case hd=>rfl);(case hg=>rfl);(case hr=>exact qq_14);(case hp=>exact(Reps.one (show Kd.M (Kd.int .u8) _ _ _ ((IntKind.u64.wrap (128+(Int.tmod a0 128)))%256) [.int .u8 ((IntKind.u64.wrap (128+(Int.tmod a0 128)))%256)] from rfl) (Reps.none _ _)));intro m w9 q hb hg_ hnew_;clear hg_ hnew_
     (first|rw[← o.out]at q |(simp only[Int.reduceToNat]at q;rw[← o.out]at q))
     have n_:=qn2 (Kd.R_lower q (Qgj qq_b)) (Qgk qq_b hb);clear HB;obtain⟨c,HB⟩:=n_;clear hb q;refine hK.out _ _ trivial (fun a=>?_);clear hK K;refine nzp_ 13 ?_;refine two_ (i:=5) (j:=8) (Ni:=some 14) (Nj:=some 17) (bm 11 255) (bm 11 479) rfl rfl rfl rfl (Qiv HT_.out qq_6) (by decide) (by decide) (fun K hK=>?_) (fun K hK=>?_)
     ·skip
      have z:=Qea (P:=Tryz.prog) Tryz.underlying52 Tryz.underlying5 Tryz.underlying9 (Kd.own_of_R c.out);refine Qhv (w1:=?_) (v:=?_) (by rfl) rfl ?_ ?_;rotate_left 2
      ·go_simp
       constructor
       ·rfl
       ·rfl
      clear z;refine hK.out _ _ trivial (fun a=>?_);clear hK K;refine nzp_ 14 ?_;refine one_ (i:=8) (N:=some 17) (bm 11 511) rfl rfl (Qiu HT_.out qq_6) (by decide) (fun K hK=>?_);refine Qht Tryz.func98 qq_6 rfl #[.int .u64 (IntKind.u64.wrap (Int.tdiv a0 128))] (by rfl) rfl rfl qq_1 ?_;with_reducible refine(ih k (by omega) (IntKind.u64.wrap (Int.tdiv a0 128)) b _ A6.out).mono ?_
      rintro e Y ⟨rfl,hb⟩;refine⟨_,rfl,?_⟩;have n_:=qn2 (Kd.R_below qq_2 hb) (Qgk qq_b hb);clear c HB;obtain⟨c,HB⟩:=n_
      (try clear hb)
      (try clear hb2)
      (try clear hk)
      (try clear hi)
      refine hK.out _ _ trivial (fun a=>?_);clear hK K;refine nzp_ 17 ?_;exact Qhr (by simp only[Qhp,Act.put,List.setIfInBounds_toArray,List.set_cons_zero,List.set_cons_succ]) (hCont (m) _ ⟨qq_2,qq_b⟩)
     ·skip
      refine Qht Tryz.func98 qq_6 rfl #[.int .u64 (IntKind.u64.wrap (Int.tdiv a0 128))] (by rfl) rfl rfl qq_1 ?_;with_reducible refine(ih k (by omega) (IntKind.u64.wrap (Int.tdiv a0 128)) b _ A6.out).mono ?_
      rintro e Z ⟨rfl,hb⟩;refine⟨_,rfl,?_⟩;have n_:=qn2 (Kd.R_below qq_2 hb) (Qgk qq_b hb);clear c HB;obtain⟨c,HB⟩:=n_
      (try clear hb)
      (try clear hb2)
      (try clear hk)
      (try clear hi)
      refine hK.out _ _ trivial (fun a=>?_);clear hK K;refine nzp_ 17 ?_;refine one_ (i:=5) (N:=some 14) (bm 11 511) rfl rfl (Qiu HT_.out qq_6) (by decide) (fun K hK=>?_);have t:=Qea (P:=Tryz.prog) Tryz.underlying52 Tryz.underlying5 Tryz.underlying9 (Kd.own_of_R c.out);refine Qhv (w1:=?_) (v:=?_) (by rfl) rfl ?_ ?_;rotate_left 2
      ·go_simp
       constructor
       ·rfl
       ·rfl
      clear t;refine hK.out _ _ trivial (fun a=>?_);clear hK K;refine nzp_ 14 ?_;exact Qhr (by simp only[Qhp,Act.put,List.setIfInBounds_toArray,List.set_cons_zero,List.set_cons_succ]) (hCont (m) _ ⟨qq_2,qq_b⟩)
    ·skip
     refine Qht Tryz.func98 qq_6 rfl #[.int .u64 (IntKind.u64.wrap (Int.tdiv a0 128))] (by rfl) rfl rfl qq_1 ?_;with_reducible refine(ih k (by omega) (IntKind.u64.wrap (Int.tdiv a0 128)) b _ A6.out).mono ?_
     rintro e w9 ⟨rfl,hb⟩;refine⟨_,rfl,?_⟩;have n_:=qn1 (Qgk qq_b hb);clear HB;have HB:=n_;clear n_
     (try clear hb)
     (try clear hb2)
     (try clear hk)
     (try clear hi)
     refine hK.out _ _ trivial (fun a=>?_);clear hK K;refine nzp_ 17 ?_;refine one_ (i:=4) (N:=some 13) (bm 11 479) rfl rfl (Qiu HT_.out qq_6) (by decide) (fun K hK=>?_);refine Kd.R_lit_step (Kd.int .u8) _ 5 ?hg (N:=13) ?hd (xs:=([(IntKind.u64.wrap (128+(Int.tmod a0 128)))%256]:List Int)) (inner:=[.int .u8 ((IntKind.u64.wrap (128+(Int.tmod a0 128)))%256)]) (ok:=fun _=>True) (okp:=fun _=>True) ?hr ?hp (fun _ hk=>hk) trivial (Below.refl _ _) (Nat.le_refl _) (by simp) ?_;(case hd=>rfl);(case hg=>rfl);(case hr=>exact qq_14);(case hp=>exact(Reps.one (show Kd.M (Kd.int .u8) _ _ _ ((IntKind.u64.wrap (128+(Int.tmod a0 128)))%256) [.int .u8 ((IntKind.u64.wrap (128+(Int.tmod a0 128)))%256)] from rfl) (Reps.none _ _)));intro m aa s hb hg_ hnew_;clear hg_ hnew_
     (first|rw[← o.out]at s |(simp only[Int.reduceToNat]at s;rw[← o.out]at s))
     have n_:=qn2 (Kd.R_lower s (Qgj qq_b)) (Qgk qq_b hb);clear HB;obtain⟨c,HB⟩:=n_;clear hb s;refine hK.out _ _ trivial (fun a=>?_);clear hK K;refine nzp_ 13 ?_;refine one_ (i:=5) (N:=some 14) (bm 11 511) rfl rfl (Qiu HT_.out qq_6) (by decide) (fun K hK=>?_);have t:=Qea (P:=Tryz.prog) Tryz.underlying52 Tryz.underlying5 Tryz.underlying9 (Kd.own_of_R c.out);refine Qhv (w1:=?_) (v:=?_) (by rfl) rfl ?_ ?_;rotate_left 2
     ·go_simp
      constructor
      ·rfl
      ·rfl
     clear t;refine hK.out _ _ trivial (fun a=>?_);clear hK K;refine nzp_ 14 ?_;exact Qhr (by simp only[Qhp,Act.put,List.setIfInBounds_toArray,List.set_cons_zero,List.set_cons_succ]) (hCont (m) _ ⟨qq_2,qq_b⟩)
   rintro m B ⟨D,E⟩;have G:Aside0 (Kd.R (Kd.int .u8) 5 B w.heap.size (fun _=>True) m d):=⟨D⟩;have I:Aside0 (Below w.heap.size w B):=⟨E⟩;clear HB D E;have c:=G;have HB:=I;clear G I;have a:=trivial;refine nza_ ?_;refine pz_ (i:=9) (N:=some 18) (bm 11 1023) (Qit HT_.out qq_6) ?_;refine pz_ (i:=10) (N:=some 2) (bm 11 2047) (Qit HT_.out qq_6) ?_;refine Qhn (Qiw HT_.out qq_6) ?_
   try go_wp2
   go_ret
   exact⟨qq_7,qq_b⟩
  ·rw[if_neg c7]at H;exact absurd H (by simp)
theorem eqA122(d:Nat)(w:World)(x0 y0:Int)(x1 y1:Int) :
  (Op.equalIn (d+2) 122 (.agg #[.int .u64 x0,.int .u32 x1]) (.agg #[.int .u64 y0,.int .u32 y1])).run Tryz.prog w=.ok (x0 == y0 && (x1 == y1)) w:=by
 refine Qjk Tryz.underlying122 qq_6 ?_;refine Qjj (by rfl) (by go_simp;rfl) (by go_simp;rfl) (by go_simp) ?_;exact Qji (by rfl) (by go_simp;rfl) (by go_simp;rfl) (by go_simp)
def Qbw.f(a0_0:Int)(a0_1:Int)(a1_0:Int)(a1_1:Int):Option (Bool):=if a0_0<a1_0 then(some true)else(if a0_0=a1_0 then(some (decide (a0_1<a1_1)))else(some false))
theorem Qbw.calls(b:Int)(j:Int)(k:Int)(p:Int)(r:Bool)(w:World)(h:Qbw.f b j k p=some r) :
  Calls Tryz.prog 158 #[.agg #[.int .u64 b,.int .u32 j],.agg #[.int .u64 k,.int .u32 p]] w fun e w'=>e=.returned (.bool r)∧Below w.heap.size w w':=by
 have hu122:=Tryz.underlying122;have HB:=QA (Below.refl w.heap.size w);have H:(if b<k then(some true)else(if b=k then(some (decide (j<p)))else(some false)))=some r:=h;clear h
 by_cases c3:b<k
 ·rw[if_pos c3]at H;have v:=decide_eq_true c3;clear c3;obtain rfl:=Option.some.inj H
  go_enter Tryz.func158,Tryz.ntmps158
  go_wp2_with (first |((with_reducible refine Qgv (N:=2) rfl ?_);refine qq_e 2 #[.int .u64 b,.int .u32 j] 122 ?_;intro a hg w4 hbox hb;have n_:=qn4 (Qgk qq_b hb) (hbox) (qq_s hg:w.heap.size≤a) (qq_s hg:w.heap.size≤a);clear HB;obtain⟨HB,c,q,s⟩:=n_;clear hb hbox hg) |((with_reducible refine Qgv (N:=3) rfl ?_);refine qq_e 3 #[.int .u64 k,.int .u32 p] 122 ?_;intro d hg w5 hbox hb;have n_:=qn7 (Qfe (g:=a) (o:=.cells #[.int .u64 b,.int .u32 j] 122 (0,0)) qq_0 hb) (Qgk qq_b hb) (hbox) (qq_s hg:w.heap.size≤d) (qq_s hg:w.heap.size≤d) ((by rw[hg];exact Nat.ne_of_lt (Qeo (g:=a) (o:=.cells #[.int .u64 b,.int .u32 j] 122 (0,0)) qq_0):a≠d)) ((by rw[hg];exact Nat.ne_of_gt (Qeo (g:=a) (o:=.cells #[.int .u64 b,.int .u32 j] 122 (0,0)) qq_0):d≠a));clear c HB;obtain⟨c,HB,n,t,u,l,m⟩:=n_;clear hb hbox hg;have ab:=l.out;have ac:=m.out;obtain⟨K,L⟩:=qc2 c.out;have ad:=Qeq c.out;obtain⟨M,O⟩:=qc2 n.out;have ae:=Qeq n.out))
  go_ret
  exact⟨qq_7,qq_b⟩
 ·rw[if_neg c3]at H;have v:=decide_eq_false c3;clear c3
  by_cases c9:b=k
  ·rw[if_pos c9]at H;have x:(b == k)=true:=beq_iff_eq.mpr c9;have y:(b != k)=false:=bne_eq_false_iff_eq.mpr c9;clear c9;obtain rfl:=Option.some.inj H
   go_enter Tryz.func158,Tryz.ntmps158
   go_wp2_with (first |((with_reducible refine Qgv (N:=2) rfl ?_);refine qq_e 2 #[.int .u64 b,.int .u32 j] 122 ?_;intro a hg af hbox hb;have n_:=qn4 (Qgk qq_b hb) (hbox) (qq_s hg:w.heap.size≤a) (qq_s hg:w.heap.size≤a);clear HB;obtain⟨HB,c,q,s⟩:=n_;clear hb hbox hg) |((with_reducible refine Qgv (N:=3) rfl ?_);refine qq_e 3 #[.int .u64 k,.int .u32 p] 122 ?_;intro d hg ag hbox hb;have n_:=qn7 (Qfe (g:=a) (o:=.cells #[.int .u64 b,.int .u32 j] 122 (0,0)) qq_0 hb) (Qgk qq_b hb) (hbox) (qq_s hg:w.heap.size≤d) (qq_s hg:w.heap.size≤d) ((by rw[hg];exact Nat.ne_of_lt (Qeo (g:=a) (o:=.cells #[.int .u64 b,.int .u32 j] 122 (0,0)) qq_0):a≠d)) ((by rw[hg];exact Nat.ne_of_gt (Qeo (g:=a) (o:=.cells #[.int .u64 b,.int .u32 j] 122 (0,0)) qq_0):d≠a));clear c HB;obtain⟨c,HB,n,t,u,l,m⟩:=n_;clear hb hbox hg;have P:=l.out;have T:=m.out;obtain⟨z,A⟩:=qc2 c.out;have U:=Qeq c.out;obtain⟨B,D⟩:=qc2 n.out;have W:=Qeq n.out))
   go_ret
   exact⟨qq_7,qq_b⟩
  ·rw[if_neg c9]at H;have x:(b == k)=false:=beq_eq_false_iff_ne.mpr c9;have y:(b != k)=true:=bne_iff_ne.mpr c9;obtain rfl:=Option.some.inj H
   go_enter Tryz.func158,Tryz.ntmps158
   go_wp2_with (first |((with_reducible refine Qgv (N:=2) rfl ?_);refine qq_e 2 #[.int .u64 b,.int .u32 j] 122 ?_;intro a hg ah hbox hb;have n_:=qn4 (Qgk qq_b hb) (hbox) (qq_s hg:w.heap.size≤a) (qq_s hg:w.heap.size≤a);clear HB;obtain⟨HB,c,q,s⟩:=n_;clear hb hbox hg) |((with_reducible refine Qgv (N:=3) rfl ?_);refine qq_e 3 #[.int .u64 k,.int .u32 p] 122 ?_;intro d hg ai hbox hb;have n_:=qn7 (Qfe (g:=a) (o:=.cells #[.int .u64 b,.int .u32 j] 122 (0,0)) qq_0 hb) (Qgk qq_b hb) (hbox) (qq_s hg:w.heap.size≤d) (qq_s hg:w.heap.size≤d) ((by rw[hg];exact Nat.ne_of_lt (Qeo (g:=a) (o:=.cells #[.int .u64 b,.int .u32 j] 122 (0,0)) qq_0):a≠d)) ((by rw[hg];exact Nat.ne_of_gt (Qeo (g:=a) (o:=.cells #[.int .u64 b,.int .u32 j] 122 (0,0)) qq_0):d≠a));clear c HB;obtain⟨c,HB,n,t,u,l,m⟩:=n_;clear hb hbox hg;have X:=l.out;have Y:=m.out;obtain⟨E,G⟩:=qc2 c.out;have Z:=Qeq c.out;obtain⟨I,J⟩:=qc2 n.out;have aa:=Qeq n.out))
   go_ret
   exact⟨qq_7,qq_b⟩
end Go.Proofs.YtnnofopfbeklbaaGreat.C
end
